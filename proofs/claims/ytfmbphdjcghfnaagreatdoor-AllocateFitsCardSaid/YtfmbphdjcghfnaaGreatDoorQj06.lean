/- Lemmas: RgA, RgB, MoB, RgC, RgP, SegF, RgR, RgD, Qui, RgE, RxA, RgG, RgF, SpR, RgH, RgI, RgJ, RgK. -/
import Derived.Test.YtfmbphdjcghfnaaGreatDoorQj05
set_option maxRecDepth 100000
set_option maxHeartbeats 32000000
set_option linter.all false
open List renaming length→Wq,mem_range→DP,any_eq_true→GP,getElem?_eq_some_iff→AT,all_eq_true→An,mem_map→As,mem_filter→DS,any_eq_false→IS,mem_flatMap→BY,mem_singleton→AM,pairwise_iff_getElem→It,cons_append→IT,nil_append→GO
open Int renaming tmod_eq_emod_of_nonneg→OF
open Option renaming isSome_iff_exists→Ly
open Go.World renaming alloc→AI,cell?→AN
open Go.Value renaming int→Bm
open Go.IntKind renaming i64→Sj,u64→U8
open Go.Value renaming slice→FG,string→By,pointer→SL,bool→Ft,agg→Tk,tuple→Vj
open Go.Obj renaming cells→Sx
open Go.Ending renaming returned→S6
open Option renaming some→Vv,none→VX
open Bool renaming false→VN,true→VR
open Decidable renaming decide→V7
namespace Go.Proofs.YtfmbphdjcghfnaaGreatDoor
variable{gt:Prop}
open Go.Proofs.Tryz
open Go.RowKit Go.Maps Go.Shelf
variable {l:wy gy}{s:aB}{g:af}{k B:Nat}{v:ay}{x:eX}{r:aR}{α:Type}{P:Program}{Q:N2}{w w':H7}{c1 c6 c9 ZS ao Sf TO RK RW Rr SO Se St W0 ZD Wg Wr To UP aE ab eS da dj dq fs gE ff fb fa mT me ph qe qk mu mw mx nF pr o4 oE oR oS pe qt qv rl rm sE sa sd yk zd zp ad am an ar ax aL b7 b8 ba be bf bn bo bp bq br bu bv bx bA bB bL bN bV bt ca cb cc ce cf ci cl cn:zY}
variable{u:RH}{nm:H6}{c0 c10 c4 c5 c7 c8 v3:zY}{i n:Nat}{Tz b:Bool}{q z:Nat × Nat}
def mi{W:H7}{b:Nat}{l:RH}{t:TypeId}(h:W.1[b]?=Vv (Sx l.toArray t q))(i:Nat)(z:zY)(hz:l[i]?=Vv z):W.cell? (b,i)=Vv z:=by
 exact TcK
def KP:∀a b:wy UInt8,(Op.bytesLess a b||a==b)=!(Op.bytesLess b a)
 |[],[]=>rfl
 |[],_ :: _=>rfl
 |_ :: _,[]=>rfl
 |x :: a,y :: b=>by
  have ih:=KP a b;show((V7 (x<y)||(x==y&&Op.bytesLess a b))||(x==y&&a==b))=!(V7 (y<x)||(y==x&&Op.bytesLess b a));by_cases h:x=y
  ·subst h;have h1:V7 (x<x)=VN:=cN (by rw[UInt8.lt_iff_toNat_lt];omega);rw[h1,beq_self_eq_true,nj,Bool.true_and,Bool.true_and,nj,Bool.true_and];exact ih
  have h1:(x==y)=VN:=beq_eq_false_iff_ne.2 h;have h2:(y==x)=VN:=beq_eq_false_iff_ne.2 fun e=>h e.symm;rw[h1,h2,Bool.false_and,Bool.false_and,Bool.false_and,Bool.or_false,Bool.or_false,Bool.or_false,<- decide_not];refine decide_eq_decide.2 ?_;have h3:x.toNat≠y.toNat:=fun e=>h (UInt8.toNat_inj.1 e);rw[UInt8.lt_iff_toNat_lt,UInt8.lt_iff_toNat_lt];omega
def IZ{s:H6}(h:mr s=b)(hs:s.size<=9223372036854775807)(w:H7):Calls prog 53 #[By s] w fun e w'=>e=S6 (Ft b)/\w'=w:=by
 subst h;refine(Jz s w hs).mono ?_;rintro e w' ⟨h1,h2⟩;exact⟨h1,h2.symm⟩
def Hl{ok:LN}(l:QN){v:zY}(w:H7)(hr:ck aF 1 ok w [v] l)(hl:l.length<=1000000)(zc:∀s∈l,s.size<=9223372036854775807):Calls prog 147 #[v] w fun e w'=>e=S6 (Bm Sj (eP l))/\Below w.1.size w w':=by
 obtain⟨p,c,rfl,ai,ak⟩:=hr.cap;replace hr:=aa hr;replace zc:=aa zc;have HT:Hid (eP l=_):=aa (eP.eq_1 l);go_enter func147,ntmps147
 by_cases h8:8<l.length
 ·rw[aw h8]at HT;have hd:V7 ((8:Int)<(l.length:Int))=VR:=by simp;omega
  go_wp2;go_ret;exact⟨cz HT.o.symm,bj _ _⟩
 rw[bh h8]at HT;have hd:V7 ((8:Int)<(l.length:Int))=VN:=by simp;omega
 go_wp2;go_loopw[3] (fun i wr=>∃k:Nat,k<=l.length/\i=Bm Sj k/\(∀j,j<k->kV l j=VR)/\Below w.1.size w wr) (fun i _=>l.length-(intOf i).toNat)
 exact⟨0,cg _,rfl,fun j hj=>by omega,bj _ _⟩;obtain⟨k,hk,rfl,hall,hB⟩:=hrel;replace hall:=aa hall;by_cases hlt:k<l.length
 ·obtain⟨s,hs⟩:=aj l k hlt;obtain⟨b,off,us,rfl,_,cX,ez,eE,a9⟩:=hr.o.elem hs;obtain rfl:us=_:=eE;have q0:=(Sc hB cX).trans (a9 0 _ lX);rw[fp,fg]at q0;have HG:Hid (l.getD k ⟨#[]⟩=s):=aa (by simp[hs]);have Ud:=zc.o s (ct hs);clear a9 ez hs;have Mz:Hid (kV l k=_):=aa (kV.eq_1 l k);rw[HG.o]at Mz;have PZ:Hid (kV l k=VN->eP l=2):=aa fun h=>by
   rw[HT.o,bh];intro hh;rw[eL]at hh;rw[hh k (DP.2 hlt)]at h;cases h
  have kh:Hid (kV l k=VR->∀j,j<k+1->kV l j=VR):=aa fun h j hj=>by
   by_cases hjk:j=k
   ·exact hjk ▸ h
   exact hall.o j WQ
  have a7:=aa fun n=>aT hB n;cases ht:mr s with
  |false =>
   have Up:=aa (IZ ht Ud);have j9:Hid (kV l k=VN):=aa (by rw[Mz.o,ht];rfl);clear ht;go_upto_region 6 with(fail);go_quiet ((go_at_call 53;exact po (Up.o _)));go_wp2;go_ret;exact⟨cz (PZ.o j9.o).symm,a7.o _⟩
  |true =>
   have Up:=aa (IZ ht Ud);by_cases hk0:k<1
   ·have j9:Hid (kV l k=VR):=aa (by rw[Mz.o,ht,eA (show k=0 by omega)];rfl);have hg:V7 ((0:Int)<(k:Int))=VN:=by simp;omega
    have ae:V7 (0<k)=VN:=by simp;omega
    clear ht;go_upto_region 6 with(fail);go_quiet ((go_at_call 53;exact po (Up.o _)));go_wp2;go_roundw
    exact⟨k+1,WQ,Zf,kh.o j9.o,a7.o _⟩;exact Ti
   obtain⟨r,a8⟩:=aj l (k-1) WQ;obtain⟨b',af,ag,e',_,ah,TE,Tv,a5⟩:=hr.o.elem a8;obtain rfl:ag=_:=Tv;injection e' with e';injection e' with eb eo;subst eb;subst eo;have q1:=(Sc hB cX).trans (a5 0 _ lX);rw[fp,fg]at q1;have ab:l.getD (k-1) ⟨#[]⟩=r:=by simp[a8]
   rw[ab]at Mz;clear ab a5 TE ah a8;have hg:V7 ((0:Int)<(k:Int))=VR:=by simp;omega
   have ae:V7 (0<k)=VR:=by simp;omega
   cases hc:Op.bytesLess r.toList s.toList with
   |true =>
    have j9:Hid (kV l k=VR):=aa (by rw[Mz.o,ht,XY,hc];simp);have hle:(Op.bytesLess s.toList r.toList||s.toList==r.toList)=VN:=by rw[KP,hc];rfl
    clear ht;go_upto_region 6 with(fail);go_quiet ((go_at_call 53;exact po (Up.o _)));go_wp2;go_roundw
    exact⟨k+1,WQ,Zf,kh.o j9.o,a7.o _⟩;exact Ti
   |false =>
    have hle:(Op.bytesLess s.toList r.toList||s.toList==r.toList)=VR:=by rw[KP,hc];rfl
    have j9:Hid (kV l k=VN):=aa (by rw[Mz.o,ht,XY,hc,cN (show ¬k=0 by omega)];rfl);clear ht;go_upto_region 6 with(fail);go_quiet ((go_at_call 53;exact po (Up.o _)));go_wp2;go_ret;exact⟨cz (PZ.o j9.o).symm,a7.o _⟩
 go_wp2;go_ret;refine⟨cz (Eq.symm ?_),hB⟩;rw[HT.o,aw];rw[eL];exact fun j hj=>hall.o j (by have:=DP.1 hj;omega)
def Kj{ok:LN}(g:af)(a:iX)(w:H7)(hg:dN ok w g a)(hz:UT g):Calls prog 98 #[Tk (Zg g a)] w fun e w'=>e=S6 (Bm Sj (qX g))/\Below w.1.size w w':=by
 have HT:=aa hg.tags;have HH:=aa hg.hist;have HZ:=aa hz;have aE:=hz.hl;have ag:=hz.name;obtain⟨vp,vc,sT,aG,aH⟩:=hg.hist.cap;injection sT with e1 e2 e3;obtain⟨p6,c6,h6,ah,ai⟩:=hg.Gb.cap;obtain⟨p7,c7,h7,ak,am⟩:=hg.F9.cap;clear hg hz;obtain⟨ID,a7,a8,G3,G4,Ge,Hb,Hc⟩:=a;dsimp only at e1 e2 e3 h6 h7;subst e1;subst e3;clear e2 h6 h7 ah ai ak am;have HE:Hid (qX g=_):=aa (qX.eq_1 g);have CN:=aa (b9 w (Sx (Tap g ID a7 a8 G3 G4 Ge Hb Hc) 31));have hA:=ae w (Sx (Tap g ID a7 a8 G3 G4 Ge Hb Hc) 31);have cU:=aa hA;have n0:=mi CN.o 0 _ lX;clear hA;go_enter func98,ntmps98
 go_wp2_with fail;generalize RE:AI w _=W1 at *;have ao:w.1.size=w.1.size:=rfl;generalize aI:w.1.size=B at CN;clear RE ao n0;refine(yh g.name W1 ag).mono ?_;rintro e w2 ⟨rfl,hb2⟩;have cm:=YS cU hb2;have pH:=Zl hb2 CN;clear hb2 cU CN;have n2:=mi pH.o 2 _ lX;have n3:=mi pH.o 3 _ lX;have n4:=mi pH.o 4 _ lX;have n5:=mi pH.o 5 _ lX;have n6:=mi pH.o 6 _ lX;have n7:=mi pH.o 7 _ lX;have n8:=mi pH.o 8 _ lX;cases XV:jo g.name with
 |false =>
  rw[aw XV]at HE;clear XV;go_wp2;go_ret;exact⟨cz HE.o.symm,cm.o⟩
 |true =>
  rw[bh (by rw[XV];decide)]at HE;clear XV;by_cases hr:lm g
  ·rw[bh (fun h=>h hr)]at HE;obtain⟨r1,r2,r3,r4,r5,r6⟩:=hr;by_cases hl:iR g
   ·rw[bh (fun h=>h hl)]at HE;obtain⟨l1,l2,l3⟩:=hl;have d6:V7 ((8:Int)<(Wq g.Gb:Int))=VN:=by simp;omega
    have d7:V7 ((32:Int)<(Wq g.F9:Int))=VN:=by simp;omega
    have d8:V7 ((32:Int)<(Wq g.history:Int))=VN:=by simp;omega
    by_cases l5:Wq g.tags<=8
    ·have d5:V7 ((8:Int)<(Wq g.tags:Int))=VN:=by simp;omega
     go_wp2_with fail;refine(Hl (ok:=ok) g.tags w2 ((ck.moves aF.moves).mv (Mv.of cm.o) HT.o) HZ.o.tags.1 HZ.o.tags.2).mono ?_;rintro e w3 ⟨rfl,hb3⟩;have cJ:=YS cm hb3;have LS:=Zl hb3 pH;clear hb3 cm pH n2 n3 n4 n5 n6 n7 n8 d5 d6 d7 d8 l1 l2 l5 r1 r2 r3 r4 r5 r6;by_cases ht:eP g.tags=0
     ·have au:(eP g.tags != 0)=VN:=by rw[ht];rfl
      rw[bh (fun h=>h ht)]at HE;clear ht;go_wp2_with fail;go_loopw[4,5] (fun i _ wr=>∃k:Nat,k<=Wq g.history/\i=Bm Sj k/\Below w3.1.size w3 wr/\(∀j,j<k->lL (g.history.getD j (⟨#[]⟩,0,0))=VR)) (fun i _ _=>Wq g.history-(intOf i).toNat)
      exact⟨0,cg _,rfl,bj _ _,fun j hj=>by omega⟩;obtain⟨k,hk,rfl,a5,hall⟩:=hrel;have hB:=cJ.o.trans (a5.mono cJ.o.size);have n8:=mi ((a5.block _ (aq LS.o)).trans LS.o) 8 _ lX;replace a5:=aa a5;replace hall:=aa hall;by_cases hlt:k<Wq g.history
      ·obtain⟨h,hh⟩:=aj g.history k hlt;obtain⟨b,off,us,hbo,gR,cX,ez,eE,a9⟩:=HH.o.elem hh;subst hbo;obtain rfl:us=_:=eE;obtain⟨hn,hid,TD⟩:=h;have cT:wr.1[b]?=w.1[b]?:=hB.block b cX;have q0:=Mn cT a9;have av:=HZ.o.hist _ (ct hh);have HG:Hid (g.history.getD k (⟨#[]⟩,0,0)=(hn,hid,TD)):=aa (by simp[hh]);have PZ:Hid (lL (hn,hid,TD)=VN->qX g=2):=aa fun hb=>by
        rw[HE.o,bh];intro Yr;rw[eL]at Yr;rw[Yr _ (ct hh)]at hb;cases hb
       have kh:Hid (lL (hn,hid,TD)=VR->∀j,j<k+1->lL (g.history.getD j (⟨#[]⟩,0,0))=VR):=aa fun hb j hj=>by
        by_cases hjk:j=k
        ·subst hjk;rw[HG.o];exact hb
        exact hall.o j WQ
       have Mz:Hid (lL (hn,hid,TD)=_):=aa (lL.eq_1 (hn,hid,TD));clear a9 ez cT hh HG hall;have hA:=ae wr (Sx #[By hn,Bm U8 hid,Bm Sj TD] 75);have eI:=aa (hB.trans (hA.mono hB.size));have ab:=YS a5 hA;have VG:=aa (b9 wr (Sx #[By hn,Bm U8 hid,Bm Sj TD] 75));have m0:=mi VG.o 0 _ lX;clear hA a5;go_wp2_with fail;clear q0 m0;generalize ay:AI wr _=W4 at *;generalize az:wr.1.size=Bh at *;clear ay az hB n8;refine(yh hn W4 av).mono ?_;rintro e w5 ⟨rfl,hb5⟩;have eK:=YS eI hb5;have aA:=YS ab hb5;have m2:=mi ((hb5.block _ (aq VG.o)).trans VG.o) 2 _ lX;clear hb5 eI VG ab;cases ag4:jo hn with
       |false =>
        have j9:Hid (lL (hn,hid,TD)=VN):=aa (by rw[Mz.o,ag4];rfl);clear ag4;go_wp2;go_ret;exact⟨cz (PZ.o j9.o).symm,eK.o⟩
       |true =>
        by_cases hr2:0<=TD/\TD<=1048575
        ·have j9:Hid (lL (hn,hid,TD)=VR):=aa (by rw[Mz.o,ag4,eA hr2];rfl);obtain⟨s1,s2⟩:=hr2;clear ag4;go_wp2;go_roundw;exact⟨k+1,WQ,Zf,aA.o,kh.o j9.o⟩;exact Ti
        have j9:Hid (lL (hn,hid,TD)=VN):=aa (by rw[Mz.o,ag4,cN hr2];rfl);have aB:TD<0\/(0<=TD/\1048575<TD):=by omega
        clear ag4 hr2;rcases aB with s1|⟨s1,s2⟩
        all_goals
         go_wp2;go_ret;exact⟨cz (PZ.o j9.o).symm,eK.o⟩
      have HR:Hid (qX g=0):=aa (by
       rw[HE.o,aw];rw[eL];intro x hx;obtain⟨i,hi,rfl⟩:=List.getElem_of_mem hx;have:=hall.o i WQ;simpa[hi]using this)
      go_wp2;go_ret;exact⟨cz HR.o.symm,hB⟩
     have au:(eP g.tags != 0)=VR:=by simpa using ht
     rw[aw ht]at HE;clear ht;go_wp2_with fail;go_ret;exact⟨cz HE.o.symm,cJ.o⟩
    have d5:V7 ((8:Int)<(Wq g.tags:Int))=VR:=by simp;omega
    have ht:eP g.tags=4:=by unfold eP;rw[aw WQ]
    rw[aw (by rw[ht];decide),ht]at HE;clear ht;go_wp2;go_ret;exact⟨cz HE.o.symm,cm.o⟩
   rw[aw hl]at HE;have aC:8<Wq g.Gb\/(Wq g.Gb<=8/\32<Wq g.F9)\/(Wq g.Gb<=8/\Wq g.F9<=32/\32<Wq g.history):=by unfold iR at hl;omega
   clear hl;rcases aC with l1|⟨l1,l2⟩|⟨l1,l2,l3⟩
   ·have d6:V7 ((8:Int)<(Wq g.Gb:Int))=VR:=by simp;omega
    go_wp2;go_ret;exact⟨cz HE.o.symm,cm.o⟩
   ·have d6:V7 ((8:Int)<(Wq g.Gb:Int))=VN:=by simp;omega
    have d7:V7 ((32:Int)<(Wq g.F9:Int))=VR:=by simp;omega
    go_wp2;go_ret;exact⟨cz HE.o.symm,cm.o⟩
   have d6:V7 ((8:Int)<(Wq g.Gb:Int))=VN:=by simp;omega
   have d7:V7 ((32:Int)<(Wq g.F9:Int))=VN:=by simp;omega
   have d8:V7 ((32:Int)<(Wq g.history:Int))=VR:=by simp;omega
   go_wp2;go_ret;exact⟨cz HE.o.symm,cm.o⟩
  rw[aw hr]at HE;have aD:g.seq<0\/(0<=g.seq/\1048575<g.seq)\/(0<=g.seq/\g.seq<=1048575/\g.Gd<1)\/(0<=g.seq/\g.seq<=1048575/\1<=g.Gd/\1024<g.Gd)\/(0<=g.seq/\g.seq<=1048575/\1<=g.Gd/\g.Gd<=1024/\g.next<0)\/(0<=g.seq/\g.seq<=1048575/\1<=g.Gd/\g.Gd<=1024/\0<=g.next/\1073741824<g.next):=by unfold lm at hr;omega
  clear hr;rcases aD with r1|⟨r1,r2⟩|⟨r1,r2,r3⟩|⟨r1,r2,r3,r4⟩|⟨r1,r2,r3,r4,r5⟩|⟨r1,r2,r3,r4,r5,r6⟩
  all_goals
   go_wp2;go_ret;exact⟨cz HE.o.symm,cm.o⟩
def OkP(w:H7)(e:Ending)(w':H7):Prop:=e=S6 (Bm Sj 0)/\Below w.1.size w w'
def KA{d:az}(h:pg g k d=0):jo d.name=VR/\(∀j x,j<k->g.Gb[j]?=Vv x->(x.name.toList==d.name.toList)=VN/\(x.id==d.id)=VN)/\jQ g d/\eP d.tags=0:=by
 unfold pg at h;split at h
 ·cases h
 rename_i h1;split at h
 ·cases h
 rename_i h2;split at h
 ·cases h
 rename_i h3;refine⟨TdL,fun j x hj hx=>?_,Classical.not_not.1 h3,h⟩;have hm:x∈g.Gb.take k:=ct (i:=j) (by rw[ri hj];exact hx);have:dG d x=VN:=by
  cases hs:dG d x with
  |false=>rfl
  |true=>exact absurd (GP.2 ⟨x,hm,hs⟩) h2
 unfold dG at this;rwa[Bool.or_eq_false_iff]at this
def Hz(h:yH g k v=0):nE v=VR/\(∀j x,j<k->g.F9[j]?=Vv x->(x.name.toList==v.name.toList)=VN/\(x.id==v.id)=VN)/\(1<=Wq v.Gf/\Wq v.Gf<=64)/\eP v.tags=0:=by
 unfold yH at h;split at h
 ·cases h
 rename_i h1;split at h
 ·cases h
 rename_i h2;split at h
 ·cases h
 rename_i h3;refine⟨TdL,fun j x hj hx=>?_,Classical.not_not.1 h3,h⟩;have hm:x∈g.F9.take k:=ct (i:=j) (by rw[ri hj];exact hx);have:fC v x=VN:=by
  cases hs:fC v x with
  |false=>rfl
  |true=>exact absurd (GP.2 ⟨x,hm,hs⟩) h2
 unfold fC at this;rwa[Bool.or_eq_false_iff]at this
def Tc6(h:gt:=by
 go_wp2;go_ret;exact⟨rfl,eK.o⟩):=h
def Tb0(h:gt:=by
 rintro e w5 ⟨rfl,hb5⟩;rw[ht];have eK:=YS fy hb5;clear hb5;exact Tc6):=h
def Tch(h:gt:=by
 go_wp2;go_roundw;exact⟨j+1,WQ,Zf,Tp.o _⟩;exact Ti):=h
def KQ{ok:LN}(g:af)(a:iX)(k:Nat)(d:az)(w:H7)(hg:ck aO 7 ok w [FG a.dp (Wq g.Gb) a.dc] g.Gb)(hz:UT g)(hd:g.Gb[k]?=Vv d)(he:pg g k d=0)(hx:1<=g.Gd/\g.Gd<=1024):Calls prog 99 #[Tk (Zg g a),Bm Sj k] w (OkP w):=by
 obtain⟨hv,hno,⟨r1,r2,r3,r4,r5⟩,ht⟩:=KA he;replace hno:=aa hno;replace hg:=aa hg;have ak:=(AT.1 hd).1;have CD:=hz.dl;obtain⟨ag,WY⟩:=hz.disk d (ct hd);replace WY:=aa WY;have am:=oA r3 (show 0<=g.Gd by omega);have ao:IntKind.i64.wrap (d.Gc*g.Gd)=d.Gc*g.Gd:=dy _ WQ;have au:IntKind.i64.wrap (d.first+d.Gc*g.Gd)=d.first+d.Gc*g.Gd:=dy _ WQ;obtain⟨b,off,us,yp,gR,cX,ez,eE,ab⟩:=hg.o.elem hd;obtain⟨tv,rfl,ew⟩:=eE;obtain⟨tp,tc,rfl,_,_⟩:=ew.cap;replace yp:=aa yp;have hA1:=ae w (Sx (Zg g a) 31);have CN:=aa (b9 w (Sx (Zg g a) 31));have cT:=hA1.block b cX;go_enter func99,ntmps99
 go_upto_region 1 with(fail);generalize AI w _=W1 at *;generalize ad2:w.1.size=Bg at *;have a5:Below w.1.size w W1:=by rw[ad2];exact hA1
 have q0:=sw7 cT ab;have gX:=mi CN.o 6 _ lX;rw[yp.o]at gX;have hA2:=ae W1 (Sx (u0 d tp tc) 69);have sX:=aa (b9 W1 (Sx (u0 d tp tc) 69));have pH:=Zl hA2 CN;have cm:=aa (a5.trans (hA2.mono a5.size));have Hx:=aa ((ck.moves aF.moves).mv (Mv.of cm.o) ew);clear ab ez cT hd hA1 a5 hA2 ew CN he yp;go_upto_region 2 with(fail);clear q0 gX;generalize AI W1 _=W2 at *;generalize W1.1.size=Bd at *
 try rw[<- ad2]
 have d0:=mi sX.o 0 _ lX;go_wp2_with fail;clear d0;refine(yh d.name W2 ag).mono ?_;rintro e w3 ⟨rfl,hb3⟩;rw[hv];have cJ:=YS cm hb3;have n9:=Zl hb3 sX;have LS:=Zl hb3 pH;have ah:=aa ((ck.moves aF.moves).mv (Mv.of hb3) Hx.o);clear hb3 cm sX pH Hx;go_wp2;go_loopw[6] (fun i wr=>∃j:Nat,j<=k/\i=Bm Sj j/\Below w3.1.size w3 wr) (fun i _=>k-(intOf i).toNat)
 exact⟨0,cg _,rfl,bj _ _⟩;obtain⟨j,hj,rfl,hB⟩:=hrel;have dL:=mi ((hB.block _ (aq n9.o)).trans n9.o);by_cases hlt:j<k
 ·obtain⟨x,a9⟩:=aj g.Gb j WQ;obtain⟨hn1,hn2⟩:=hno.o j x hlt a9;obtain⟨b3,off3,av,a7,_,PV,_,Tr,a8⟩:=hg.o.elem a9;obtain⟨Ym,rfl,_⟩:=Tr;have g6:=mi ((hB.block _ (aq LS.o)).trans LS.o) 6 _ lX;rw[a7]at g6;have Tl:=(cJ.o.trans (hB.mono cJ.o.size)).block b3 PV;obtain⟨x0,x1⟩:=sw2 Tl a8;have d0:=dL 0 _ lX;have d1:=dL 1 _ lX;have Tp:Hid (∀n,Below w3.1.size w3 (wr.drewN n)):=aa fun n=>aT hB n;clear a8 a9 Tl dL hB a7
  go_upto_region 7 with(fail);go_quiet (fail);clear hn1 hn2 g6 x0 x1 d0 d1;exact Tch
 have d2:=dL 2 _ lX;have d3:=dL 3 _ lX;have d6:=dL 6 _ lX;have g3:=mi ((hB.block _ (aq LS.o)).trans LS.o) 3 _ lX;have fy:=YS cJ hB;have ai:=aa ((ck.moves aF.moves).mv (Mv.of hB) ah.o);clear dL hB;go_wp2_with fail;clear d2 d3 d6 g3;refine(Hl (ok:=ok) d.tags wr ai.o WY.o.1 WY.o.2).mono ?_;exact Tb0
def KC(s:H6)(w:H7)(hs:s.size<=9223372036854775807):Calls prog 148 #[By s] w fun e w'=>e=S6 (Ft (zH s))/\Below w.1.size w w':=by
 have:=Hm s.data.toList.length s.data.toList w (bk _) Td8;rwa[<- bytes_eta s]at this
def JO{ok:LN}(g:af)(a:iX)(k:Nat)(v:ay)(w:H7)(hg:ck aN 6 ok w [FG a.vp (Wq g.F9) a.vc] g.F9)(hz:UT g)(hd:g.F9[k]?=Vv v)(he:yH g k v=0):Calls prog 100 #[Tk (Zg g a),Bm Sj k] w (OkP w):=by
 obtain⟨hv,hno,⟨l1,l2⟩,ht⟩:=Hz he;replace hno:=aa hno;replace hg:=aa hg;have am:=(AT.1 hd).1;have CD:=hz.vl;obtain⟨ab,WY⟩:=hz.vol v (ct hd);replace WY:=aa WY;obtain⟨b,off,us,yp,gR,cX,ez,eE,ag⟩:=hg.o.elem hd;obtain⟨tv,sv,rfl,ew,gA⟩:=eE;obtain⟨tp,tc,rfl,_,_⟩:=ew.cap;obtain⟨sp,sc,rfl,_,_⟩:=gA.cap;replace yp:=aa yp;have hA1:=ae w (Sx (Zg g a) 31);have CN:=aa (b9 w (Sx (Zg g a) 31));have cT:=hA1.block b cX;go_enter func100,ntmps100
 go_upto_region 1 with(fail);generalize AI w _=W1 at *;generalize ad2:w.1.size=Bg at *;have a5:Below w.1.size w W1:=by rw[ad2];exact hA1
 have q0:=sw6 cT ag;have gX:=mi CN.o 7 _ lX;rw[yp.o]at gX;have hA2:=ae W1 (Sx (ZM v tp tc sp sc) 46);have sX:=aa (b9 W1 (Sx (ZM v tp tc sp sc) 46));have pH:=Zl hA2 CN;have cm:=aa (a5.trans (hA2.mono a5.size));have Hx:=aa ((ck.moves aF.moves).mv (Mv.of cm.o) ew);clear ag ez cT hd hA1 a5 hA2 ew gA CN he yp;go_upto_region 2 with(fail);clear q0 gX;generalize AI W1 _=W2 at *;generalize W1.1.size=Bd at *
 try rw[<- ad2]
 have d0:=mi sX.o 0 _ lX;have d2:=mi sX.o 2 _ lX;unfold nE at hv;have HCL:Hid (∀b,v.hidden=b->Calls prog (if b then 148 else 146) #[By v.name] W2 fun e w'=>e=S6 (Ft VR)/\Below W2.1.size W2 w'):=aa (by
  intro b hb;subst hb;cases hh:v.hidden with
  |true=>rw[hh,aw lX]at hv;rw[aw lX,<- hv];exact KC v.name W2 ab
  |false=>rw[hh,bh YR]at hv;rw[bh YR,<- hv];exact yh v.name W2 ab)
 clear hv;generalize ao:v.hidden=hd at *;have ah:Hid (W2.cell? (XM Bd 2)=Vv (Ft hd)):=aa d2;cases hd
 all_goals
  have Y6:=aa (HCL.o _ lX);simp only[pj,fY,ej]at Y6;clear HCL;go_wp2_with fail;clear d0 d2;refine Y6.o.mono ?_;rintro e w3 ⟨rfl,hb3⟩;have cJ:=YS cm hb3;have n9:=Zl hb3 sX;have LS:=Zl hb3 pH;have ai:=aa ((ck.moves aF.moves).mv (Mv.of hb3) Hx.o);have d2:=(Sc hb3 (aq sX.o)).trans ah.o;clear hb3 cm sX pH Hx Y6 ah;go_wp2;clear d2;go_loopw[6] (fun i wr=>∃j:Nat,j<=k/\i=Bm Sj j/\Below w3.1.size w3 wr) (fun i _=>k-(intOf i).toNat)
  exact⟨0,cg _,rfl,bj _ _⟩;obtain⟨j,hj,rfl,hB⟩:=hrel;have dL:=mi ((hB.block _ (aq n9.o)).trans n9.o);by_cases hlt:j<k
  ·obtain⟨x,a9⟩:=aj g.F9 j WQ;obtain⟨hn1,hn2⟩:=hno.o j x hlt a9;obtain⟨b3,off3,au,a7,_,PV,_,Tr,a8⟩:=hg.o.elem a9;obtain⟨Ym,sv3,rfl,_,_⟩:=Tr;have g7:=mi ((hB.block _ (aq LS.o)).trans LS.o) 7 _ lX;rw[a7]at g7;have Tl:=(cJ.o.trans (hB.mono cJ.o.size)).block b3 PV;obtain⟨x0,x1⟩:=sw2 Tl a8;have d0:=dL 0 _ lX;have d1:=dL 1 _ lX;have Tp:Hid (∀n,Below w3.1.size w3 (wr.drewN n)):=aa fun n=>aT hB n;clear a8 a9 Tl dL hB a7
   go_upto_region 7 with(fail);go_quiet (fail);clear hn1 hn2 g7 x0 x1 d0 d1;exact Tch
  have d4:=dL 4 _ lX;have d5:=dL 5 _ lX;have fy:=YS cJ hB;have ak:=aa ((ck.moves aF.moves).mv (Mv.of hB) ai.o);have e1:V7 ((Wq v.Gf:Int)<1)=VN:=cN WQ;have e2:V7 ((64:Int)<(Wq v.Gf:Int))=VN:=cN WQ;clear dL hB;go_wp2_with fail;clear d4 d5 e1 e2;refine(Hl (ok:=ok) v.tags wr ak.o WY.o.1 WY.o.2).mono ?_;exact Tb0
def DD{ext st:Int}(h:bJ ext s st=VR):∃x,shapeOf s.kind=Vv x/\s.start=st/\(1<=s.length/\s.length<=32768)/\(x.least<=Wq s.Ga/\Wq s.Ga<=x.greatest)/\s.Ga.all (bT x)=VR /\
  fq ext s.chunk x=VR/\(x.log||s.log.toList.isEmpty)=VR/\(x.pool||s.pool.toList.isEmpty)=VR/\dP s x=VR/\bE s.device 1 65535 x.pool=VR/\bE s.mode 1 2 x.mode=VR/\bE s.done 0 s.length x.done=VR /\
  (s.kind=2->s.length%(Wq s.Ga:Int)=0)/\(s.kind=4->s.length%((Wq s.Ga:Int)-1)=0):=by
 unfold bJ at h;cases hx:shapeOf s.kind with
 |none=>rw[hx]at h;cases h
 |some x =>
  rw[hx]at h;simp only[eh,fk,beq_iff_eq]at h;obtain⟨⟨⟨⟨⟨⟨⟨⟨⟨⟨⟨⟨⟨⟨h1,h2⟩,h3⟩,h4⟩,h5⟩,h6⟩,h7⟩,h8⟩,h9⟩,a8⟩,a9⟩,aa⟩,ab⟩,a5⟩,a7⟩:=h;refine⟨x,rfl,h1,⟨h2,h3⟩,⟨h4,h5⟩,h6,h7,h8,h9,a8,a9,aa,ab,fun hk=>?_,fun hk=>?_⟩
  ·rw[hk]at a5;simpa using a5
  rw[hk]at a7;simpa using a7
def MM{ok:LN}(g:af)(a:iX)(bc:Nat)(s:aB)(x:eX)(u:RH)(w:H7)(kB:gY w bc g a)(a5:0<=g.Gd)(a9:g.Gd<=1000000)(hv:bC ok w u s)(hm:fq g.Gd s.chunk x=VR):Calls prog 124 #[SL (Vv bc),Tk u.toArray,Tk (dm x).toArray] w fun e w'=>e=S6 (Ft VR)/\Below w.1.size w w':=by
 unfold dm;have jt:=kB.lt;obtain⟨av,Rn,rfl,o0,hst⟩:=hv;obtain⟨ap,ac,rfl,ab,ag⟩:=o0.cap;obtain⟨eN,eR,rfl,a7,a8⟩:=hst.cap;clear o0 hst;obtain⟨sm,ga,_⟩:=kB;unfold fq at hm;have cm:=aa ((ae w (Sx (ZN s ap ac eN eR) 55)).trans ((ae (w.alloc (Sx (ZN s ap ac eN eR) 55)) (Sx (Tan x) 124)).mono (ae w (Sx (ZN s ap ac eN eR) 55)).size));have c3:((w.alloc (Sx (ZN s ap ac eN eR) 55)).alloc (Sx (Tan x) 124)).cell? (XM bc 3)=Vv (Bm Sj g.Gd):=(cd (a:=⟨bc,3,VX⟩) (cm.o.block bc jt)).trans (by simp[AN,ga]);have x4:((w.alloc (Sx (ZN s ap ac eN eR) 55)).alloc (Sx (Tan x) 124)).cell? (XM (w.1.size+1) 4)=Vv (Bm Sj x.chunk):=aD XN lX;have s4:((w.alloc (Sx (ZN s ap ac eN eR) 55)).alloc (Sx (Tan x) 124)).cell? (XM w.1.size 4)=Vv (Bm Sj s.chunk):=(cd (a:=⟨w.1.size,4,VX⟩) (cj _ _ _ XN)).trans (aD lX rfl);clear ga;by_cases h0:x.chunk=0
 ·have q:(x.chunk==0)=VR:=by simpa using h0
  rw[aw h0]at hm;have HM:=aa hm;clear h0 hm;go_enter func124,ntmps124;go_wp2;go_ret;exact⟨ah HM.o,cm.o⟩
 have q:(x.chunk==0)=VN:=by simpa using h0
 rw[bh h0]at hm;by_cases h1:x.chunk=1
 ·rw[aw h1,eh,fk]at hm;have q1:(x.chunk==1)=VR:=by simpa using h1
  obtain⟨hc,hr⟩:=hm;have HM:=aa hr;have e1:g.Gd.tmod s.chunk=g.Gd%s.chunk:=OF a5;have e0:0<=g.Gd%s.chunk:=Int.emod_nonneg _ WQ;have e2:g.Gd%s.chunk<=g.Gd:=by
   rw[Int.emod_def];have:=oA (show 0<=s.chunk by omega) (lz a5 (show 0<=s.chunk by omega));omega
  have e3:IntKind.i64.wrap (g.Gd%s.chunk)=g.Gd%s.chunk:=dy _ WQ;have e4:(s.chunk==0)=VN:=by simp;omega
  clear h0 h1 hr;go_enter func124,ntmps124;go_wp2;go_quiet (fail);go_wp2;go_ret;exact⟨ah HM.o,aT cm.o _⟩
 rw[bh h1,eh,fk,fk]at hm;have q1:(x.chunk==1)=VN:=by simpa using h1
 obtain⟨hc,hd⟩:=hm;clear h0 h1;go_enter func124,ntmps124;go_wp2;go_ret;exact⟨rfl,cm.o⟩
def Mo{ok:LN}(g:af)(a:iX)(bc:Nat)(s:aB)(x:eX)(cx:RH)(w:H7)(kB:gY w bc g a)(a5:0<=g.Gd)(a7:g.Gd<=1000000)(hv:bC ok w u s)(hc:cx=dm x)(hm:fq g.Gd s.chunk x=VR):Calls prog 124 #[SL (Vv bc),Tk u.toArray,Tk cx.toArray] w fun e w'=>e=S6 (Ft VR)/\Below w.1.size w w':=by
 subst hc;exact MM g a bc s x u w kB a5 a7 hv hm
def Tcr(h:gt:=by
 go_wp2;go_round;exact⟨k+1,WQ,Zf⟩;exact Ti):=h
def NW{ok:LN}(s:aB)(x:eX)(u:RH)(w:H7)(hv:bC ok w u s)(ha:Wq s.Ga<=1000000)(hl:Wq s.stale<=1000000)(hm:dP s x=VR):Calls prog 125 #[Tk u.toArray,Tk (dm x).toArray] w fun e w'=>e=S6 (Ft VR)/\Below w.1.size w w':=by
 unfold dm;obtain⟨av,Rn,rfl,o0,hst⟩:=hv;obtain⟨ap,ac,rfl,am,ao⟩:=o0.cap;obtain⟨eN,eR,rfl,af,ag⟩:=hst.cap;replace hst:=aa hst;clear o0;have HM:=aa (fun k (hk:k<Wq s.stale)=>An.1 hm k (DP.2 hk));clear hm;have hA1:=ae w (Sx (ZN s ap ac eN eR) 55);have cm:=aa (hA1.trans ((ae (w.alloc (Sx (ZN s ap ac eN eR) 55)) (Sx (Tan x) 124)).mono hA1.size));have x5:((w.alloc (Sx (ZN s ap ac eN eR) 55)).alloc (Sx (Tan x) 124)).cell? (XM (w.1.size+1) 5)=Vv (Ft x.stale):=aD XN lX;have s5:((w.alloc (Sx (ZN s ap ac eN eR) 55)).alloc (Sx (Tan x) 124)).cell? (XM w.1.size 5)=Vv (FG eN (Wq s.stale) eR):=(cd (a:=⟨w.1.size,5,VX⟩) (cj _ _ _ XN)).trans (aD lX rfl);clear hA1;cases Fi:s.log.toList.isEmpty
 all_goals
  rw[Fi]at HM;go_enter func125,ntmps125;go_wp2;generalize AI (AI w _) _=W at *
  go_loop[19,6,7] (fun i _ _=>∃k:Nat,k<=Wq s.stale/\i=Bm Sj k) (fun i _ _=>Wq s.stale-(intOf i).toNat)
  exact⟨0,cg _,rfl⟩;obtain⟨k,hk,rfl⟩:=hrel;by_cases hlt:k<Wq s.stale
  ·obtain⟨n,hn⟩:=aj s.stale k hlt;obtain⟨b,off,us,rfl,_,cX,ez,eE,a7⟩:=hst.o.elem hn;obtain rfl:us=_:=eE;have q0:=(Sc cm.o cX).trans (a7 0 _ lX);rw[fp,fg]at q0;have a8:s.stale.getD k 0=n:=by simp[hn]
   have h:=HM.o k hlt;unfold bR at h;rw[a8]at h;simp only[eh,tG,fk,ej,fY,pj]at h;obtain⟨⟨⟨a9,h0⟩,h1⟩,h4⟩:=h;rw[a9]at x5;clear a9 a8 a7 ez hn;by_cases hk0:k<1
   ·clear h4;exact Tcr
   obtain⟨m,hm⟩:=aj s.stale (k-1) WQ;obtain⟨b',ah,ai,e',_,ak,TE,Tv,a5⟩:=hst.o.elem hm;obtain rfl:ai=_:=Tv;injection e' with e';injection e' with eb eo;subst eb;subst eo;have q1:=(Sc cm.o cX).trans (a5 0 _ lX);rw[fp,fg]at q1;have ab:s.stale.getD (k-1) 0=m:=by simp[hm]
   rw[ab]at h4;have h2:m<n:=h4.resolve_left WQ;clear h4 ab a5 TE ak hm;exact Tcr
  go_wp2;go_ret;exact⟨rfl,cm.o⟩
def Li{ok:LN}(s:aB)(x:eX)(cx:RH)(w:H7)(hv:bC ok w u s)(ha:Wq s.Ga<=1000000)(hl:Wq s.stale<=1000000)(hc:cx=dm x)(hm:dP s x=VR):Calls prog 125 #[Tk u.toArray,Tk cx.toArray] w fun e w'=>e=S6 (Ft VR)/\Below w.1.size w w':=by
 subst hc;exact NW s x u w hv ha hl hm
theorem N8{ok:LN}(g:af){a:iX}(bc:Nat)(s:aB)(start:Int)(w:H7)(kB:gY w bc g a)(aL:0<=g.Gd)(aM:g.Gd<=1000000)(hv:bC ok w u s)(ha:Wq s.Ga<=1000000)(hl:Wq s.stale<=1000000)(TY:(Lit.int Sj s.kind).wf=VR)(hF:bJ g.Gd s start=VR):Calls prog 68 #[SL (Vv bc),Tk u.toArray,.int Sj start] w fun e w'=>e=S6 (.bool VR)/\Below w.1.size w w':=by
 have jt:=kB.lt;have HV:=aa hv;obtain⟨av,Rn,rfl,o0,hst⟩:=hv;obtain⟨ap,ac,rfl,aS,aT⟩:=o0.cap;obtain⟨eN,eR,rfl,aN,aO⟩:=hst.cap;replace o0:=aa o0;clear hst;have I3:=aa kB;obtain⟨sm,ga,TZ⟩:=kB;have cU:=aa (ae w (Sx (ZN s ap ac eN eR) 55));have ag:=fun w' (hm:bi prog 3 w' sm 10 eH)=>(hm.look pF underlying96 (uG w') (lA underlying3 TY)).2;rw[uA]at ag;obtain⟨x,hx⟩:∃x,x=oO s.kind:=⟨_,rfl⟩;rw[<- hx,show jR x=Tk (Tan x) from lX]at ag;replace hx:=aa hx;replace ag:=aa ag;have ao:=cr ga 9 _ lX
 replace TZ:=aa TZ;have Vi:=TZ.o.lt;clear ga;have hS:∀w':H7,Below w.1.size w w'->w'.cell? (XM w.1.size 2)=Vv (.int Sj s.kind)->w'.cell? (XM bc 9)=Vv (.map (Vv sm))/\w'.cell? (XM w.1.size 2)=Vv (.int Sj s.kind)/\(Instr.lookup 96 (.map (Vv sm)) (.int Sj s.kind) VR).run prog w'=.ok (Vj #[Tk (Tan x),.bool (eH (.int Sj s.kind)).isSome]) w':=fun w' hb h2 =>
  ⟨(Sc hb jt).trans ao,h2,ag.o w' (TZ.o.block (hb.block _ Vi))⟩
 replace hS:=aa hS;clear ao;go_enter func68,ntmps68;go_wp2;generalize RE:AI w _=W1 at *;have hk2:W1.cell? (XM w.1.size 2)=Vv (.int Sj s.kind):=by rw[<- RE];exact aD lX rfl
 have a9:=aa RE;clear RE;refine gW (fun w'=>w'.cell? (XM bc 9)=Vv (.map (Vv sm))/\w'.cell? (XM w.1.size 2)=Vv (.int Sj s.kind)/\(Instr.lookup 96 (.map (Vv sm)) (.int Sj s.kind) VR).run prog w'=.ok (Vj #[Tk (Tan x),.bool (eH (.int Sj s.kind)).isSome]) w') 13 [] Yp (hS.o _ cU.o.drew hk2) (fun a5=>?_);refine fS 0 a5 ?_;refine fS 1 a5 ?_;refine fS 2 a5 ?_;refine fS 3 a5 ?_;refine fS 4 a5 ?_;refine fS 5 a5 ?_;refine fS 6 a5 ?_;refine fS 7 a5 ?_;refine fS 8 a5 ?_;refine fS 9 a5 ?_;refine lR 10 fun K hK=>?_;go_simp;have cm:Hid (Below w.1.size w (W1.drew.alloc (Sx #[.int Sj 0,.int Sj 0,VN,VN,.int Sj 0,VN,VN,VN,VN,VN] 124))):=aa (cU.o.drew.alloc (by have:=cU.o.size;simpa using this) _);refine hK.o _ _ (hS.o _ cm.o ?_) ?_
 ·exact(cd (a:=⟨w.1.size,2,VX⟩) (cj _ _ _ (by simpa using cP W1 _ hk2))).trans hk2
 clear hK K;refine lR 11 fun K hK=>?_;go_simp;have cJ:Hid (Below w.1.size w (W1.alloc (Sx (Tan x) 124)).drew):=aa ((cU.o.alloc cU.o.size _).drew);have hk3:(W1.alloc (Sx (Tan x) 124)).drew.cell? (XM w.1.size 2)=Vv (.int Sj s.kind):=(cd (a:=⟨w.1.size,2,VX⟩) (cj _ _ _ (cP W1 _ hk2))).trans hk2;refine hK.o _ _ (hS.o _ cJ.o hk3) ?_;clear hK K;refine lR 12 fun K hK=>?_;go_simp;refine hK.o _ _ (hS.o _ cJ.o hk3) ?_;clear hK K a5;refine aP Yp lX ?_;simp only[cQ,km,cL];have Yg:w.1.size<W1.1.size:=cP W1 _ hk2;have HN:=aa (b9 W1 (Sx (Tan x) 124));have HG:Hid ((W1.alloc (Sx (Tan x) 124)).drew.1[w.1.size]?=Vv (Sx (ZN s ap ac eN eR) 55 (0,0))):=aa ((cj _ _ _ Yg).trans (by show W1.1[w.1.size]?=_;rw[<- a9.o];exact b9 w _));have hz:(W1.alloc (Sx (Tan x) 124)).drew.1.size=W1.1.size+1:=by simp
 have HN:Hid ((W1.alloc (Sx (Tan x) 124)).drew.1[W1.1.size]?=Vv (Sx (Tan x) 124 (0,0))):=HN;clear hk2 hk3 cm hS ag;generalize ai:World.drew (AI W1 _)=W2 at *;generalize aQ:W1.1.size=Bs at *;clear ai aQ a9;have a8:∀(j:Nat) (z:zY),[.int Sj x.least,.int Sj x.greatest,.bool x.F9,.bool x.several,.int Sj x.chunk,.bool x.stale,.bool x.pool,.bool x.log,.bool x.mode,.bool x.done][j]?=Vv z->∀wr:H7,wr.1[Bs]?=W2.1[Bs]?->wr.cell? ⟨Bs,j,VX⟩=Vv z:=fun j z hz wr am=>by
  simp only[AN,am,HN.o];simpa using hz
 have a7:∀(j:Nat) (z:zY),[.int Sj s.start,.int Sj s.length,.int Sj s.kind,FG ap (Wq s.Ga) ac,.int Sj s.chunk,FG eN (Wq s.stale) eR,.string s.log,.string s.pool,.int Sj s.device,.int Sj s.mode,.int Sj s.done][j]?=Vv z->∀wr:H7,wr.1[w.1.size]?=W2.1[w.1.size]?->wr.cell? ⟨w.1.size,j,VX⟩=Vv z:=fun j z hz wr am=>by
  simp only[AN,am,HG.o];simpa using hz
 replace a8:=aa a8;replace a7:=aa a7;have x0:=a8.o 0 _ lX W2 lX;have x1:=a8.o 1 _ lX W2 lX;have s0:=a7.o 0 _ lX W2 lX;have s1:=a7.o 1 _ lX W2 lX;have s3:=a7.o 3 _ lX W2 lX;obtain⟨x',KB,c1,⟨c2,c3⟩,⟨c4,c5⟩,aq,au,YG,aw,ay,RE,ai,az,aA,aC⟩:=DD hF;have hi:(eH (.int Sj s.kind)).isSome=VR:=by rw[show eH (.int Sj s.kind)=(shapeOf s.kind).map jR from lX,KB];rfl
 obtain rfl:x=x':=by rw[hx.o];simp[oO,KB]
 have HP:=aa (⟨KB,aq,au,YG,aw,ay,RE,ai,az,aA,aC⟩:_/\_/\_/\_/\_/\_/\_/\_/\_/\_/\_);clear KB aq au YG aw ay RE ai az aA aC hF hx;generalize (eH (.int Sj s.kind)).isSome=isx at *;subst hi;have QX:Hid (0<=s.length/\x.least<=(Wq s.Ga:Int)):=aa ⟨WQ,c4⟩;have d1:(s.start != start)=VN:=by simp[c1]
 have d2:V7 (s.length<1)=VN:=by simp;omega
 have d3:V7 (32768<s.length)=VN:=by simp;omega
 have d4:V7 ((Wq s.Ga:Int)<x.least)=VN:=by simp;omega
 have d5:V7 (x.greatest<(Wq s.Ga:Int))=VN:=by simp;omega
 clear c1 c2 c3 c4 c5;have x2:=a8.o 2 _ lX W2 lX;go_wp2;go_loopw[59] (fun i wr=>∃k:Nat,k<=Wq s.Ga/\i=.int Sj k/\Below w.1.size w wr/\wr.1[w.1.size]?=W2.1[w.1.size]?/\wr.1[Bs]?=W2.1[Bs]?/\Bs<wr.1.size) (fun i _=>Wq s.Ga-(intOf i).toNat)
 exact⟨0,cg _,rfl,cJ.o,rfl,rfl,WQ⟩;clear x0 x1 x2 s0 s1 s3 d1 d2 d3 d4 d5;obtain⟨k,hk,rfl,hB,aE,ab,hbz⟩:=hrel;have a9:=aa aE;clear aE;replace ab:=aa ab;by_cases hlt:k<Wq s.Ga
 ·obtain⟨r,hr⟩:=aj s.Ga k hlt;obtain⟨b,off,us,rfl,_,cX,ez,eE,aF⟩:=o0.o.elem hr;obtain rfl:us=_:=eE;have cT:wr.1[b]?=w.1[b]?:=hB.block b cX;obtain⟨q0,q1,q2⟩:=Mn cT aF;have x2:=a8.o 2 _ lX wr ab.o;have gw:=An.1 HP.o.2.1 r (ct hr);unfold bT at gw;rw[eh]at gw;have rel:Hid (∀o:Obj,∃k':Nat,k'<=Wq s.Ga/\Bm Sj ((k:Int)+1)=.int Sj k'/\Below w.1.size w (wr.alloc o)/\(wr.alloc o).1[w.1.size]?=W2.1[w.1.size]?/\(wr.alloc o).1[Bs]?=W2.1[Bs]?/\Bs<(wr.alloc o).1.size):=aa fun o =>
   ⟨k+1,WQ,Zf,hB.alloc hB.size _,(cj _ _ _ WQ).trans a9.o,(cj _ _ _ hbz).trans ab.o,ZY⟩
  clear aF ez hr cT;have hrv:r.vol=x.F9:=by simpa using gw.1
  rw[<- hrv]at x2;have ak:=gw.2;clear gw hrv;cases hv:r.vol with
  |true =>
   rw[hv]at x2 q0;have e2:(r.start != 0)=VN:=by
    rw[hv]at ak;simpa using ak
   clear ak hv;go_wp2;go_roundw;exact rel.o _;exact Ti
  |false =>
   rw[hv]at x2 q0;clear ak hv;go_wp2;go_roundw;exact rel.o _;exact Ti
 have aU:k=Wq s.Ga:=by omega
 have xL:=fun j z hz=>a8.o j z hz wr ab.o;have sL:=fun j z hz=>a7.o j z hz wr a9.o;obtain⟨s0,s1,s2,s3,s4,s5,s6,s7,s8,s9,ah⟩:=IC sL;obtain⟨x0,x1,x2,x3,x4,x5,x6,x7,x8,x9⟩:=IG xL;have nw:=aa (Mo g a bc s x (dm x) wr (I3.o.below hB) aL aM (bC.moves.mv (Mv.of hB) HV.o) lX HP.o.2.2.1);clear sL xL
 go_wp2_with fail;refine nw.o.mono ?_;clear nw;rintro e w3 ⟨rfl,hb3⟩;have eI:=aa (hB.trans (hb3.mono hB.size));have aG:=aa ((hb3.block _ WQ).trans a9.o);have aH:=aa ((hb3.block _ hbz).trans ab.o);have QZ:Hid (Bs<w3.1.size):=aa (cC hbz hb3.size);clear hb3 a9 ab hB s0 s1 s2 s3 s4 s5 s6 s7 s8 s9 ah x0 x1 x2 x3 x4 x5 x6 x7 x8 x9;have xL:=fun j z hz=>a8.o j z hz w3 aH.o;have sL:=fun j z hz=>a7.o j z hz w3 aG.o;obtain⟨s0,s1,s2,s3,s4,s5,s6,s7,s8,s9,ah⟩:=IC sL;obtain⟨x0,x1,x2,x3,x4,x5,x6,x7,x8,x9⟩:=IG xL;clear sL xL;have sq:=aa (Li s x (dm x) w3 (bC.moves.mv (Mv.of eI.o) HV.o) ha hl lX HP.o.2.2.2.2.2.1);have aI:=HP.o.2.2.2.1;have Uv:=HP.o.2.2.2.2.1
 have k1:x.log=VR\/(x.log=VN/\s.log.toList.isEmpty=VR):=by
  revert aI
  cases x.log<;>simp
 have k2:x.pool=VR\/(x.pool=VN/\s.pool.toList.isEmpty=VR):=by
  revert Uv
  cases x.pool<;>simp
 clear aI Uv;rcases k1 with k1|⟨k1,k1'⟩<;>rcases k2 with k2|⟨k2,aV⟩
 all_goals
  rw[k1]at x7;rw[k2]at x6;go_wp2_with fail;refine(Li s x _ _ (bC.moves.mv (Mv.of eI.o) HV.o) ha hl (by simp[dm,k1,k2]) HP.o.2.2.2.2.2.1).mono ?_;rintro e w5 ⟨rfl,hb5⟩;have eK:=YS eI hb5;have Lz:=aa ((hb5.block _ (by have:=eI.o.size;have:=QZ.o;omega)).trans aG.o);have Vl:=aa ((hb5.block _ QZ.o).trans aH.o);clear hb5 s0 s1 s2 s3 s4 s5 s6 s7 s8 s9 ah x0 x1 x2 x3 x4 x5 x6 x7 x8 x9;have s1:=a7.o 1 _ lX w5 Lz.o;have s2:=a7.o 2 _ lX w5 Lz.o;have s3:=a7.o 3 _ lX w5 Lz.o;have s8:=a7.o 8 _ lX w5 Lz.o;have s9:=a7.o 9 _ lX w5 Lz.o;have ah:=a7.o 10 _ lX w5 Lz.o;have x6:=a8.o 6 _ lX w5 Vl.o;have x8:=a8.o 8 _ lX w5 Vl.o;have x9:=a8.o 9 _ lX w5 Vl.o;have hd:=HP.o.2.2.2.2.2.2.1;rw[k2]at hd;have Tc:=HP.o.2.2.2.2.2.2.2.1;have aJ:=HP.o.2.2.2.2.2.2.2.2.1;go_wp2_with fail;refine(di _ _ _ _ _).mono ?_;rintro e w6 ⟨rfl,rfl⟩;rw[hd];go_wp2_with fail;refine(di _ _ _ _ _).mono ?_;rintro e w6 ⟨rfl,rfl⟩;rw[Tc];go_wp2_with fail;refine(di _ _ _ _ _).mono ?_;rintro e w6 ⟨rfl,rfl⟩;rw[aJ];clear hd Tc aJ s8 s9 ah x6 x8 x9 k1 k2;by_cases hk2:s.kind=2
  ·have aR:(s.kind==2)=VR:=by simpa using hk2
   have aK:(s.kind==4)=VN:=by rw[hk2];rfl
   have h1:=HP.o.1;rw[hk2]at h1;have h2:=lu h1;have h3:=QX.o.2;have hal:2<=Wq s.Ga:=by omega
   have e0:((Wq s.Ga:Int)==0)=VN:=by rw[beq_eq_false_iff_ne];omega
   have e1:s.length.tmod (Wq s.Ga:Int)=s.length%(Wq s.Ga:Int):=OF QX.o.1;have Vm:(s.length%(Wq s.Ga:Int) != 0)=VN:=by simpa using HP.o.2.2.2.2.2.2.2.2.2.1 hk2
   clear h1 h2 h3;exact Tc6
  have aR:(s.kind==2)=VN:=by simpa using hk2
  by_cases hk4:s.kind=4
  ·have aK:(s.kind==4)=VR:=by simpa using hk4
   have h1:=HP.o.1;rw[hk4]at h1;have h2:=kC h1;have h3:=QX.o.2;have hal:3<=Wq s.Ga:=by omega
   have e0:((Wq s.Ga:Int)-1==0)=VN:=by simp;omega
   have e1:s.length.tmod ((Wq s.Ga:Int)-1)=s.length%((Wq s.Ga:Int)-1):=OF QX.o.1;have Vm:(s.length%((Wq s.Ga:Int)-1) != 0)=VN:=by simpa using HP.o.2.2.2.2.2.2.2.2.2.2 hk4
   clear h1 h2 h3 hk2 hk4;exact Tc6
  have aK:(s.kind==4)=VN:=by simpa using hk4
  clear hk2 hk4;exact Tc6
def Kb(x:eX):RH:=[Bm Sj x.least,Bm Sj x.greatest,Ft x.F9,Ft (x.chunk != 0),Ft x.stale,Ft x.log,Ft x.pool,Ft x.mode,Ft x.done]
def pM{k:Int}(h:shapeOf k=Vv x):k=1\/k=2\/k=3\/k=4\/k=5\/k=6\/k=7\/k=8\/k=9\/k=10:=by
 refine Classical.byContradiction fun q=>?_;simp only[not_or]at q;obtain⟨h1,h2,h3,h4,h5,h6,h7,h8,h9,a5⟩:=q;unfold shapeOf at h;rw[bh h1,bh h2,bh h3,bh h4,bh h5,bh h6,bh h7,bh h8,bh h9,bh a5]at h;cases h
def Jv(k:Int)(x:eX)(w:H7)(h:shapeOf k=Vv x):Calls prog 149 #[Bm Sj k] w fun e w'=>e=S6 (Vj #[Tk (Kb x).toArray,VR])/\Below w.1.size w w':=by
 have hL:=mi (b9 w (Sx (Kb x).toArray 195));have hF:∀u,u=Value.agg (Kb x).toArray->(Ending.returned (Vj #[u,VR])=S6 (Vj #[Tk (Kb x).toArray,VR])):=fun u h=>by rw[h]
 rcases pM h with rfl|rfl|rfl|rfl|rfl|rfl|rfl|rfl|rfl|rfl
 all_goals
  injection h with h;subst h;simp only[Kb,Int.reduceBNe]at hL;obtain⟨r0,r1,r2,r3,r4,r5,r6,r7,r8⟩:=xr hL;clear hL;go_enter func149,ntmps149;go_wp2;exact eC (by simp[results,Tryz.results149,go_sem,r0,r1,r2,r3,r4,r5,r6,r7,r8];rfl) lX ⟨hF _ lX,ae w _⟩
def JZ(s:aB):Int:=(Wq s.Ga:Int)-1+if s.kind=3/\s.log.toList.isEmpty=VN then 1 else 0
def J3(s:aB):Prop:=∀(i:Nat) (n:Int),s.stale[i]?=Vv n->0<=n/\n<=JZ s/\(i=0\/∃m,s.stale[i-1]?=Vv m/\m<n)
def KJ(hx:shapeOf s.kind=Vv x)(hl:(x.log||s.log.toList.isEmpty)=VR)(hm:dP s x=VR):J3 s:=by
 intro i n hi;have a5:=(AT.1 hi).1;unfold dP at hm;have h:=An.1 hm i (DP.2 a5);have hg:s.stale.getD i 0=n:=by simp[hi]
 unfold bR at h;rw[hg]at h;simp only[eh,fk,tG]at h;obtain⟨⟨⟨h1,h2⟩,h3⟩,h4⟩:=h;refine⟨h2,?_,?_⟩
 ·unfold JZ
  cases Fi:s.log.toList.isEmpty with
  |true =>
   rw[Fi]at h3;rw[bh (fun q=>by cases q.2)];simp only[ej]at h3;omega
  |false =>
   rw[Fi]at h3 hl;have hk:s.kind=3:=by
    rcases pM hx with h|h|h|h|h|h|h|h|h|h<;>rw[h]at hx<;>injection hx with hx<;>subst hx<;>first|exact h|(exact absurd hl YR)
   rw[aw ⟨hk,rfl⟩];simp only[pj,fY]at h3;omega
 rcases h4 with h4|h4
 ·exact .inl h4
 by_cases h0:i=0
 ·exact .inl h0
 obtain⟨m,hm'⟩:=aj s.stale (i-1) WQ;refine .inr ⟨m,hm',?_⟩;have:s.stale.getD (i-1) 0=m:=by simp[hm']
 rwa[this]at h4
def TcN(h:gt:=by
 go_wp2;go_ret;exact⟨rfl,fy.o⟩):=h
def Tci(h:gt:=by
 go_wp2;go_roundw;exact⟨k+1,WQ,Zf,Tp.o _⟩;exact Ti):=h
def IQ{ok:LN}(s:aB)(w:H7)(hv:bC ok w u s)(ha:Wq s.Ga<=1000000)(hl:Wq s.stale<=1000000)(hs:J3 s):Calls prog 151 #[Tk u.toArray] w fun e w'=>e=S6 (Ft VR)/\Below w.1.size w w':=by
 obtain⟨av,Rn,rfl,o0,hst⟩:=hv;obtain⟨ap,ac,rfl,_,_⟩:=o0.cap;obtain⟨eN,eR,rfl,_,_⟩:=hst.cap;replace hst:=aa hst;clear o0;replace hs:=aa hs;have hA:=ae w (Sx (ZN s ap ac eN eR) 55);have lj:=aa (b9 w (Sx (ZN s ap ac eN eR) 55));replace hA:=aa hA;go_enter func151,ntmps151
 go_upto_region 1 with(fail);generalize AI w _=W1 at *;generalize ah:w.1.size=Bs at lj ⊢;have sL:=mi lj.o;have s2:=sL 2 _ lX;have s3:=sL 3 _ lX;have s6:=sL 6 _ lX;clear sL;have a9:∃hi:Int,JZ s=hi/\((s.kind==3)=VN/\IntKind.i64.wrap ((Wq s.Ga:Int)-1)=hi\/(s.kind==3)=VR/\s.log.toList.isEmpty=VR/\IntKind.i64.wrap ((Wq s.Ga:Int)-1)=hi\/(s.kind==3)=VR/\s.log.toList.isEmpty=VN/\∃h0,IntKind.i64.wrap ((Wq s.Ga:Int)-1)=h0/\IntKind.i64.wrap (h0+1)=hi):=by
  refine⟨_,rfl,?_⟩;unfold JZ;have q1:IntKind.i64.wrap ((Wq s.Ga:Int)-1)=(Wq s.Ga:Int)-1:=dy _ WQ;by_cases h3:s.kind=3
  ·cases Fi:s.log.toList.isEmpty with
   |true=>exact .inr (.inl ⟨TdK,rfl,by rw[bh (fun q=>by cases q.2),q1];omega⟩)
   |false=>exact .inr (.inr ⟨TdK,rfl,_,q1,by rw[aw ⟨h3,rfl⟩];exact dy _ WQ⟩)
  exact .inl ⟨TdK,by rw[bh (fun q=>h3 q.1),q1];omega⟩
 obtain⟨hi,ai,⟨k3,a7⟩|⟨k3,lg,a7⟩|⟨k3,lg,h0,a7,ak⟩⟩:=a9
 all_goals
  go_wp2;clear s2 s3 s6;go_loopw[4] (fun i wr=>∃k:Nat,k<=Wq s.stale/\i=Bm Sj k/\Below W1.1.size W1 wr) (fun i _=>Wq s.stale-(intOf i).toNat)
  exact⟨0,cg _,rfl,bj _ _⟩;obtain⟨k,hk,rfl,hB⟩:=hrel;have s5:=mi ((hB.block _ (aq lj.o)).trans lj.o) 5 _ lX;have fy:=YS hA hB;replace hB:=aa hB;by_cases hlt:k<Wq s.stale
  ·obtain⟨n,hn⟩:=aj s.stale k hlt;obtain⟨n0,n1,n2⟩:=hs.o k n hn;obtain⟨b,off,us,rfl,_,cX,_,eE,a8⟩:=hst.o.elem hn;obtain rfl:us=_:=eE;have q0:=(Sc fy.o cX).trans (a8 0 _ lX);rw[fp,fg]at q0;have d0:V7 (n<0)=VN:=cN WQ;have d1:V7 (hi<n)=VN:=cN WQ;have Tp:Hid (∀n,Below W1.1.size W1 (wr.drewN n)):=aa fun n=>aT hB.o n;clear a8 hn
   by_cases hk0:k<1
   ·have g0:V7 ((0:Int)<(k:Int))=VN:=cN WQ;have g1:V7 (0<k)=VN:=cN WQ;clear n2;go_upto_region 7 with(fail);go_quiet (fail);clear q0 s5 d0 d1 g0 g1;exact Tci
   obtain⟨m,hm,Vm⟩:∃m,s.stale[k-1]?=Vv m/\m<n:=n2.resolve_left WQ;obtain⟨b',ab,af,e',_,ag,_,Tv,a5⟩:=hst.o.elem hm;obtain rfl:af=_:=Tv;injection e' with e';injection e' with eb eo;subst eb;subst eo;have q1:=(Sc fy.o cX).trans (a5 0 _ lX);rw[fp,fg]at q1;have g0:V7 ((0:Int)<(k:Int))=VR:=eA WQ;have g1:V7 (0<k)=VR:=eA WQ;have d2:V7 (n<=m)=VN:=cN WQ;clear a5 hm ag;go_upto_region 7 with(fail);go_quiet (fail);clear q0 q1 s5 d0 d1 d2 g0 g1;exact Tci
  exact TcN
def JU(h:jw g s=VR)(hr:r∈s.Ga):(r.vol=VR->(aM g.F9 r.on).isSome=VR)/\(r.vol=VN->(bH g.Gb r.on).isSome=VR):=by
 unfold jw at h;rw[eh,eL,eL]at h;refine⟨fun hv=>h.2 _ ?_,fun hv=>?_⟩
 ·unfold dD;exact ju _ (ju _ (As.2 ⟨r,DS.2 ⟨hr,hv⟩,rfl⟩))
 have:=h.1 r hr;rwa[hv,nj]at this
def Km(h:jw g s=VR)(hl:s.log.toList.isEmpty=VN):(aM g.F9 s.log).isSome=VR:=by
 unfold jw at h;rw[eh,eL,eL]at h;refine h.2 _ ?_;unfold dD;rw[hl];exact ju _ (P9 _ XN)
def II(h:jw g s=VR)(hk:s.kind=6):(aM g.F9 s.pool).isSome=VR:=by
 unfold jw at h;rw[eh,eL,eL]at h;refine h.2 _ ?_;unfold dD;rw[show(VR&&s.kind==6)=VR by rw[hk];rfl];exact P9 _ XN
def KX(h:s.Ga.all (fI g s)=VR)(hr:r∈s.Ga)(hv:r.vol=VN) :
  0<=r.start/\r.start<=((bH g.Gb r.on).getD gT).Gc/\iB s.kind s.length (Wq s.Ga)<=((bH g.Gb r.on).getD gT).Gc-r.start:=by
 have:=An.1 h r hr;unfold fI at this;rw[hv,nj,eh,eh,fk,fk,fk]at this;exact⟨this.1.1,this.1.2,this.2⟩
def J8(h:(dD s VN).any (dh g)=VN)(hr:r∈s.Ga)(hv:r.vol=VR):dh g r.on=VN:=by
 rw[IS]at h;have:=h r.on (by
  unfold dD;exact ju _ (ju _ (As.2 ⟨r,DS.2 ⟨hr,hv⟩,rfl⟩)))
 simpa using this
def KO(h:(dD s VN).any (dh g)=VN)(hl:s.log.toList.isEmpty=VN):dh g s.log=VN:=by
 rw[IS]at h;have:=h s.log (by
  unfold dD;rw[hl];exact ju _ (P9 _ XN))
 simpa using this
def IK(h:dh g nm=VN):(eZ ((aM g.F9 nm).getD eY)==6)=VN/\(eZ ((aM g.F9 nm).getD eY)==5)=VN:=by
 unfold dh at h;rwa[Bool.or_eq_false_iff]at h
def K8:jo ⟨#[]⟩=VN:=by kernel_rfl
def K4:zH ⟨#[]⟩=VN:=by kernel_rfl
def JC(h:nE v=VR):v.name.toList.isEmpty=VN:=by
 refine lS (Decidable.byContradiction fun q=>?_);have e:=oI q;unfold nE at h;rw[e,K8,K4]at h;cases hv:v.hidden<;>rw[hv]at h<;>cases h
def Jj(h:(aM g.F9 nm).isSome=VR):∃v∈g.F9,v.name=nm/\aM g.F9 nm=Vv v:=by
 obtain⟨v,hv⟩:=Ly.1 h;exact⟨v,eV hv,by simpa[aM]using List.find?_some hv,hv⟩
def I9(h3:(dJ g).2=0)(h4:(iP g).2=0)(h5:(mY g).2=0)(hv:v∈g.F9)(hs:s∈v.Gf):rQ s=dD s VR/\(s.kind=6->s.pool.toList.isEmpty=VN)/\(¬s.kind=6->s.pool.toList.isEmpty=VR):=by
 obtain⟨st,hf⟩:=qP h4 v hv s hs;obtain⟨x,hx,-,-,-,-,-,-,PY,-⟩:=DD hf;obtain⟨he,-,-,-,-⟩:=zZ (Dh h5 v hv s hs);by_cases hk:s.kind=6
 ·have hp:s.pool.toList.isEmpty=VN:=by
   obtain⟨u,hu,e,-⟩:=Jj (II he hk);rw[<- e];exact JC (nH h3 u hu).1
  refine⟨?_,fun _=>hp,fun q=>absurd hk q⟩;unfold rQ dD;rw[hp,hk];rfl
 have hp:s.pool.toList.isEmpty=VR:=by
  have:x.pool=VN:=by
   rcases pM hx with h|h|h|h|h|h|h|h|h|h
   all_goals first|exact absurd h hk|(rw[h]at hx;injection hx with hx;subst hx;rfl)
  rwa[this,nj]at PY
 refine⟨?_,fun q=>absurd q hk,fun _=>hp⟩;unfold rQ dD;rw[hp,show(VR&&s.kind==6)=VN by simp[hk]];rfl
def GU(f:aB->QN):∀vs:wy ay,(aA vs).flatMap (fun p=>f p.2)=vs.flatMap fun v=>v.Gf.flatMap f
 |[]=>rfl
 |v :: vs=>by
  have ih:=GU f vs;unfold aA at ih ⊢;rw[lB,xt,ih,lB,List.flatMap_map]
def G5{β:Type}{f k:α->wy β}:∀ {l:wy α},(∀x∈l,f x=k x)->l.flatMap f=l.flatMap k
 |[],_=>rfl
 |x :: l,h=>by rw[lB,lB,h x cG,G5 fun y hy=>h y (kn _ hy)]
def Ci(vs:wy ay):QN:=vs.flatMap kY
def KD(h3:(dJ g).2=0)(h4:(iP g).2=0)(h5:(mY g).2=0):Ci g.F9=EJ g VR:=by
 unfold Ci EJ;rw[GU fun s=>dD s VR];exact G5 fun v hv=>G5 fun s hs=>(I9 h3 h4 h5 hv hs).1
def DN(nm:H6)(l:wy aB):Nat:=l.countP fun s=>V7 (s.pool=nm)
def yx(nm:H6)(vs:wy ay):Nat:=(vs.map fun v=>DN nm v.Gf).sum
def Ji(hn:nm.toList.isEmpty=VN):∀l:wy aB,(∀s∈l,¬s.kind=6->s.pool.toList.isEmpty=VR)->iJ (l.flatMap fun s=>if s.kind=6 then [s.pool] else []) nm=DN nm l
 |[],_=>rfl
 |s :: l,h=>by
  have ih:=Ji hn l fun x hx=>h x (kn _ hx);unfold iJ DN at ih ⊢;rw[lB,List.countP_append,ih,List.countP_cons]
  by_cases hk:s.kind=6
  ·rw[aw hk,List.countP_singleton];omega
  have:¬s.pool=nm:=fun e=>by
   have:=h s cG hk;rw[e,hn]at this;cases this
  rw[bh hk,List.countP_nil,bh (by simpa using this)];omega
def IY(nm:H6)(f:α->QN):∀l:wy α,iJ (l.flatMap f) nm=(l.map fun x=>iJ (f x) nm).sum
 |[]=>rfl
 |x :: l=>by
  have ih:=IY nm f l;unfold iJ at ih ⊢;rw[lB,List.countP_append,ih,iu,List.sum_cons]
def KS(hn:nm.toList.isEmpty=VN)(h3:(dJ g).2=0)(h4:(iP g).2=0)(h5:(mY g).2=0):iJ (ai3 (aA g.F9)) nm=yx nm g.F9:=by
 unfold ai3 yx;rw[GU fun s=>if s.kind=6 then [s.pool] else [],IY];congr 1
 exact List.map_congr_left fun v hv=>Ji hn v.Gf fun s hs=>(I9 h3 h4 h5 hv hs).2.2
def KT(hm:(mchk g).2=0)(hv:v∈g.F9) :
  (v.hidden=VR->iJ (Ci g.F9) v.name=1)/\(v.hidden=VN->iJ (Ci g.F9) v.name=yx v.name g.F9/\(yx v.name g.F9=0\/eZ v=5)):=by
 obtain⟨h1,h2,h3,h4,h5,h6,h7,h8⟩:=Dg hm;have hu:yt g v=0:=sS h8 v hv;have hn:=JC (nH h3 v hv).1;have e1:=KD h3 h4 h5;have e2:=KS hn h3 h4 h5;have e3:iJ (EJ g VR) v.name=iJ (EJ g VN) v.name+iJ (ai3 (aA g.F9)) v.name:=ai8 v.name (aA g.F9);unfold yt at hu;refine⟨fun hh=>?_,fun hh=>?_⟩
 ·rw[aw hh]at hu;rw[e1];split at hu
  ·assumption
  cases hu
 rw[bh (by simp[hh])]at hu;have h0:iJ (EJ g VN) v.name=0:=by
  split at hu
  ·assumption
  cases hu
 rw[e1,e3,h0,e2,eJ];refine⟨rfl,?_⟩;by_cases hp:yx v.name g.F9=0
 ·exact .inl hp
 right
 rw[<- e2]at hp;obtain⟨nm,pD,e⟩:=List.countP_pos_iff.1 (Nat.pos_of_ne_zero hp);have e:nm=v.name:=by simpa using e
 obtain⟨p,hp1,a5⟩:=BY.1 pD;split at a5
 ·rename_i hk;obtain rfl:=AM.1 a5;obtain⟨q1,q2⟩:=ni hp1;have hk5:=(zZ (Dh h5 _ q1 _ q2)).2.2.2.1 hk;have SM:aM g.F9 v.name=Vv v:=by
   obtain⟨u,a8,a7,a9⟩:=Jj (g:=g) (nm:=v.name) (List.find?_isSome.2 ⟨v,hv,XN⟩);rw[a9];congr 1
   obtain⟨i,hi⟩:=fc a8;obtain⟨j,hj⟩:=fc hv;have ho:∀(j:Nat) (x:ay),g.F9[j]?=Vv x->yH g j x=0:=fun j x hx=>by
    have:=ll (i:=0) h3 j x hx;rwa[eJ]at this
   rcases Nat.lt_trichotomy i j with q|q|q
   ·have:=((Hz (ho j v hj)).2.1 i u q hi).1;rw[a7]at this;simp at this
   ·subst q;rw[hi]at hj;injection hj
   have:=((Hz (ho i u hi)).2.1 j v q hj).1;rw[a7]at this;simp at this
  rw[e,SM]at hk5;exact hk5
 cases a5
def Cw(l:wy aB):Int:=l.foldl (fun n s=>n+s.length) 0
def GI{l:wy aB}(h:l[k]?=Vv s):Cw (l.take (k+1))=Cw (l.take k)+s.length:=DC (fun(n:Int) (s:aB)=>n+s.length) 0 l k s h
def I5{ext:Int}{l:wy aB}(h:qV ext n l 0=0):∀(k:Nat),k<=l.length->qV ext n (l.drop k) (Cw (l.take k))=0
 |0,_=>by simpa[Cw]using h
 |k+1,hk=>by
  have ih:=I5 h k WQ;obtain⟨s,hs⟩:=aj l k WQ;rw[CP hs]at ih;rw[GI hs];split at ih
  ·cases ih
  split at ih
  ·cases ih
  exact ih
def Kv(h4:(iP g).2=0)(hv:v∈g.F9)(hs:v.Gf[k]?=Vv s):bJ g.Gd s (Cw (v.Gf.take k))=VR/\(1<Wq v.Gf->(oO s.kind).several=VR):=by
 have h0:qV g.Gd (Wq v.Gf) v.Gf 0=0:=sS h4 v hv;have:=I5 h0 k (by have:=(AT.1 hs).1;omega);rw[CP hs]at this;split at this
 ·cases this
 rename_i c1;split at this
 ·cases this
 rename_i c2;refine⟨by simpa using c1,fun h=>?_⟩;cases hq:(oO s.kind).several with
 |true=>rfl
 |false=>exact absurd ⟨h,hq⟩ c2
def I7{l:wy aB}(h:∀s∈l,0<=s.length/\s.length<=32768):∀k,0<=Cw (l.take k)/\Cw (l.take k)<=32768*(k:Int)
 |0=>by simp[Cw]
 |k+1=>by
  have ih:=I7 h k;by_cases hk:k<l.length
  ·obtain⟨s,hs⟩:=aj l k hk;have:=h s (ct hs);rw[GI hs];omega
  rw[jz WQ]at ih ⊢;omega
def Ja(h:eZ v=6):∃s,v.Gf=[s]/\s.kind=6:=by
 unfold eZ at h
 match hv:v.Gf,h with
 |[s],h=>exact⟨s,rfl,h⟩
def JY(h7:(pE g).2=0){x:ay}(a5:k<i)(hv:g.F9[i]?=Vv v)(hx:g.F9[k]?=Vv x){t:aB}(hs:v.Gf=[s])(ht:x.Gf=[t])(a7:s.kind=6)(a8:t.kind=6) :
  s.pool≠t.pool\/s.device≠t.device:=by
 have h2:(bD IW [] (aA g.F9)).2=0:=by
  unfold pE at h7;split at h7
  ·exact h7
  rename_i c;exact absurd h7 c
 have e1:g.F9=g.F9.take i++v :: g.F9.drop (i+1):=by
  rw[<- drop_at hv,rk]
 have e2:aA g.F9=aA (g.F9.take i)++(v,s) :: aA (g.F9.drop (i+1)):=by
  conv=>lhs;rw[e1]
  simp[aA,hs]
 have:=Hd h2 _ _ v s e2;unfold IW at this;rw[aw a7]at this;by_cases c:s.pool=t.pool/\s.device=t.device
 ·exfalso
  rw[aw]at this
  ·cases this
  rw[nh];refine⟨(x,t),?_,by simp[a8,c.1,c.2]⟩;refine P9 _ (BY.2 ⟨x,?_,As.2 ⟨t,by rw[ht];exact List.mem_singleton_self _,rfl⟩⟩);exact ct (i:=k) (by rw[ri a5];exact hx)
 by_cases cp:s.pool=t.pool
 ·exact .inr fun q=>c ⟨cp,q⟩
 exact .inl cp
def JQ(h:sU g)(i k:Nat)(p q:gy)(a5:k<i)(hp:(pieces g.F9)[i]?=Vv p)(hq:(pieces g.F9)[k]?=Vv q)(hd:p.disk=q.disk):q.start+q.len<=p.start:=by
 have hr:=h.apart.1.row;rw[It]at hr;obtain⟨hi,ei⟩:=AT.1 hp;obtain⟨hk,ek⟩:=AT.1 hq;have hi':i<(triples g.F9).length:=by simpa[triples]using hi
 have hk':k<(triples g.F9).length:=by simpa[triples]using hk
 have:=hr k i hk' hi' a5;simp only[triples,List.getElem_map,af7]at this;rw[ei,ek]at this;exact this hd.symm
def JN(h:sU g):∀p∈pieces g.F9,(0<=p.start/\p.start<=1000000)/\1<=p.len/\p.len<=1000000:=fun p hp=>by
 obtain⟨D,hD,-,h1,h2,h3⟩:=h.apart.1.on (af7 p) (As.2 ⟨p,hp,rfl⟩);simp only[af7]at h1 h2 h3;have:=(Fb h.gin h.mchk).de D hD;omega
def Tdy(h:gt:=by rw[h];rfl):=h
def Tb1(h:gt:=by
 rw[bh YR]at hc;simp only[eh,fk]at hc;exact .inr ⟨Tdy,Tdy,.inr ⟨Tdy,hc⟩⟩):=h
def Kl{ok:LN}(g:af)(a:iX)(s:aB){x:eX}(w:H7)(hv:bC ok w u s)(hx:shapeOf s.kind=Vv x)(hc:fq g.Gd s.chunk x=VR)(h0:¬x.chunk=0)(he:1<=g.Gd/\g.Gd<=1024):Calls prog 150 #[Tk (Zg g a),Tk u.toArray] w fun e w'=>e=S6 (Ft VR)/\Below w.1.size w w':=by
 obtain⟨av,Rn,rfl,o0,hst⟩:=hv;obtain⟨ap,ac,rfl,_,_⟩:=o0.cap;obtain⟨eN,eR,rfl,_,_⟩:=hst.cap;clear o0 hst;have hA1:=ae w (Sx (Zg g a) 31);have hA2:=ae (w.alloc (Sx (Zg g a) 31)) (Sx (ZN s ap ac eN eR) 55);have US:=b9 w (Sx (Zg g a) 31);have lj:=aa (b9 (w.alloc (Sx (Zg g a) 31)) (Sx (ZN s ap ac eN eR) 55));have CN:=aa ((hA2.block _ (aq US)).trans US);have HB:=aa (hA1.trans (hA2.mono hA1.size));clear hA1 hA2 US;rw[cW]at lj;go_enter func150,ntmps150
 go_upto_region 1 with(fail);generalize AI (AI w _) _=W1 at *;generalize a5:w.1.size+1=Bs at lj ⊢;generalize a7:w.1.size=Bg at CN ⊢;have sL:=mi lj.o;have s2:=sL 2 _ lX;have s4:=sL 4 _ lX;have g3:=mi CN.o 3 _ lX;clear sL;have a8:((s.kind==2)=VR\/(s.kind==2)=VN/\(s.kind==4)=VR)/\1<=s.chunk/\s.chunk<=g.Gd/\g.Gd.tmod s.chunk=0\/(s.kind==2)=VN/\(s.kind==4)=VN/\((s.kind==3)=VR/\1<=s.chunk/\s.chunk<=1024\/(s.kind==3)=VN/\1<=s.chunk/\s.chunk<=64):=by
  unfold fq at hc;rw[bh h0]at hc;have hd:∀c:Int,(V7 (1<=s.chunk)&&g.Gd%s.chunk==0)=VR->1<=s.chunk/\s.chunk<=g.Gd/\g.Gd.tmod s.chunk=0:=fun _ h=>by
   simp only[eh,fk,beq_iff_eq]at h;refine⟨h.1,Int.le_of_dvd WQ (Int.dvd_of_emod_eq_zero h.2),?_⟩;rw[OF WQ];exact h.2
  rcases pM hx with h|h|h|h|h|h|h|h|h|h<;>rw[h]at hx<;>injection hx with hx<;>subst hx
  ·exact absurd lX h0
  ·rw[aw lX]at hc;exact .inl ⟨.inl Tdx,hd 0 hc⟩
  ·rw[bh YR]at hc;simp only[eh,fk]at hc;exact .inr ⟨Tdy,Tdy,.inl ⟨Tdy,hc⟩⟩
  ·rw[aw lX]at hc;exact .inl ⟨.inr ⟨Tdy,Tdy⟩,hd 0 hc⟩
  ·exact Tb1
  ·exact absurd lX h0
  ·exact Tb1
  ·exact absurd lX h0
  ·exact absurd lX h0
  exact absurd lX h0
 clear hc h0 hx a5 a7;rcases a8 with⟨k2|⟨k2,k4⟩,c1,c2,c3⟩|⟨k2,k4,⟨k3,c1,c2⟩|⟨k3,c1,c2⟩⟩
 all_goals
  exact TcM
def JF(k:Int)(x:eX)(w:H7)(hx:shapeOf k=Vv x):Calls prog 102 #[Bm Sj k] w fun e w'=>e=S6 (Ft x.several)/\w'=w:=by
 rcases pM hx with rfl|rfl|rfl|rfl|rfl|rfl|rfl|rfl|rfl|rfl
 all_goals
  injection hx with hx;subst hx;go_enter func102,ntmps102;go_wp2;go_ret;exact⟨rfl,rfl⟩
def DR{a5:Array Oper}{C:H7->Prop}{Qn:Act->Prop}(hQ:∀a w,C w->Qn a->Q .normal a w) :
  ∀(l:wy Oper) (a:Act) (w:H7),C w->wpQuiet P a5 C Qn l a->wpList P a5 Q l a w
 |[],a,w,hw,h=>hQ a w hw h
 |o :: rest,a,w,hw,h=>by
  unfold wpQuiet at h;unfold wpList;split at h
  ·rename_i ar6;rw[aw ar6];exact .inl (Oper.wp_of_quiet hw (fun a w' a7 hk=>DR hQ rest a w' a7 hk) h)
  rename_i ar6;rw[bh ar6];exact DR hQ rest _ w hw h
def wp_region_quiet_lit{id:Nat}{a:Act}{l:wy Oper}
  (h:wpQuiet P l.toArray (fun w'=>∃p:fo,w'=ext w p) (fun a'=>∀w',(∃p:fo,w'=ext w p)->Q .normal a' w') l a):(Code.region id l.toArray VN).wp P Q a w :=
 wp_region_lit (DR (fun _ w' hw hq=>hq w' hw) l a w (jX (bj _ w)) h)
structure K9(g:af)(s:aB)(x:eX):Prop where
 ch:(s.chunk != 0)=(x.chunk != 0)
 st:x.stale=VN->V7 ((0:Int)<(Wq s.stale:Int))=VN
 lg:x.log=VN->s.log.toList.isEmpty=VR
 pl:x.pool=VN->s.pool.toList.isEmpty=VR
 pd:x.pool=VN->(s.device != 0)=VN
 md:x.mode=VN->(s.mode != 0)=VN
 dn:x.done=VN->(s.done != 0)=VN
 p1:x.pool=VR->V7 (s.device<1)=VN
 p2:x.pool=VR->V7 ((65535:Int)<s.device)=VN
 m1:x.mode=VR->s.mode=1\/s.mode=2
 d1:x.done=VR->V7 (s.done<0)=VN
 d2:x.done=VR->V7 (s.length<s.done)=VN
def Lb(a7:fq g.Gd s.chunk x=VR)(Fi:(x.log||s.log.toList.isEmpty)=VR)(PY:(x.pool||s.pool.toList.isEmpty)=VR)(aa:dP s x=VR)(a8:bE s.device 1 65535 x.pool=VR)(a9:bE s.mode 1 2 x.mode=VR)(a5:bE s.done 0 s.length x.done=VR):K9 g s x:=by
 unfold bE at a8 a9 a5;refine⟨?_,fun h=>?_,fun h=>by rwa[h,nj]at Fi,fun h=>by rwa[h,nj]at PY,fun h=>?_,fun h=>?_,fun h=>?_,fun h=>?_,fun h=>?_,fun h=>?_,fun h=>?_,fun h=>?_⟩
 ·unfold fq at a7;by_cases h0:x.chunk=0
  ·rw[aw h0,beq_iff_eq]at a7;rw[a7,h0]
  have h1:1<=s.chunk:=by
   rw[bh h0]at a7;split at a7<;>(rw[eh,fk]at a7;exact a7.1)
  rw[bne_iff_ne.2 (show s.chunk≠0 by omega),bne_iff_ne.2 h0]
 ·refine cN fun q=>?_
  unfold dP at aa;have:=An.1 aa 0 (DP.2 WQ);unfold bR at this;rw[h,Bool.false_and,Bool.false_and,Bool.false_and]at this;cases this
 ·rw[h]at a8;simpa using a8
 ·rw[h]at a9;simpa using a9
 ·rw[h]at a5;simpa using a5
 ·rw[h]at a8;simp only[ej,eh,fk]at a8;exact cN WQ
 ·rw[h]at a8;simp only[ej,eh,fk]at a8;exact cN WQ
 ·rw[h]at a9;simp only[ej,eh,fk]at a9;omega
 ·rw[h]at a5;simp only[ej,eh,fk]at a5;exact cN WQ
 rw[h]at a5;simp only[ej,eh,fk]at a5;exact cN WQ
def KU{ok:LN}(g:af)(a:iX)(s:aB)(st:Int)(w:H7)(hv:bC ok w u s)(hf:bJ g.Gd s st=VR)(he:1<=g.Gd/\g.Gd<=1024)(hal:Wq s.Ga<=1000000)(GF:Wq s.stale<=1000000):Calls prog 101 #[Tk (Zg g a),Tk u.toArray,Bm Sj st] w fun e w'=>e=S6 (Ft VR)/\Below w.1.size w w':=by
 obtain⟨x,hx,au,⟨l1,l2⟩,⟨a1,a2⟩,aD,aw,Fi,PY,ay,aE,aF,a7,hs2,aH⟩:=DD hf;subst au;have HF:=aa (Lb aw Fi PY ay aE aF a7);have RG:=aa (KJ hx Fi ay);have aX:=aa aw;have ya:=aa (An.1 aD);have HV:=aa hv;have HX:=aa hx;have aI:=aa hs2;have aJ:=aa aH;obtain⟨av,Rn,rfl,o0,TG⟩:=hv;obtain⟨ap,ac,rfl,_,_⟩:=o0.cap;obtain⟨eN,eR,rfl,_,_⟩:=TG.cap;replace o0:=aa o0;clear hf aw Fi PY ay aE aF a7 TG aD hx hs2 aH;have hA1:=ae w (Sx (Zg g a) 31);have hA2:=ae (w.alloc (Sx (Zg g a) 31)) (Sx (ZN s ap ac eN eR) 55);have US:=b9 w (Sx (Zg g a) 31);have lj:=aa (b9 (w.alloc (Sx (Zg g a) 31)) (Sx (ZN s ap ac eN eR) 55));have CN:=aa ((hA2.block _ (aq US)).trans US);have HB:=aa (hA1.trans (hA2.mono hA1.size));clear hA1 hA2 US;rw[cW]at lj;go_enter func101,ntmps101
 go_upto_region 1 with(fail);generalize AI (AI w _) _=W1 at *;generalize aY:w.1.size+1=Bs at lj ⊢;generalize aZ:w.1.size=Bg at CN ⊢;have cU:=HB;clear HB aY;have s2:=mi lj.o 2 _ lX;go_wp2_with fail;clear s2;refine(Jv s.kind x W1 HX.o).mono ?_;rintro e w2 ⟨rfl,hb2⟩;unfold Kb;have hA3:=ae w2 (Sx #[Bm Sj x.least,Bm Sj x.greatest,x.F9,Ft (x.chunk != 0),x.stale,x.log,x.pool,x.mode,x.done] 195);have Vs:=aa (b9 w2 (Sx #[Bm Sj x.least,Bm Sj x.greatest,x.F9,Ft (x.chunk != 0),x.stale,x.log,x.pool,x.mode,x.done] 195));have a5:=hb2.trans (hA3.mono hb2.size);have aK:=YS cU a5;have nB:=Zl a5 lj;have LS:=Zl a5 CN;clear hb2 hA3 a5 cU lj CN aZ;go_upto_region 2 with(fail);generalize AI w2 _=W3 at *;generalize w2.1.size=Bx at Vs ⊢;have hx:=HX.o;have aL:=aK;have ag:=Vs;clear aK Vs;rcases pM hx with h|h|h|h|h|h|h|h|h|h<;>rw[h]at hx<;>injection hx with hx<;>subst hx
 all_goals(first|(rcases HF.o.m1 rfl with hm|hm)|skip)
 all_goals
  dsimp only at a1 a2;have F:=HF.o;have f1:=F.ch;simp only[Int.reduceBNe]at f1;have k2:=fj (· == (2:Int)) h;have k4:=fj (· == (4:Int)) h;simp only[Int.reduceBEq]at k2 k4;(first|(have f2:=F.st lX;have be:V7 (0<Wq s.stale)=VN:=cN (by have:=of_decide_eq_false f2;omega))|skip)
  (first|(have f3:=F.lg lX)|skip)
  (first|(have f4:=F.pl lX)|skip)
  (first|(have f5:=F.pd lX)|skip)
  (first|(have f6:=F.md lX)|skip)
  (first|(have f7:=F.dn lX)|skip)
  (first|(have p1:=F.p1 lX;have p2:=F.p2 lX)|skip)
  (first|(have d1:=F.d1 lX;have d2:=F.d2 lX)|skip)
  (first|(have m1:(s.mode != 1)=VN:=by(rw[hm];rfl))|(have m1:(s.mode != 1)=VR:=by(rw[hm];rfl);have m2:(s.mode != 2)=VN:=by(rw[hm];rfl))|skip)
  (first|(have HM:=aa hm;clear hm)|skip)
  have t1:0<=s.length:=by omega
  (first|(have r2:s.length.tmod (Wq s.Ga:Int)=0:=by(rw[OF t1];exact aI.o h);have bf:IntKind.i64.wrap (s.length.tmod (Wq s.Ga:Int))=0:=by(rw[r2];rfl);have r3:((Wq s.Ga:Int)==0)=VN:=beq_eq_false_iff_ne.2 WQ)|skip)
  (first|(have r4:s.length.tmod ((Wq s.Ga:Int)-1)=0:=by(rw[OF t1];exact aJ.o h);have bg:IntKind.i64.wrap (s.length.tmod ((Wq s.Ga:Int)-1))=0:=by(rw[r4];rfl);have r5:((Wq s.Ga:Int)-1==0)=VN:=beq_eq_false_iff_ne.2 WQ;have r6:IntKind.i64.wrap ((Wq s.Ga:Int)-1)=(Wq s.Ga:Int)-1:=dy _ WQ)|skip)
  (first|(have bh:(s.length%(Wq s.Ga:Int) != 0)=VN:=by(rw[aI.o h];rfl))|skip)
  (first|(have bi:(s.length%((Wq s.Ga:Int)-1) != 0)=VN:=by(rw[aJ.o h];rfl))|skip)
  have bk:=aa h;clear F h;have c1:V7 (s.length<1)=VN:=cN (Int.not_lt.2 l1);have c2:V7 ((32768:Int)<s.length)=VN:=cN (Int.not_lt.2 l2);have c3:=cN (Int.not_lt.2 a1);have c4:=cN (Int.not_lt.2 a2);have sL:=mi nB.o;have GF:=aq nB.o;have e0:=aG GF (sL 0 _ lX);have e1:=aG GF (sL 1 _ lX);have e3:=aG GF (sL 3 _ lX);clear sL GF;have xL:=mi ag.o;simp only[Int.reduceBNe]at xL;have vh:=aq ag.o;have y0:=aG vh (xL 0 _ lX);have y1:=aG vh (xL 1 _ lX);clear xL vh;(refine wp_region_quiet_lit ?_;(repeat(go_big_quiet_step ((fail))));(with_reducible refine fR ?_);intro wa aM;have a8:=dY aM;clear aM)
  clear e0 e1 e3 y0 y1;clear c1 c2 c3 c4;have ah:=YS aL a8;have Tx:=Zl a8 nB;have ai:=Zl a8 ag;have az:=Zl a8 LS;clear a8 aL nB ag LS;go_upto_region 4 with(fail);simp only[List.append_eq,IT,GO];obtain⟨e0,e1,e2,e3,e4,e5,e6,e7,e8,e9,e10⟩:=K7 Tx.o;have xL:=mi ai.o;simp only[Int.reduceBNe]at xL;have vh:=aq ai.o;have y0:=aG vh (xL 0 _ lX);have y1:=aG vh (xL 1 _ lX);have y2:=aG vh (xL 2 _ lX);have y3:=aG vh (xL 3 _ lX);have y4:=aG vh (xL 4 _ lX);have y5:=aG vh (xL 5 _ lX);have y6:=aG vh (xL 6 _ lX);have y7:=aG vh (xL 7 _ lX);have y8:=aG vh (xL 8 _ lX);clear xL vh;obtain⟨z0,z1,z2,z3,z4,z5,z6,z7,z8⟩:=Hr az.o;have aA:=aa fun q:fo=>bC.moves.mv (Mv.of (ah.o.trans ((dQ wa q).mono ah.o.size))) HV.o
  (first|(have b8:=aa fun q:fo=>Kl g a s (ext wa q) (aA.o q) HX.o aX.o YR he)|skip)
  have aN:=aa fun q:fo=>IQ s (ext wa q) (aA.o q) hal GF RG.o
  (refine wp_region_quiet_lit ?_;(repeat(go_big_quiet_step ((first|(go_at_call 150;exact iH (b8.o _))|(go_at_call 151;exact iH (aN.o _))))));(with_reducible refine fR ?_);intro wb aO;have a9:=dY aO;clear aO)
  clear e0 e1 e2 e3 e4 e5 e6 e7 e8 e9 e10 y0 y1 y2 y3 y4 y5 y6 y7 y8 z0 z1 z2 z3 z4 z5 z6 z7 z8;clear aN aA;have aP:=YS ah a9;have ak:=Zl a9 Tx;have am:=Zl a9 ai;have aQ:=Zl a9 az;clear a9 ah Tx ai az;go_upto_region 6 with(fail);have sL:=mi ak.o;have GF:=aq ak.o;have e1:=aG GF (sL 1 _ lX);have e8:=aG GF (sL 8 _ lX);have e9:=aG GF (sL 9 _ lX);have e10:=aG GF (sL 10 _ lX);(first|(have hm:=HM.o;rw[hm]at e9;clear hm)|skip)
  clear sL GF;have xL:=mi am.o;simp only[Int.reduceBNe]at xL;have vh:=aq am.o;have y6:=aG vh (xL 6 _ lX);have y7:=aG vh (xL 7 _ lX);have y8:=aG vh (xL 8 _ lX);clear xL vh;(refine wp_region_quiet_lit ?_;(repeat(go_big_quiet_step ((fail))));(with_reducible refine fR ?_);intro wc aR;have ab:=dY aR;clear aR)
  clear e1 e8 e9 e10 y6 y7 y8;have ba:=YS aP ab;have ao:=Zl ab ak;have aS:=Zl ab am;have RN:=Zl ab aQ;clear ab aP ak am aQ;have Tq:=ba
  repeat(first|go_values|go_skip|go_guarded|go_step|go_upon|go_back)
  go_loopw[9] (fun i wr=>∃k:Nat,k<=Wq s.Ga/\i=Bm Sj k/\Below wc.1.size wc wr) (fun i _=>Wq s.Ga-(intOf i).toNat)
  exact⟨0,cg _,rfl,bj _ _⟩;obtain⟨k,hk,rfl,hB⟩:=hrel;have sL:=mi ((hB.block _ (aq ao.o)).trans ao.o);have s3:=sL 3 _ lX;have fy:=YS Tq hB;by_cases hlt:k<Wq s.Ga
  ·first
   |(exfalso;omega)
   |(
     obtain⟨r,hr⟩:=aj s.Ga k hlt;have ha:=ya.o r (ct hr);unfold bT at ha;simp only[eh,beq_iff_eq,tG,tz]at ha;obtain⟨aU,aC⟩:=ha;obtain⟨b,off,us,rfl,_,cX,_,eE,aV⟩:=o0.o.elem hr;obtain rfl:us=_:=eE;have cT:=fy.o.block b cX;obtain⟨q0,q1,q2⟩:=Mn cT aV;rw[aU]at q0 aC;(first|(have z0:(r.start != 0)=VN:=by simpa using aC)|skip)
     have x2:=mi ((hB.block _ (aq aS.o)).trans aS.o) 2 _ lX;have Tp:Hid (∀n,Below wc.1.size wc (wr.drewN n)):=aa fun n=>aT hB n;clear aV hr hB sL cT aU aC
     go_upto_region 11 with(fail);go_quiet (fail);clear q0 q1 q2 x2 s3;go_wp2;go_roundw
     exact⟨k+1,WQ,Zf,Tp.o _⟩;exact Ti)
  have GF:=aq ((hB.block _ (aq ao.o)).trans ao.o);have e1:=aG GF (sL 1 _ lX);have e2:=aG GF (sL 2 _ lX);have e3:=aG GF (sL 3 _ lX);clear sL hB GF;go_upto_region 13 with(fail);(refine wp_region_quiet_lit ?_;(repeat(go_big_quiet_step ((fail))));(with_reducible refine fR ?_);intro wd aW;have bd:=dY aW;clear aW)
  clear e1 e2 e3;have TF:=YS fy bd
  repeat(first|go_values|go_skip|go_guarded|go_step|go_upon|go_back)
  go_ret;exact⟨rfl,TF.o⟩
def Ho(ok:LN)(l:wy az)(nm:H6)(w:H7)(e:Ending)(w':H7):Prop:=∃(u:RH) (k:Int),e=S6 (Vj #[Tk u.toArray,k])/\aO ok w' u ((bH l nm).getD gT)/\V7 (k<0)=!(bH l nm).isSome/\Below w.1.size w w'
def Tcb(h:gt:=by
 clear pD;go_wp2;go_round;exact⟨k+1,WQ,Zf,HNN.o⟩;exact Ti):=h
def Tb3(h:gt:=by
 by_cases hjk:j=k
 ·subst hjk;rw[HD.o]at hD;injection hD with hD;rw[<- hD];exact pD
 exact Ty.o j D WQ hD):=h
def Tcj(h:gt:=by
 exact(HL.o _ _ _ (HL.o _ _ _ (HL.o _ _ _ (HL.o _ _ _ (HL.o _ _ _ (HL.o _ _ _ (HL.o _ _ _ Tm.o)))))))):=h
def Te4(h:gt:=by simp[results,Tryz.results57,go_sem,r0,r1,r2,r3,r4,r5,r6]):=h
def Ter(h:gt:=by rw[ad2];exact cU.o):=h
def GK{ok:LN}(g:af)(a:iX)(nm:H6)(w:H7)(hr:ck aO 7 ok w [FG a.dp (Wq g.Gb) a.dc] g.Gb)(hd:Wq g.Gb<=1000000):Calls prog 57 #[Tk (Zg g a),By nm] w (Ho ok g.Gb nm w):=by
 replace hr:=aa hr;have hA1:=ae w (Sx (Zg g a) 31);have US:=b9 w (Sx (Zg g a) 31);have hA2:=ae (w.alloc (Sx (Zg g a) 31)) (Sx Tal 69);have sC:=b9 (w.alloc (Sx (Zg g a) 31)) (Sx Tal 69);rw[cW]at sC;have rB:=aa ((hA2.block _ (aq US)).trans US);have yi:=aa sC;have cU:=aa (hA1.trans (hA2.mono hA1.size));clear hA1 hA2 US sC;go_enter func57,ntmps57
 go_upto_region 2 with(fail);generalize RE:AI (AI w _) _=W1 at *;generalize Rz:w.1.size+1=Br at *;generalize ad2:w.1.size=Bg at *;have Tm:Hid (Below w.1.size w W1):=aa Ter;clear RE cU;have g6:=cr rB.o 6 _ lX;have rL:=cr yi.o;obtain⟨r0,r1,r2,r3,r4,r5,r6⟩:=se rL;have rf:=sr yi.o;clear rL;have hL:∀(V:H7) (o:Nat) (z:zY),Below w.1.size w V->Below w.1.size w (V.setCell ⟨Br,o,VX⟩ z):=fun V o z q=>q.setCell (p:=⟨Br,o,VX⟩) (by show w.1.size<=Br;omega) z;have HL:=aa hL;clear hL
 go_loop[6] (fun i=>∃k:Nat,k<=Wq g.Gb/\i=Bm Sj k/\∀(j:Nat) (D:az),j<k->g.Gb[j]?=Vv D->¬D.name=nm) (fun i=>Wq g.Gb-(intOf i).toNat)
 exact⟨0,cg _,rfl,fun j D hj=>by omega⟩;obtain⟨k,hk,rfl,hno⟩:=hrel;have Ty:=aa hno;clear hno;by_cases hlt:k<Wq g.Gb
 ·obtain⟨d,hv⟩:=aj g.Gb k hlt;obtain⟨b,off,u,yp,gR,cX,ez,sA,a5⟩:=hr.o.elem hv;have My:=aa sA;obtain⟨tv,rfl,ew⟩:=sA;obtain⟨tp,tc,rfl,_,_⟩:=ew.cap;clear ew;have cT:=Tm.o.block b cX;rw[yp]at g6;clear yp;have q0:=sw7 cT a5;have HD:=aa hv;clear hv;clear a5 ez cT;by_cases pD:d.name=nm
  ·have e1:(d.name.toList==nm.toList)=VR:=by rw[pD];simp
   have CM:Hid (bH g.Gb nm=Vv d):=aa (pR Ty.o HD.o pD);have XP:=aa pD;clear pD;have Zw:Hid (∀wf:H7,Below w.1.size w wf->Ho ok g.Gb nm w (S6 (Vj #[Tk (u0 d tp tc),Bm Sj k])) wf):=aa fun wf hb =>
    ⟨[By d.name,Bm U8 d.id,Bm Sj d.first,Bm Sj d.Gc,Ft d.closed,Ft d.missing,FG tp (Wq d.tags) tc],k,rfl,by rw[CM.o];exact aO.moves.mv ⟨hb.size,fun b a7 ho=>⟨ho,hb.block b a7⟩⟩ My.o,by rw[CM.o];simp,hb⟩
   go_wp2;refine eC (v:=Vj #[Tk (u0 d tp tc),Bm Sj k]) Te4 lX (Zw.o _ ?_);exact Tcj
  have e1:=jI pD;have HNN:Hid (∀(j:Nat) (D:az),j<k+1->g.Gb[j]?=Vv D->¬D.name=nm):=aa fun j D hj hD=>by
   exact Tb3
  exact Tcb
 obtain rfl:k=Wq g.Gb:=by omega
 have CM:Hid (bH g.Gb nm=VX):=aa (ui Ty.o);have Zw:Hid (∀wf:H7,Below w.1.size w wf->Ho ok g.Gb nm w (S6 (Vj #[Tk Tal,Bm Sj (-1)])) wf):=aa fun wf hb =>
  ⟨[By ⟨#[]⟩,Bm U8 0,Bm Sj 0,Bm Sj 0,Ft VN,Ft VN,FG VX 0 0],-1,rfl,by rw[CM.o];exact⟨_,rfl,ck.nil⟩,TdX,hb⟩
 go_wp2;refine eC (v:=Vj #[Tk Tal,Bm Sj (-1)]) Te4 lX (Zw.o _ ?_);exact Tcj
def al5(ok:LN)(l:wy ay)(nm:H6)(w:H7)(e:Ending)(w':H7):Prop:=∃(u:RH) (k:Int),e=S6 (Vj #[Tk u.toArray,k])/\aN ok w' u ((aM l nm).getD eY)/\V7 (k<0)=!(aM l nm).isSome/\Below w.1.size w w'
def Tcy(h:gt:=by
 exact(HL.o _ _ _ (HL.o _ _ _ (HL.o _ _ _ (HL.o _ _ _ (HL.o _ _ _ (HL.o _ _ _ Tm.o))))))):=h
def Te6(h:gt:=by simp[results,Tryz.results52,go_sem,r0,r1,r2,r3,r4,r5]):=h
def aj7{ok:LN}(g:af)(a:iX)(nm:H6)(w:H7)(hr:ck aN 6 ok w [FG a.vp (Wq g.F9) a.vc] g.F9)(hd:Wq g.F9<=1000000):Calls prog 52 #[Tk (Zg g a),By nm] w (al5 ok g.F9 nm w):=by
 replace hr:=aa hr;have hA1:=ae w (Sx (Zg g a) 31);have US:=b9 w (Sx (Zg g a) 31);have hA2:=ae (w.alloc (Sx (Zg g a) 31)) (Sx Tak 46);have sC:=b9 (w.alloc (Sx (Zg g a) 31)) (Sx Tak 46);rw[cW]at sC;have rB:=aa ((hA2.block _ (aq US)).trans US);have yi:=aa sC;have cU:=aa (hA1.trans (hA2.mono hA1.size));clear hA1 hA2 US sC;go_enter func52,ntmps52
 go_upto_region 2 with(fail);generalize RE:AI (AI w _) _=W1 at *;generalize Rz:w.1.size+1=Br at *;generalize ad2:w.1.size=Bg at *;have Tm:Hid (Below w.1.size w W1):=aa Ter;clear RE cU;have g6:=cr rB.o 7 _ lX;have rL:=cr yi.o;obtain⟨r0,r1,r2,r3,r4,r5⟩:=sv6 rL;have rf:=sr yi.o;clear rL;have hL:∀(V:H7) (o:Nat) (z:zY),Below w.1.size w V->Below w.1.size w (V.setCell ⟨Br,o,VX⟩ z):=fun V o z q=>q.setCell (p:=⟨Br,o,VX⟩) (by show w.1.size<=Br;omega) z;have HL:=aa hL;clear hL
 go_loop[6] (fun i=>∃k:Nat,k<=Wq g.F9/\i=Bm Sj k/\∀(j:Nat) (D:ay),j<k->g.F9[j]?=Vv D->¬D.name=nm) (fun i=>Wq g.F9-(intOf i).toNat)
 exact⟨0,cg _,rfl,fun j D hj=>by omega⟩;obtain⟨k,hk,rfl,hno⟩:=hrel;have Ty:=aa hno;clear hno;by_cases hlt:k<Wq g.F9
 ·obtain⟨d,hv⟩:=aj g.F9 k hlt;obtain⟨b,off,u,yp,gR,cX,ez,sA,a5⟩:=hr.o.elem hv;have My:=aa sA;obtain⟨tv,sv,rfl,ew,gA⟩:=sA;obtain⟨tp,tc,rfl,_,_⟩:=ew.cap;obtain⟨sp,sc,rfl,_,_⟩:=gA.cap;clear ew gA;have cT:=Tm.o.block b cX;rw[yp]at g6;clear yp;have q0:=sw6 cT a5;have HD:=aa hv;clear hv;clear a5 ez cT;by_cases pD:d.name=nm
  ·have e1:(d.name.toList==nm.toList)=VR:=by rw[pD];simp
   have CM:Hid (aM g.F9 nm=Vv d):=aa (CW Ty.o HD.o pD);have XP:=aa pD;clear pD;have Zw:Hid (∀wf:H7,Below w.1.size w wf->al5 ok g.F9 nm w (S6 (Vj #[Tk (ZM d tp tc sp sc),Bm Sj k])) wf):=aa fun wf hb =>
    ⟨[By d.name,Bm U8 d.id,Ft d.hidden,Ft d.ro,FG tp (Wq d.tags) tc,FG sp (Wq d.Gf) sc],k,rfl,by rw[CM.o];exact aN.moves.mv ⟨hb.size,fun b a7 ho=>⟨ho,hb.block b a7⟩⟩ My.o,by rw[CM.o];simp,hb⟩
   go_wp2;refine eC (v:=Vj #[Tk (ZM d tp tc sp sc),Bm Sj k]) Te6 lX (Zw.o _ ?_);exact Tcy
  have e1:=jI pD;have HNN:Hid (∀(j:Nat) (D:ay),j<k+1->g.F9[j]?=Vv D->¬D.name=nm):=aa fun j D hj hD=>by
   exact Tb3
  exact Tcb
 obtain rfl:k=Wq g.F9:=by omega
 have CM:Hid (aM g.F9 nm=VX):=aa (yV Ty.o);have Zw:Hid (∀wf:H7,Below w.1.size w wf->al5 ok g.F9 nm w (S6 (Vj #[Tk Tak,Bm Sj (-1)])) wf):=aa fun wf hb =>
  ⟨[By ⟨#[]⟩,Bm U8 0,Ft VN,Ft VN,FG VX 0 0,FG VX 0 0],-1,rfl,Tfd,TdX,hb⟩
 go_wp2;refine eC (v:=Vj #[Tk Tak,Bm Sj (-1)]) Te6 lX (Zw.o _ ?_);exact Tcy
def TcR(h:gt:=by
 have h2:=(e.block Bg vh).trans hgb;exact⟨(Sc e gO).trans hs3,(Sc e hb3).trans hn,cr h2 _ _ lX,cr h2 _ _ lX,cr h2 _ _ lX,cr h2 _ _ lX,cr h2 _ _ lX,cr h2 _ _ lX,cr h2 _ _ lX,cr h2 _ _ lX,cr h2 _ _ lX⟩):=h
def TcQ(h:gt:=by
 refine(aj7 g a nm W (dN.F9 (Rj.o W hb)) TW).mono ?_;rintro e w' ⟨u,kk,rfl,hv,C1,hb'⟩;rw[Yh]at hv;rw[N3]at C1;obtain⟨t,u,rfl,ht,hu⟩:=hv;obtain⟨tp,tc,rfl,_,_⟩:=ht.cap;obtain⟨sp,sc,rfl,_,_⟩:=hu.cap;have sA:aN _ w' _ _:=⟨_,_,rfl,ht,hu⟩
 exact⟨_,_,_,_,kk,rfl,C1,sA,hb'⟩):=h
def TdC(h:gt:=by have:=ho.2;omega):=h
def TaZ(h:gt:=by
 conv=>arg 2;whnf
 have vh:=aq hgb;have hS:∀w':H7,Below w.1.size w w'->(w'.cell? (XM Bs 3)=Vv (FG (Vv (b3,off3)) nn ac)/\w'.cell? (b3,off3+k*3+1)=Vv (By nm)/\ON w' Bg g a):=fun w' e=>by
  exact TcR
 have HS:=aa hS;clear hS;have Rj:Hid (∀W:H7,Below w.1.size w W->dN (fun k=>ok k/\k<w.1.size) W g a):=aa fun W hb=>hg.mv ⟨hb.size,fun k hk ho=>⟨⟨ho,hk⟩,hb.block k hk⟩⟩
 have hC:∀W:H7,Below w.1.size w W->Calls prog 52 #[Tk (Zg g a),By nm] W fun e w'=>∃(tp:IH) (tc:Nat) (sp:IH) (sc:Nat) (kk:Int),e=S6 (Vj #[Tk (ZM x tp tc sp sc),kk])/\V7 (kk<0)=!Tz/\aN (fun k=>ok k/\k<w.1.size) w' [By x.name,Bm U8 x.id,Ft x.hidden,Ft x.ro,FG tp (Wq x.tags) tc,FG sp (Wq x.Gf) sc] x/\Below W.1.size W w':=fun W hb=>by
  exact TcQ
 have HC:=aa hC;clear hC Yh N3 hg hgb hs3 hn TW Rj;refine gW (fun w'=>w'.cell? (XM Bs 3)=Vv (FG (Vv (b3,off3)) nn ac)/\w'.cell? (b3,off3+k*3+1)=Vv (By nm)/\ON w' Bg g a) 14 [] Yp (HS.o _ (bj _ _).drew) (fun hHeld=>?_);refine cH hQ 0 hHeld ?_;refine cH hQ 1 hHeld ?_;refine cH hQ 2 hHeld ?_;refine cH hQ 3 hHeld ?_;refine cH hQ 4 hHeld ?_;refine cH hQ 5 hHeld ?_;refine cH hQ 6 hHeld ?_;refine mh (i:=7) (j:=11) lX rfl rfl rfl Yp (fun K hK=>?_) (fun K hK=>?_)
 ·go_simp;refine(HC.o _ (bj _ _).drew).mono ?_;rintro e w1 ⟨tp,tc,sp,sc,kk,rfl,C1,hv1,hb1⟩;have HKK:=aa C1;clear C1;have hb1':Below w.1.size w w1:=⟨hb1.os,hb1.tape,hb1.output,hb1.size,hb1.block⟩;refine hK.o _ _ (HS.o _ hb1') ?_;clear hK K hHeld;have hHeld:=HS.o _ hb1';have Zx:=aa hv1;clear hv1 hb1;have cU:=aa hb1';clear hb1';refine cH hQ 8 hHeld ?_;refine cH hQ 9 hHeld ?_;refine cH hQ 10 hHeld ?_;refine lR 11 fun K hK=>?_;go_simp;have hb2:Below w.1.size w (w1.alloc (Sx Tak 46)):=cU.o.alloc cU.o.size _;refine hK.o _ _ (HS.o _ hb2) ?_;clear hK K hHeld;have gh:=b9 w1 (Sx Tak 46);have mA:=cU.o.size;have hv2:aN (fun k=>ok k/\k<w.1.size) (w1.alloc (Sx Tak 46)) [By x.name,Bm U8 x.id,Ft x.hidden,Ft x.ro,FG tp (Wq x.tags) tc,FG sp (Wq x.Gf) sc] x:=aN.moves.mv ⟨XN,fun k hk ho=>⟨ho,cj _ _ _ hk⟩⟩ Zx.o;generalize hW2:World.alloc w1 _=W2 at *;generalize hb0:w1.1.size=b0 at *;clear hW2 hb0 Zx cU;have Vn:=aa hv2;clear hv2;obtain⟨zf,z0,z1,z2,z3,z4,z5⟩:=BO gh;obtain⟨sb,sk,so⟩:=zQ gh (By x.name) (Bm U8 x.id) (Ft x.hidden) (Ft x.ro) (FG tp (Wq x.tags) tc) (FG sp (Wq x.Gf) sc) lX;have cJ:=aa (sb _ _ mA hb2);have F2:=aa sk;have QW:=aa so;clear sb sk so gh;refine lR 12 fun K hK=>?_;go_simp;refine hK.o _ _ (HS.o _ cJ.o) ?_;clear hK K;refine lR 13 fun K hK=>?_;go_simp;refine hK.o _ _ (HS.o _ cJ.o) ?_;clear hK K;refine aP Yp lX ?_;simp only[cQ,km,cL];exact HK.o _ _ _ _ kk b0 _ _ _ _ _ _ _ _ _ _ _ _ HKK.o cJ.o mA F2.o (aN.moves.mv ⟨Tdi,fun k hk ho=>⟨ho,QW.o k TdC⟩⟩ Vn.o)
 go_simp;have hb2:Below w.1.size w (w.drew.alloc (Sx Tak 46)):=((bj _ _).drew).alloc (bk _) _;refine hK.o _ _ (HS.o _ hb2) ?_;clear hK K hHeld;have hHeld:=HS.o _ hb2;refine lR 7 fun K hK=>?_;go_simp;refine(HC.o _ hb2).mono ?_;rintro e w1 ⟨tp,tc,sp,sc,kk,rfl,C1,hv1,hb1⟩;have HKK:=aa C1;clear C1;have hb1':Below w.1.size w w1:=hb2.trans (hb1.mono hb2.size);refine hK.o _ _ (HS.o _ hb1') ?_;clear hK K hHeld;have hHeld:=HS.o _ hb1';have gh:=(hb1.block _ XN).trans (b9 w.drew (Sx Tak 46));have hv2:=hv1;have mA:w.1.size<=w.1.size:=bk _;have gh:w1.1[w.1.size]?=Vv (Sx Tak 46 (0,0)):=gh;clear hb2;have hb2:=hb1';clear hv1 hb1 hb1';generalize w1=W2 at *;refine cH hQ 8 hHeld ?_;refine cH hQ 9 hHeld ?_;refine cH hQ 10 hHeld ?_;have Vn:=aa hv2;clear hv2;obtain⟨zf,z0,z1,z2,z3,z4,z5⟩:=BO gh;obtain⟨sb,sk,so⟩:=zQ gh (By x.name) (Bm U8 x.id) (Ft x.hidden) (Ft x.ro) (FG tp (Wq x.tags) tc) (FG sp (Wq x.Gf) sc) lX;have cJ:=aa (sb _ _ mA hb2);have F2:=aa sk;have QW:=aa so;clear sb sk so gh;refine lR 12 fun K hK=>?_;go_simp;refine hK.o _ _ (HS.o _ cJ.o) ?_;clear hK K;refine lR 13 fun K hK=>?_;go_simp;refine hK.o _ _ (HS.o _ cJ.o) ?_;clear hK K;refine aP Yp lX ?_;simp only[cQ,km,cL];exact HK.o _ _ _ _ kk w.1.size _ _ _ _ _ _ _ _ _ _ _ _ HKK.o cJ.o mA F2.o (aN.moves.mv ⟨Tdi,fun k hk ho=>⟨ho,QW.o k TdC⟩⟩ Vn.o)):=h
def Jn{ok:LN}{Q:N2}(w:H7)(g:af)(a:iX)(Bg Bs b3 off3 k nn ac:Nat)(nm:H6)(hgb:w.1[Bg]?=Vv (Sx (Zg g a) 31 (0,0)))(gO:Bs<w.1.size)(hs3:w.cell? (XM Bs 3)=Vv (FG (Vv (b3,off3)) nn ac))(a7:k<nn)(hb3:b3<w.1.size)(hn:w.cell? (b3,off3+k*3+1)=Vv (By nm))
  (hg:dN ok w g a) (TW:Wq g.F9<=1000000) {x:ay}  (Yh:(aM g.F9 nm).getD eY=x) (N3:(aM g.F9 nm).isSome=Tz)
  (HK:Hid (∀(tp:IH) (tc:Nat) (sp:IH) (sc:Nat) (kk:Int) (b:Nat) (W':H7) (u21 u22 u23 u24 u25 u26 u27 u28 u29 a5 u31:zY),V7 (kk<0)=!Tz->Below w.1.size w W'->w.1.size<=b->W'.1[b]?=Vv (Sx (ZM x tp tc sp sc) 46 (0,0))->aN (fun k=>ok k/\k<w.1.size) W' [By x.name,Bm U8 x.id,Ft x.hidden,Ft x.ro,FG tp (Wq x.tags) tc,FG sp (Wq x.Gf) sc] x->Q .normal ⟨#[c0,c1,SL (Vv Bg),SL (Vv Bs),c4,Bm Sj (k:Int),SL (Vv b),Bm Sj kk,c8,c9,c10,ZS,ao,Sf,TO,RK,RW,Rr,SO,Se,St,u21,u22,u23,u24,u25,u26,u27,u28,u29,a5,u31,dq,fs,gE,ff,fb,fa,mT,me,ph,qe,qk,mu,mw,mx,nF,pr,o4,oE,oR,oS,pe,qt,qv,rl,rm,sE,sa,sd,yk,zd,zp,ad,am,an,ar,ax,aL,b7,b8,ba,be,bf,bn,bo,bp,bq,br,bu,bv,bx,bA,bB,bL,bN,bV,bt,ca,cb,cc,ce,cf,ci,cl,cn],[]⟩ W'))
  (hQ:∀c (a:Act) (d:Tmp) (v:zY) w,Q (.panic c) (a.put (Vv d) v) w->Q (.panic c) a w) :
  (Ai Tryz.f103 4).wp prog Q ⟨#[c0,c1,SL (Vv Bg),SL (Vv Bs),c4,Bm Sj (k:Int),c6,c7,c8,c9,c10,ZS,ao,Sf,TO,RK,RW,Rr,SO,Se,St,W0,ZD,Wg,Wr,To,UP,aE,ab,eS,da,dj,dq,fs,gE,ff,fb,fa,mT,me,ph,qe,qk,mu,mw,mx,nF,pr,o4,oE,oR,oS,pe,qt,qv,rl,rm,sE,sa,sd,yk,zd,zp,ad,am,an,ar,ax,aL,b7,b8,ba,be,bf,bn,bo,bp,bq,br,bu,bv,bx,bA,bB,bL,bN,bV,bt,ca,cb,cc,ce,cf,ci,cl,cn],[]⟩ w:=by
 exact TaZ
def TcS(h:gt:=by
 refine(GK g a nm W (dN.Gb (Rj.o W hb)) TW).mono ?_;rintro e w' ⟨u,kk,rfl,hv,C1,hb'⟩;rw[Yh]at hv;rw[N3]at C1;obtain⟨t,rfl,ht⟩:=hv;obtain⟨tp,tc,rfl,h1,h2⟩:=ht.cap;have sA:aO _ w' _ _:=⟨_,rfl,ht⟩
 exact⟨_,_,kk,rfl,C1,sA,hb'⟩):=h
def Ta0(h:gt:=by
 conv=>arg 2;whnf
 have vh:=aq hgb;have hS:∀w':H7,Below w.1.size w w'->(w'.cell? (XM Bs 3)=Vv (FG (Vv (b3,off3)) nn ac)/\w'.cell? (b3,off3+k*3+1)=Vv (By nm)/\ON w' Bg g a):=fun w' e=>by
  exact TcR
 have HS:=aa hS;clear hS;have Rj:Hid (∀W:H7,Below w.1.size w W->dN (fun k=>ok k/\k<w.1.size) W g a):=aa fun W hb=>hg.mv ⟨hb.size,fun k hk ho=>⟨⟨ho,hk⟩,hb.block k hk⟩⟩
 have hC:∀W:H7,Below w.1.size w W->Calls prog 57 #[Tk (Zg g a),By nm] W fun e w'=>∃(tp:IH) (tc:Nat) (kk:Int),e=S6 (Vj #[Tk (u0 x tp tc),kk])/\V7 (kk<0)=!Tz/\aO (fun k=>ok k/\k<w.1.size) w' [By x.name,Bm U8 x.id,Bm Sj x.first,Bm Sj x.Gc,Ft x.closed,Ft x.missing,FG tp (Wq x.tags) tc] x/\Below W.1.size W w':=fun W hb=>by
  exact TcS
 have HC:=aa hC;clear hC Yh N3 hg hgb hs3 hn TW Rj;refine gW (fun w'=>w'.cell? (XM Bs 3)=Vv (FG (Vv (b3,off3)) nn ac)/\w'.cell? (b3,off3+k*3+1)=Vv (By nm)/\ON w' Bg g a) 14 [] Yp (HS.o _ (bj _ _).drew) (fun hHeld=>?_);refine cH hQ 0 hHeld ?_;refine cH hQ 1 hHeld ?_;refine cH hQ 2 hHeld ?_;refine cH hQ 3 hHeld ?_;refine cH hQ 4 hHeld ?_;refine cH hQ 5 hHeld ?_;refine cH hQ 6 hHeld ?_;refine mh (i:=7) (j:=11) lX rfl rfl rfl Yp (fun K hK=>?_) (fun K hK=>?_)
 ·go_simp;refine(HC.o _ (bj _ _).drew).mono ?_;rintro e w1 ⟨tp,tc,kk,rfl,C1,hv1,hb1⟩;have HKK:=aa C1;clear C1;have hb1':Below w.1.size w w1:=⟨hb1.os,hb1.tape,hb1.output,hb1.size,hb1.block⟩;refine hK.o _ _ (HS.o _ hb1') ?_;clear hK K hHeld;have hHeld:=HS.o _ hb1';have Zx:=aa hv1;clear hv1 hb1;have cU:=aa hb1';clear hb1';refine cH hQ 8 hHeld ?_;refine cH hQ 9 hHeld ?_;refine cH hQ 10 hHeld ?_;refine lR 11 fun K hK=>?_;go_simp;have hb2:Below w.1.size w (w1.alloc (Sx Tal 69)):=cU.o.alloc cU.o.size _;refine hK.o _ _ (HS.o _ hb2) ?_;clear hK K hHeld;have gh:=b9 w1 (Sx Tal 69);have mA:=cU.o.size;have hv2:aO (fun k=>ok k/\k<w.1.size) (w1.alloc (Sx Tal 69)) [By x.name,Bm U8 x.id,Bm Sj x.first,Bm Sj x.Gc,Ft x.closed,Ft x.missing,FG tp (Wq x.tags) tc] x:=aO.moves.mv ⟨XN,fun k hk ho=>⟨ho,cj _ _ _ hk⟩⟩ Zx.o;generalize hW2:World.alloc w1 _=W2 at *;generalize hb0:w1.1.size=b0 at *;clear hW2 hb0 Zx cU;have Vn:=aa hv2;clear hv2;obtain⟨zf,z0,z1,z2,z3,z4,z5,z6⟩:=Gq gh;obtain⟨sb,sk,so⟩:=CR gh (By x.name) (Bm U8 x.id) (Bm Sj x.first) (Bm Sj x.Gc) (Ft x.closed) (Ft x.missing) (FG tp (Wq x.tags) tc) lX;have cJ:=aa (sb _ _ mA hb2);have F2:=aa sk;have QW:=aa so;clear sb sk so gh;refine lR 12 fun K hK=>?_;go_simp;refine hK.o _ _ (HS.o _ cJ.o) ?_;clear hK K;refine lR 13 fun K hK=>?_;go_simp;refine hK.o _ _ (HS.o _ cJ.o) ?_;clear hK K;refine aP Yp lX ?_;simp only[cQ,km,cL];exact HK.o _ _ kk b0 _ _ _ _ _ _ _ _ _ _ _ _ HKK.o cJ.o mA F2.o (aO.moves.mv ⟨Tdi,fun k hk ho=>⟨ho,QW.o k TdC⟩⟩ Vn.o)
 go_simp;have hb2:Below w.1.size w (w.drew.alloc (Sx Tal 69)):=((bj _ _).drew).alloc (bk _) _;refine hK.o _ _ (HS.o _ hb2) ?_;clear hK K hHeld;have hHeld:=HS.o _ hb2;refine lR 7 fun K hK=>?_;go_simp;refine(HC.o _ hb2).mono ?_;rintro e w1 ⟨tp,tc,kk,rfl,C1,hv1,hb1⟩;have HKK:=aa C1;clear C1;have hb1':Below w.1.size w w1:=hb2.trans (hb1.mono hb2.size);refine hK.o _ _ (HS.o _ hb1') ?_;clear hK K hHeld;have hHeld:=HS.o _ hb1';have gh:=(hb1.block _ XN).trans (b9 w.drew (Sx Tal 69));have hv2:=hv1;have mA:w.1.size<=w.1.size:=bk _;have gh:w1.1[w.1.size]?=Vv (Sx Tal 69 (0,0)):=gh;clear hb2;have hb2:=hb1';clear hv1 hb1 hb1';generalize w1=W2 at *;refine cH hQ 8 hHeld ?_;refine cH hQ 9 hHeld ?_;refine cH hQ 10 hHeld ?_;have Vn:=aa hv2;clear hv2;obtain⟨zf,z0,z1,z2,z3,z4,z5,z6⟩:=Gq gh;obtain⟨sb,sk,so⟩:=CR gh (By x.name) (Bm U8 x.id) (Bm Sj x.first) (Bm Sj x.Gc) (Ft x.closed) (Ft x.missing) (FG tp (Wq x.tags) tc) lX;have cJ:=aa (sb _ _ mA hb2);have F2:=aa sk;have QW:=aa so;clear sb sk so gh;refine lR 12 fun K hK=>?_;go_simp;refine hK.o _ _ (HS.o _ cJ.o) ?_;clear hK K;refine lR 13 fun K hK=>?_;go_simp;refine hK.o _ _ (HS.o _ cJ.o) ?_;clear hK K;refine aP Yp lX ?_;simp only[cQ,km,cL];exact HK.o _ _ kk w.1.size _ _ _ _ _ _ _ _ _ _ _ _ HKK.o cJ.o mA F2.o (aO.moves.mv ⟨Tdi,fun k hk ho=>⟨ho,QW.o k TdC⟩⟩ Vn.o)):=h
def Jr{ok:LN}{Q:N2}(w:H7)(g:af)(a:iX)(Bg Bs b3 off3 k nn ac:Nat)(nm:H6)(hgb:w.1[Bg]?=Vv (Sx (Zg g a) 31 (0,0)))(gO:Bs<w.1.size)(hs3:w.cell? (XM Bs 3)=Vv (FG (Vv (b3,off3)) nn ac))(a5:k<nn)(hb3:b3<w.1.size)(hn:w.cell? (b3,off3+k*3+1)=Vv (By nm))
  (hg:dN ok w g a) (TW:Wq g.Gb<=1000000) {x:az}  (Yh:(bH g.Gb nm).getD gT=x) (N3:(bH g.Gb nm).isSome=Tz)
  (HK:Hid (∀(tp:IH) (tc:Nat) (kk:Int) (b:Nat) (W':H7) (u32 u33 u34 u35 u36 u37 u38 u39 u40 u41 u42:zY),V7 (kk<0)=!Tz->Below w.1.size w W'->w.1.size<=b->W'.1[b]?=Vv (Sx (u0 x tp tc) 69 (0,0))->aO (fun k=>ok k/\k<w.1.size) W' [By x.name,Bm U8 x.id,Bm Sj x.first,Bm Sj x.Gc,Ft x.closed,Ft x.missing,FG tp (Wq x.tags) tc] x->Q .normal ⟨#[c0,c1,SL (Vv Bg),SL (Vv Bs),c4,Bm Sj (k:Int),c6,c7,SL (Vv b),Bm Sj kk,c10,ZS,ao,Sf,TO,RK,RW,Rr,SO,Se,St,W0,ZD,Wg,Wr,To,UP,aE,ab,eS,da,dj,u32,u33,u34,u35,u36,u37,u38,u39,u40,u41,u42,mu,mw,mx,nF,pr,o4,oE,oR,oS,pe,qt,qv,rl,rm,sE,sa,sd,yk,zd,zp,ad,am,an,ar,ax,aL,b7,b8,ba,be,bf,bn,bo,bp,bq,br,bu,bv,bx,bA,bB,bL,bN,bV,bt,ca,cb,cc,ce,cf,ci,cl,cn],[]⟩ W'))
  (hQ:∀c (a:Act) (d:Tmp) (v:zY) w,Q (.panic c) (a.put (Vv d) v) w->Q (.panic c) a w) :
  (Ai Tryz.f103 5).wp prog Q ⟨#[c0,c1,SL (Vv Bg),SL (Vv Bs),c4,Bm Sj (k:Int),c6,c7,c8,c9,c10,ZS,ao,Sf,TO,RK,RW,Rr,SO,Se,St,W0,ZD,Wg,Wr,To,UP,aE,ab,eS,da,dj,dq,fs,gE,ff,fb,fa,mT,me,ph,qe,qk,mu,mw,mx,nF,pr,o4,oE,oR,oS,pe,qt,qv,rl,rm,sE,sa,sd,yk,zd,zp,ad,am,an,ar,ax,aL,b7,b8,ba,be,bf,bn,bo,bp,bq,br,bu,bv,bx,bA,bB,bL,bN,bV,bt,ca,cb,cc,ce,cf,ci,cl,cn],[]⟩ w:=by
 exact Ta0
def Jk{ok:LN}{Q:N2}(w:H7)(g:af)(a:iX)(Bg Bs b3 off3 k nn ac:Nat)(nm:H6)(hgb:w.1[Bg]?=Vv (Sx (Zg g a) 31 (0,0)))(gO:Bs<w.1.size)(hs3:w.cell? (XM Bs 3)=Vv (FG (Vv (b3,off3)) nn ac))(a7:k<nn)(hb3:b3<w.1.size)(hn:w.cell? (b3,off3+k*3+1)=Vv (By nm))
  (hg:dN ok w g a) (TW:Wq g.Gb<=1000000) {x:az}  (Yh:(bH g.Gb nm).getD gT=x) (N3:(bH g.Gb nm).isSome=Tz)
  (HK:Hid (∀(tp:IH) (tc:Nat) (kk:Int) (b:Nat) (W':H7) (u22 u23 u24 u25 u26 u27 u28 u29 a5 u31 u32:zY),V7 (kk<0)=!Tz->Below w.1.size w W'->w.1.size<=b->W'.1[b]?=Vv (Sx (u0 x tp tc) 69 (0,0))->aO (fun k=>ok k/\k<w.1.size) W' [By x.name,Bm U8 x.id,Bm Sj x.first,Bm Sj x.Gc,Ft x.closed,Ft x.missing,FG tp (Wq x.tags) tc] x->Q .normal ⟨#[c0,c1,SL (Vv Bg),SL (Vv Bs),c4,Bm Sj (k:Int),SL (Vv b),Bm Sj kk,c8,c9,c10,ZS,ao,Sf,TO,RK,RW,Rr,SO,Se,St,W0,u22,u23,u24,u25,u26,u27,u28,u29,a5,u31,u32,fs,gE,ff,fb,fa,mT,me,ph,qe,qk,mu,mw,mx,nF,pr,o4,oE,oR,oS,pe,qt,qv,rl,rm,sE],[]⟩ W'))
  (hQ:∀c (a:Act) (d:Tmp) (v:zY) w,Q (.panic c) (a.put (Vv d) v) w->Q (.panic c) a w) :
  (Ai Tryz.f104 5).wp prog Q ⟨#[c0,c1,SL (Vv Bg),SL (Vv Bs),c4,Bm Sj (k:Int),c6,c7,c8,c9,c10,ZS,ao,Sf,TO,RK,RW,Rr,SO,Se,St,W0,ZD,Wg,Wr,To,UP,aE,ab,eS,da,dj,dq,fs,gE,ff,fb,fa,mT,me,ph,qe,qk,mu,mw,mx,nF,pr,o4,oE,oR,oS,pe,qt,qv,rl,rm,sE],[]⟩ w:=by
 exact Ta0
def JX{ok:LN}{Q:N2}(w:H7)(g:af)(a:iX)(Bg Bs b3 off3 k nn ac:Nat)(nm:H6)(hgb:w.1[Bg]?=Vv (Sx (Zg g a) 31 (0,0)))(gO:Bs<w.1.size)(hs3:w.cell? (XM Bs 3)=Vv (FG (Vv (b3,off3)) nn ac))(a5:k<nn)(hb3:b3<w.1.size)(hn:w.cell? (b3,off3+k*3+1)=Vv (By nm))
  (hg:dN ok w g a) (TW:Wq g.F9<=1000000) {x:ay}  (Yh:(aM g.F9 nm).getD eY=x) (N3:(aM g.F9 nm).isSome=Tz)
  (HK:Hid (∀(tp:IH) (tc:Nat) (sp:IH) (sc:Nat) (kk:Int) (b:Nat) (W':H7) (u32 u33 u34 u35 u36 u37 u38 u39 u40 u41 u42:zY),V7 (kk<0)=!Tz->Below w.1.size w W'->w.1.size<=b->W'.1[b]?=Vv (Sx (ZM x tp tc sp sc) 46 (0,0))->aN (fun k=>ok k/\k<w.1.size) W' [By x.name,Bm U8 x.id,Ft x.hidden,Ft x.ro,FG tp (Wq x.tags) tc,FG sp (Wq x.Gf) sc] x->Q .normal ⟨#[c0,c1,SL (Vv Bg),SL (Vv Bs),c4,c5,c6,Bm Sj (k:Int),SL (Vv b),Bm Sj kk,c10,ZS,ao,Sf,TO,RK,RW,Rr,SO,Se,St,W0,ZD,Wg,Wr,To,UP,aE,ab,eS,da,dj,u32,u33,u34,u35,u36,u37,u38,u39,u40,u41,u42,mu,mw,mx,nF,pr,o4,oE,oR,oS,pe,qt,qv,rl,rm,sE,sa,sd,yk,zd,zp,ad,am,an,ar,ax,aL,b7,b8,ba,be,bf,bn,bo,bp,bq,br],[]⟩ W'))
  (hQ:∀c (a:Act) (d:Tmp) (v:zY) w,Q (.panic c) (a.put (Vv d) v) w->Q (.panic c) a w) :
  (Ai Tryz.f106 7).wp prog Q ⟨#[c0,c1,SL (Vv Bg),SL (Vv Bs),c4,c5,c6,Bm Sj (k:Int),c8,c9,c10,ZS,ao,Sf,TO,RK,RW,Rr,SO,Se,St,W0,ZD,Wg,Wr,To,UP,aE,ab,eS,da,dj,dq,fs,gE,ff,fb,fa,mT,me,ph,qe,qk,mu,mw,mx,nF,pr,o4,oE,oR,oS,pe,qt,qv,rl,rm,sE,sa,sd,yk,zd,zp,ad,am,an,ar,ax,aL,b7,b8,ba,be,bf,bn,bo,bp,bq,br],[]⟩ w:=by
 exact TaZ
def pq{ok:LN}{v:ay}{w:H7}(hv:aN ok w u v)(hl:Wq v.Gf<=1000000000):Calls prog 109 #[Tk u.toArray] w fun e w'=>e=S6 (Bm Sj (eZ v))/\Below w.1.size w w':=by
 obtain⟨tv,sv,rfl,ew,gA⟩:=hv;obtain⟨tp,tc,rfl,_,_⟩:=ew.cap;obtain⟨sp,sc,rfl,a7,a8⟩:=gA.cap;replace gA:=aa gA;have HB:=aa (ae w (Sx (ZM v tp tc sp sc) 46));by_cases h1:Wq v.Gf=1
 ·obtain⟨s,hs⟩:=aj v.Gf 0 WQ;have hk:eZ v=s.kind:=by
   exact Tcw
  obtain⟨b,off,us,rfl,_,cX,ez,eE,a5⟩:=gA.o.elem hs;obtain⟨a,st,rfl,_,_⟩:=eE;have c2:=(Sc HB.o cX).trans (a5 2 _ lX);rw[Nat.zero_mul,fg]at c2;clear a5 ez hs;rw[hk];clear hk;have hq:((Wq v.Gf:Int) != 1)=VN:=by rw[h1];rfl
  have h2:0<Wq v.Gf:=by omega
  have H1:=aa h1;clear h1;go_enter func109,ntmps109;exact TcM
 have hk:eZ v=0:=by
  exact Tcn
 rw[hk];clear hk;have hq:((Wq v.Gf:Int) != 1)=VR:=bne_iff_ne.2 WQ;go_enter func109,ntmps109;exact TcM
def Jp{ok:LN}(v:ay)(w:H7)(hv:aN ok w u v)(hl:Wq v.Gf<=1000000000):Calls prog 177 #[Tk u.toArray] w fun e w'=>e=S6 (Bm Sj (C8 v))/\Below w.1.size w w':=by
 obtain⟨tv,sv,rfl,ew,gA⟩:=hv;obtain⟨tp,tc,rfl,_,_⟩:=ew.cap;obtain⟨sp,sc,rfl,a8,a9⟩:=gA.cap;replace gA:=aa gA;have HB:=aa (ae w (Sx (ZM v tp tc sp sc) 46));have Fc:=aa (b9 w (Sx (ZM v tp tc sp sc) 46));go_enter func177,ntmps177
 go_upto_region 1 with(fail);generalize AI w _=W1 at *;generalize Qu:w.1.size=Bv at Fc ⊢;go_wp2;go_loopw[3,4] (fun n i wr=>∃k:Nat,k<=Wq v.Gf/\i=Bm Sj k/\n=Bm Sj ((v.Gf.take k).foldl (fun n s=>fF n s.length) 0)/\Below W1.1.size W1 wr) (fun _ i _=>Wq v.Gf-(intOf i).toNat)
 exact⟨0,cg _,rfl,rfl,bj _ _⟩;obtain⟨k,hk,rfl,rfl,a5⟩:=hrel;have hB:Hid (Below w.1.size w wr):=YS HB a5;have x5:=mi ((a5.block _ (aq Fc.o)).trans Fc.o) 5 _ lX;have pB:=uZ (v.Gf.take k) 0 WQ WQ;by_cases hlt:k<Wq v.Gf
 ·obtain⟨s,hs⟩:=aj v.Gf k hlt;obtain⟨b,off,us,rfl,_,cX,ez,eE,a7⟩:=gA.o.elem hs;obtain⟨a,st,rfl,o0,hst⟩:=eE;obtain⟨ap,ac,rfl,_,_⟩:=o0.cap;obtain⟨eN,eR,rfl,_,_⟩:=hst.cap;have cT:wr.1[b]?=w.1[b]?:=hB.o.block b cX;have q1:=ai cT (a7 1 _ lX);have HF:=aa (DC (fun n s=>fF n (aB.length s)) 0 v.Gf k s hs);have cm:Hid (∀n,Below W1.1.size W1 (wr.drewN n)):=aa fun n=>aT a5 n;generalize (v.Gf.take k).foldl (fun n s=>fF n (aB.length s)) 0=m at *;clear a7 ez hs cT o0 hst a5;go_wp2;go_roundw
  exact⟨k+1,WQ,Zf,by rw[HF.o];rfl,by first|exact cm.o 0|exact cm.o _⟩;exact Ti
 obtain rfl:k=Wq v.Gf:=by omega
 go_wp2;go_ret;exact⟨cz (by rw[jz (bk _)];rfl),hB.o⟩
def Ar{ok:LN}(g:af)(a:iX){w:H7}(hg:ck aN 6 ok w [FG a.vp (Wq g.F9) a.vc] g.F9)(hz:JT g):Calls prog 154 #[Tk (Zg g a),By nm] w fun e w'=>e=S6 (Bm Sj (dO g nm))/\Below w.1.size w w':=by
 have hA1:=ae w (Sx (Zg g a) 31);have US:=b9 w (Sx (Zg g a) 31);have a8:=aa ((ck.moves aN.moves).mv (Mv.of hA1) hg);have cU:=aa hA1;have HS:=aa (Dt hz nm);have HL:Hid (dO g nm=_):=aa (dO.eq_1 g nm);have mb:=hz.vl;clear hg hA1;go_enter func154,ntmps154
 go_upto_region 1 with(fail);generalize AI w _=W1 at *;generalize hE:w.1.size=Bg at US ⊢;have g0:=xr (mi US);go_wp2_with fail;clear g0;refine(aj7 g a nm W1 a8.o mb).mono ?_;rintro e w2 ⟨u,kk,rfl,hv,-,hb2⟩;generalize (aM g.F9 nm).getD eY=x at *;have HV:=aa hv;obtain⟨tv,sv,rfl,ew,gA⟩:=hv;obtain⟨tp,tc,rfl,_,_⟩:=ew.cap;obtain⟨sp,sc,rfl,_,_⟩:=gA.cap;clear ew gA;have cm:=YS cU hb2;have pC:=ae w2 (Sx (ZM x tp tc sp sc) 46);have a5:=aa pC;have F2:=aa (b9 w2 (Sx (ZM x tp tc sp sc) 46));clear hb2 pC US;go_upto_region 2 with(fail);generalize AI w2 _=W3 at *;generalize Yx:w2.1.size=Bx at F2 ⊢;have x0:=sv6 (mi F2.o);go_wp2_with fail;clear x0;refine(Jp x W3 (aN.moves.mv (Mv.of a5.o) HV.o) (by have:=HS.o.Gf;omega)).mono ?_;rintro e w4 ⟨rfl,a7⟩;have eI:=aa ((cm.o.trans (a5.o.mono cm.o.size)).trans (a7.mono (cm.o.trans (a5.o.mono cm.o.size)).size));clear a7;go_wp2;go_ret;exact⟨cz HL.o.symm,eI.o⟩
def Im(st len kd ch a5 mode dn:Int)(ap sp:IH)(al ac sl sc:Nat)(log pool:H6)(w:H7)(h0:0<=len)(h1:len<=9223372036854775807)(ha:al<=1000000):Calls prog 54 #[Tk (TaB st len kd al ap ac ch sl sp sc log pool a5 mode dn)] w fun e w'=>e=S6 (Bm Sj (iB kd len al))/\Below w.1.size w w':=by
 have HB:=aa (ae w (Sx (TaB st len kd al ap ac ch sl sp sc log pool a5 mode dn) 55));go_enter func54,ntmps54
 exact Tba
def Gt:jx gy:=fun _ _ vs x=>vs=[By x.vol,By x.disk,Bm Sj x.start,Bm Sj x.len]
def Gt.moves:Moves Gt:=⟨fun _ h=>h⟩
def Ic:(prog.info? 171).map (fun i=>(i.zero,i.size,i.bytes))=Vv (Vv (Tk #[By ⟨#[]⟩,By ⟨#[]⟩,Bm Sj 0,Bm Sj 0]),4,48):=by kernel_rfl
def AC(B:Nat)(w:H7)(v:zY)(l:wy gy):Prop:=bF Gt 4 171 B (fun _=>False) w v l
def AC.nil(B:Nat)(w:H7):AC B w (FG VX 0 0) []:=⟨[],gS _ _ _ 4,rfl⟩
def AC.keep{v:zY}(h:AC B w v l)(hz:w.1.size<=w'.1.size)(hk:∀k,v.ownBlock=Vv k->w'.1[k]?=w.1[k]?):AC B w' v l:=by
 obtain⟨cs,ho,hf⟩:=h;exact⟨cs,aC ho hk,Flat.moves Gt.moves ⟨hz,fun b _ f=>f.elim⟩ _ _ hf⟩
def Tcz(h:gt:=by
 refine h.keep hb.size fun k e=>hb.block k ?_;obtain⟨cs,ho,_⟩:=h;exact(ho.lt k e).2):=h
def AC.below{v:zY}(h:AC B w v l)(hb:Below w.1.size w w'):AC B w' v l:=by
 exact Tcz
def AC.notSeg{v:zY}{cs:Array zY}(h:AC B w v l)(hk:w.1[k]?=Vv (Sx cs 55 z)):v.ownBlock≠Vv k:=fun e=>by
 obtain⟨_,ho,_⟩:=h;rcases ho.2 with⟨rfl,_⟩|⟨g,cap,a5,rfl,_,XQ,_⟩
 ·cases e
 obtain rfl:g=k:=by injection e
 rw[hk]at XQ;injection XQ with XQ;injection XQ with _ XQ _
 cases XQ
def AC.ge{v:zY}(h:AC B w v l)(e:v.ownBlock=Vv k):B<=k/\k<w.1.size:=by
 exact TcL
noncomputable def H9(n:Nat):Code:=((Tryz.f114.body.bind (kX n)).getD .skip)
def Tec(h:gt:=by go_simp;rfl):=h
def Db{Q:N2}{c2 c9 ZS ao Sf TO RK RW Rr SO Se St W0 ZD Wg Wr To UP aE ab eS da dj dq fs gE ff fb fa mT me ph qe qk mu mw mx nF pr o4 oE oR oS pe qt qv rl rm sE sa sd yk zd zp ad am an ar ax aL b7 b8 ba be bf bn bo bp bq br bu bv bx bA bB bL bN bV bt:zY}(w:H7)(B Bg Bs b b3 off off3 k n p ac sc vc:Nat)(sp:IH)(s:aB)(a:aR)(name:H6){l:wy gy}
  (hB:B<=w.1.size) (au:k<n) (av:p<Wq s.Ga) (hal:Wq s.Ga<=1000) (hll:l.length<=100000) (On:0<=s.length/\s.length<=1000000)
  (hg:Bg<w.1.size) (a5:w.cell? (XM Bg 7)=Vv (FG (Vv (b,off)) n vc)) (hb:b<w.1.size) (a7:w.cell? (b,off+k*6)=Vv (By name))
  (hs:w.1[Bs]?=Vv (Sx (ZN s (Vv ⟨b3,off3,VX⟩) ac sp sc) 55 (0,0))) (hb3:b3<w.1.size) (a8:w.cell? (b3,off3+p*3+1)=Vv (By a.on)) (a9:w.cell? (b3,off3+p*3+2)=Vv (Bm Sj a.start))
  (hO:AC B w v3 l)
  (HK:Hid (∀(v':zY) (w':H7) (u62 u63 u64 u65 u66 u67 u68 u69 u70 u71 u72 u73 u74 u75 u76 u77 u78 u79 u80 u81 u82 u83 u84 u85 u86:zY),AC B w' v' (l++[aJ name s a])->Below B w w'->w'.1[Bs]?=w.1[Bs]?->Q .normal ⟨#[c0,SL (Vv Bg),c2,v',Bm Sj (k:Int),c5,SL (Vv Bs),Bm Sj (p:Int),c8,c9,c10,ZS,ao,Sf,TO,RK,RW,Rr,SO,Se,St,W0,ZD,Wg,Wr,To,UP,aE,ab,eS,da,dj,dq,fs,gE,ff,fb,fa,mT,me,ph,qe,qk,mu,mw,mx,nF,pr,o4,oE,oR,oS,pe,qt,qv,rl,rm,sE,sa,sd,yk,zd,u62,u63,u64,u65,u66,u67,u68,u69,u70,u71,u72,u73,u74,u75,u76,u77,u78,u79,u80,u81,u82,u83,u84,u85,u86,bt],[]⟩ w'))
  (hQ:∀c (a:Act) (d:Tmp) (v:zY) w,Q (.panic c) (a.put (Vv d) v) w->Q (.panic c) a w) :
  (H9 14).wp prog Q ⟨#[c0,SL (Vv Bg),c2,v3,Bm Sj (k:Int),c5,SL (Vv Bs),Bm Sj (p:Int),c8,c9,c10,ZS,ao,Sf,TO,RK,RW,Rr,SO,Se,St,W0,ZD,Wg,Wr,To,UP,aE,ab,eS,da,dj,dq,fs,gE,ff,fb,fa,mT,me,ph,qe,qk,mu,mw,mx,nF,pr,o4,oE,oR,oS,pe,qt,qv,rl,rm,sE,sa,sd,yk,zd,zp,ad,am,an,ar,ax,aL,b7,b8,ba,be,bf,bn,bo,bp,bq,br,bu,bv,bx,bA,bB,bL,bN,bV,bt],[]⟩ w:=by
 conv=>arg 2;whnf
 have GF:=aq hs;have sL:∀(j:Nat) (z:zY),[Bm Sj s.start,Bm Sj s.length,Bm Sj s.kind,FG (Vv (b3,off3)) (Wq s.Ga) ac,Bm Sj s.chunk,FG sp (Wq s.stale) sc,By s.log,By s.pool,Bm Sj s.device,Bm Sj s.mode,Bm Sj s.done][j]?=Vv z->∀q:fo,(ext w q).cell? ⟨Bs,j,VX⟩=Vv z:=fun j z hz=>aG GF (by
  simp only[AN,hs];simpa using hz)
 have s0:=IC sL;have g7:=aG hg a5;have n0:=aG hb a7;have a1:=aG hb3 a8;have a2:=aG hb3 a9;replace hO:=aa hO;replace hs:=aa hs;have af:=On.1;have ag:=On.2;obtain⟨i0,hi,du,R0,RC⟩:=gg Ic;replace hi:=aa hi;replace du:=aa du;replace R0:=aa R0;replace RC:=aa RC;clear sL a5 a7 a8 a9 On;(refine lG 23 Yp lX rfl Yp Yp (fun _ _ _ _ h=>hQ _ _ _ _ _ h) Tec ?_;simp only[xi,iv,cQ,cL])
 repeat(go_big_quiet_step ((go_at_call 54;exact iH (Im _ _ _ _ _ _ _ _ _ _ _ _ _ _ _ _ WQ WQ WQ))))
 with_reducible refine fR ?_
 intro wq ia;have kq:=dY ia;clear ia s0 g7 n0 a1 a2;have ah:=hO.o.below kq;have G2:=ae wq (Sx #[name,a.on,Bm Sj a.start,Bm Sj (iB s.kind s.length (Wq s.Ga))] 171);have ai:=ah.below G2;have aj:=aa ai;have pL:=aa G2;have Tp:=aa kq;have PF:=cA hB kq.size;clear ah ai G2 kq;go_wp2_with(at_builtin;refine dX Gt.moves underlying168 hi.o du.o R0.o RC.o lX YR YR lX lX B (fun _=>False) v3 l (aJ name s a) lX aj.o wq.1.size 1 [By name,By a.on,Bm Sj a.start,Bm Sj (iB s.kind s.length (Wq s.Ga))] lX rfl rfl ?d3 ?d4 ?d5 ?d6 (fun _ _ f=>f) ?_)
 all_goals first|(case d3=>(simp[Value.oneCell']))|(case d4=>(intro j y hy;exact aD lX Tdr))|(case d5=>omega)|(case d6=>omega)|(case d6=>simp only[cW];omega)|skip
 intro gb cap w3 hp;have CT:∀j,j<w.1.size->v3.ownBlock≠Vv j->w3.1[j]?=w.1[j]?:=fun j hj hne=>(hp.grown.block j (cC hj (cA Tp.o.size pL.o.size)) (fun e=>hne e.symm)).trans ((pL.o.block j (cC hj Tp.o.size)).trans (Tp.o.block j hj));have jn:Below B w w3:=((Tp.o.mono hB).trans (pL.o.mono PF)).grown hp.grown Tep (fun j e=>(aj.o.ge e).1);have hS:=CT Bs GF (hO.o.notSeg hs.o);have Qt:=hp.own;have HOW:=aa Qt;have PG:=aa jn;replace hS:=aa hS;clear hp Qt jn CT;go_wp2;exact HK.o _ _ _ _ _ _ _ _ _ _ _ _ _ _ _ _ _ _ _ _ _ _ _ _ _ _ _ HOW.o PG.o hS.o
def TeH(h:gt:=by show w.1.size<w.1.size+1;omega):=h
def Ta4(h:gt:=by
 clear zE;go_wp2;clear k2 k3;generalize ao5:wr.1.size=Bs at *;clear ao5;go_loopw[3,7] (fun vo m wr3=>∃p:Nat,p<=Wq s.Ga/\m=Bm Sj (p:Int)/\AC (w.1.size+1) wr3 vo ((pieces (F9.take k)++(v.Gf.take q).flatMap (aK v.name))++(s.Ga.take p).map (aJ v.name s))/\Below (w.1.size+1) W wr3/\wr3.1[Bs]?=Vv (Sx (ZN s ap ac sp sc) 55 (0,0))) (fun _ m _=>Wq s.Ga-(intOf m).toNat)
 exact⟨0,cg _,rfl,by simpa using HO2.o,cm.o,lj.o⟩;obtain⟨p,hp,rfl,ho3,hB3,ml⟩:=hrel;have hW3:=hB3.size;have g7:wr.cell? (XM w.1.size 7)=Vv (FG (Vv (b,off)) F9.length vc):=(Sc hB3 TeH).trans HG7.o;have aG6:=aq ml;have z3:=cr ml 3 _ lX;by_cases hlt3:p<Wq s.Ga
 ·obtain⟨a,ha⟩:=aj s.Ga p hlt3;have B4:=HTS.o E4.o a (ct ha);obtain⟨b3,off3,u3,rfl,B7,PV,pT,hva,mB⟩:=ya.o.elem ha;obtain rfl:u3=[Ft a.vol,By a.on,Bm Sj a.start]:=hva;rw[B4]at mB;have cT:wr.1[b3]?=w.1[b3]?:=(hB3.block b3 WQ).trans (HW.o.block b3 PV);have q0:=(cd (w:=w) (a:=⟨b3,off3+p*3,VX⟩) cT).trans (mB 0 _ lX);have q1:=(cd (w:=w) (a:=⟨b3,off3+p*3+1,VX⟩) cT).trans (mB 1 _ lX);have q2:=(cd (w:=w) (a:=⟨b3,off3+p*3+2,VX⟩) cT).trans (mB 2 _ lX);have hbn:wr.1[b]?=w.1[b]?:=(hB3.block b WQ).trans (HW.o.block b cX);have n0:=(cd (w:=w) (a:=⟨b,off+k*6,VX⟩) hbn).trans (HCV.o 0 _ lX);have HA:=aa ha;clear ha;have HO3:=aa ho3;clear ho3;have cJ:=aa hB3;clear hB3;have HS3:=aa ml;clear ml;have HLL:Hid (((pieces (F9.take k)++(v.Gf.take q).flatMap (aK v.name))++(s.Ga.take p).map (aJ v.name s)).length<=100000):=aa (by
   obtain⟨rest,od⟩:=sK Sq.o B6.o HA.o E4.o;have e:=fj List.length od;have aq5:=HPN.o;rw[e]at aq5;simp only[cD,pieces]at aq5 ⊢;omega)
  clear mB cT pT B4 hbn;go_upto_region 14 with(fail);clear q0;refine Db wr (w.1.size+1) w.1.size Bs b b3 off off3 k F9.length p ac sc vc sp s a v.name WQ hlt hlt3 HTL.o HLL.o WG.o WQ g7 WQ n0 HS3.o WQ q1 q2 HO3.o (aa ?_) ?hQ
  case hQ=>exact fun _ _ _ _ _ h=>h
  clear g7 n0 q1 q2 z3;intro v' w' u62 u63 u64 u65 u66 u67 u68 u69 u70 u71 u72 u73 u74 u75 u76 u77 u78 u79 u80 u81 u82 u83 u84 u85 u86 ho' hb' hs';have HO':=aa ho';clear ho';have Ks:=aa hb';clear hb';have HS':=aa (hs'.trans HS3.o);clear hs';go_wp2;go_roundw;exact⟨p+1,WQ,Zf,by rw[take_snoc' _ _ _ HA.o,gl,<- cV];exact HO'.o,cJ.o.trans Ks.o,HS'.o⟩;exact Ti
 obtain rfl:p=Wq s.Ga:=by omega
 rw[cI]at ho3;have HO3:=aa ho3;clear ho3;have cJ:=aa hB3;clear hB3;clear g7;go_wp2;go_roundw;exact⟨q+1,WQ,Zf,by rw[gq B6.o,show aK v.name s=s.Ga.map (aJ v.name s) from aw E4.o,<- cV];exact HO3.o,cJ.o⟩;exact Ti):=h
def Hg{ok:LN}(a7:H6)(id seq ext nx:Int)(tp dp vp hp:IH)(tl tc dl dc vc hl hc:Nat)(F9:wy ay)(w:H7)(hv:ck aN 6 ok w [FG vp F9.length vc] F9)(mb:F9.length<=1000)(ht:qx F9)(a9:(pieces F9).length<=100000):Calls prog 114 #[Tk (Tao a7 id seq ext nx tl tp tc dl dp dc F9.length vp vc hl hp hc)] w fun e w'=>∃v,e=S6 v/\AC w.1.size w' v (pieces F9)/\Below w.1.size w w':=by
 have ab:=ae w (Sx (Tao a7 id seq ext nx tl tp tc dl dp dc F9.length vp vc hl hp hc) 31);have a8:=b9 w (Sx (Tao a7 id seq ext nx tl tp tc dl dp dc F9.length vp vc hl hp hc) 31);have R0:(w.alloc (Sx (Tao a7 id seq ext nx tl tp tc dl dp dc F9.length vp vc hl hp hc) 31)).1.size=w.1.size+1:=by simp
 replace hv:=aa hv;replace ht:=aa ht;have HPN:=aa a9;clear a9;replace a8:=aa a8;have HW:=aa ab;clear ab;replace R0:=aa R0;go_enter func114,ntmps114;go_wp2;generalize WE:w.alloc (Sx (Tao a7 id seq ext nx tl tp tc dl dp dc F9.length vp vc hl hp hc) 31)=W at *;clear WE;have hz:=R0.o
 go_loopw[3,4] (fun vo vi wr=>∃k:Nat,k<=F9.length/\vi=Bm Sj (k:Int)/\AC (w.1.size+1) wr vo (pieces (F9.take k))/\Below (w.1.size+1) W wr) (fun _ vi _=>F9.length-(intOf vi).toNat)
 exact⟨0,cg _,rfl,AC.nil _ _,bj _ _⟩;obtain⟨k,hk,rfl,ho,hB⟩:=hrel;have g7:wr.cell? (XM w.1.size 7)=Vv (FG vp F9.length vc):=(Sc hB TeH).trans (by simp[AN,a8.o]);by_cases hlt:k<F9.length
 ·obtain⟨v,hD⟩:=aj F9 k hlt;obtain⟨b,off,u1,rfl,gR,cX,ez,sA,af⟩:=hv.o.elem hD;obtain⟨tv,sv,rfl,ew,gA⟩:=sA;obtain⟨gp,gc,rfl,_,_⟩:=gA.cap;have HG7:Hid (W.cell? (XM w.1.size 7)=Vv (FG (Vv (b,off)) F9.length vc)):=aa (by simp[AN,a8.o]);have Sq:=aa hD;clear hD;replace gA:=aa gA;have HCV:=aa af;clear af;replace ho:=aa ho;replace hB:=aa hB;have Vc:=aa (ht.o v (ct Sq.o));clear ew ez;go_wp2;clear g7;go_loopw[3,5] (fun vo vi ag=>∃q:Nat,q<=Wq v.Gf/\vi=Bm Sj (q:Int)/\AC (w.1.size+1) ag vo (pieces (F9.take k)++(v.Gf.take q).flatMap (aK v.name))/\Below (w.1.size+1) W ag) (fun _ vi _=>Wq v.Gf-(intOf vi).toNat)
  exact⟨0,cg _,rfl,by simpa using ho.o,hB.o⟩;obtain⟨q,hq,rfl,ho,hB⟩:=hrel;have ak:=hB.size;have g7:wr.cell? (XM w.1.size 7)=Vv (FG (Vv (b,off)) F9.length vc):=(Sc hB TeH).trans HG7.o;have hbn:wr.1[b]?=w.1[b]?:=(hB.block b WQ).trans (HW.o.block b cX);have v5:=(cd (w:=w) (a:=⟨b,off+k*6+5,VX⟩) hbn).trans (HCV.o 5 _ lX);clear hbn;by_cases hlt2:q<Wq v.Gf
  ·obtain⟨s,yq⟩:=aj v.Gf q hlt2;obtain⟨b2,off2,u2,rfl,I0,C2,B5,eE,a5⟩:=gA.o.elem yq;obtain⟨av,Rn,rfl,o0,hst⟩:=eE;obtain⟨ap,ac,rfl,_,_⟩:=o0.cap;obtain⟨sp,sc,rfl,_,_⟩:=hst.cap;have cT:wr.1[b2]?=w.1[b2]?:=(hB.block b2 WQ).trans (HW.o.block b2 C2);have z0:=(cd (w:=w) (a:=⟨b2,off2+q*11,VX⟩) cT).trans (a5 0 _ lX);have z1:=(cd (w:=w) (a:=⟨b2,off2+q*11+1,VX⟩) cT).trans (a5 1 _ lX);have z2:=(cd (w:=w) (a:=⟨b2,off2+q*11+2,VX⟩) cT).trans (a5 2 _ lX);have z3:=(cd (w:=w) (a:=⟨b2,off2+q*11+3,VX⟩) cT).trans (a5 3 _ lX);have z4:=(cd (w:=w) (a:=⟨b2,off2+q*11+4,VX⟩) cT).trans (a5 4 _ lX);have z5:=(cd (w:=w) (a:=⟨b2,off2+q*11+5,VX⟩) cT).trans (a5 5 _ lX);have z6:=(cd (w:=w) (a:=⟨b2,off2+q*11+6,VX⟩) cT).trans (a5 6 _ lX);have z7:=(cd (w:=w) (a:=⟨b2,off2+q*11+7,VX⟩) cT).trans (a5 7 _ lX);have z8:=(cd (w:=w) (a:=⟨b2,off2+q*11+8,VX⟩) cT).trans (a5 8 _ lX);have z9:=(cd (w:=w) (a:=⟨b2,off2+q*11+9,VX⟩) cT).trans (a5 9 _ lX);have z10:=(cd (w:=w) (a:=⟨b2,off2+q*11+10,VX⟩) cT).trans (a5 10 _ lX);have B6:=aa yq;clear yq;have Ut:=Vc.o.2 s (ct B6.o);have WG:=aa Ut.1;have HTL:=aa Ut.2.1;have HTS:=aa Ut.2.2;have ya:=aa o0;clear o0;have hb2:=ae wr (Sx (ZN s ap ac sp sc) 55);have lj:=aa (b9 wr (Sx (ZN s ap ac sp sc) 55));have HO2:=aa (ho.below hb2);have cm:=aa (hB.trans (hb2.mono WQ));have k2:(wr.alloc (Sx (ZN s ap ac sp sc) 55)).cell? (XM wr.1.size 2)=Vv (Bm Sj s.kind):=aD lX rfl;have k3:(wr.alloc (Sx (ZN s ap ac sp sc) 55)).cell? (XM wr.1.size 3)=Vv (FG ap (Wq s.Ga) ac):=aD lX rfl;clear ho hB hb2 hst a5 cT B5 Ut;by_cases G0:fP s
   ·have C1:s.kind=1\/s.kind=2\/s.kind=8:=G0;have E4:=aa G0;clear G0;rcases C1 with zE|zE|zE
    ·have Lk:(s.kind != 1)=VN:=by simp[zE]
     exact Ta4
    ·have Lk:(s.kind != 1)=VR:=by simp[zE]
     have QV:(s.kind != 2)=VN:=by simp[zE]
     exact Ta4
    have Lk:(s.kind != 1)=VR:=by simp[zE]
    have QV:(s.kind != 2)=VR:=by simp[zE]
    have Ve:(s.kind != 8)=VN:=by simp[zE]
    exact Ta4
   have n1:¬s.kind=1:=fun e=>G0 (.inl e)
   have n2:¬s.kind=2:=fun e=>G0 (.inr (.inl e));have n8:¬s.kind=8:=fun e=>G0 (.inr (.inr e));have Lk:(s.kind != 1)=VR:=by simpa using n1
   have QV:(s.kind != 2)=VR:=by simpa using n2
   have Ve:(s.kind != 8)=VR:=by simpa using n8
   have E4:=aa G0;clear G0 n1 n2 n8;go_wp2;go_roundw;exact⟨q+1,WQ,Zf,by rw[gq B6.o,show aK v.name s=[] from bh E4.o,eM];exact HO2.o,cm.o⟩;exact Ti
  obtain rfl:q=Wq v.Gf:=by omega
  rw[cI]at ho;have HO2:=aa ho;clear ho;have cm:=aa hB;clear hB;go_wp2;go_roundw;exact⟨k+1,WQ,Zf,by rw[take_snoc' _ _ _ Sq.o];simp only[pieces,xt,lB,List.flatMap_nil,eM];exact HO2.o,cm.o⟩;exact Ti
 obtain rfl:k=F9.length:=by omega
 rw[cI]at ho;have HO2:=aa ho;clear ho;have cm:=aa hB;clear hB;go_wp2;go_ret;refine⟨_,rfl,?_,HW.o.trans (cm.o.mono WQ)⟩;obtain⟨cs,ah,hf⟩:=HO2.o;exact⟨cs,⟨ah.1,by
  rcases ah.2 with q|⟨g,cap,ai,e,h1,h2⟩
  ·exact .inl q
  exact .inr ⟨g,cap,ai,e,WQ,h2⟩⟩,hf⟩
def TbM(h:gt:=by
 clear h6
 cases Fi:s.log.toList.isEmpty with
 |true =>
  go_wp2;go_ret;exact⟨rfl,fy.o⟩
 |false =>
  have dl:=HLL.o Fi;go_wp2;go_ret;exact⟨rfl,fy.o⟩):=h
def JM{ok:LN}(g:af)(a:iX)(s:aB)(w:H7)(hv:bC ok w u s)(hg:dN ok w g a)(hz:JT g)(aF:Wq s.Ga<=1000000)(he:jw g s=VR):Calls prog 103 #[Tk (Zg g a),Tk u.toArray] w fun e w'=>e=S6 (Ft VR)/\Below w.1.size w w':=by
 have aG:=aa fun(r:aR) (hr:r∈s.Ga)=>JU he hr;have PH:=aa fun h=>Km he h;have aH:=aa fun h=>II he h;clear he;obtain⟨av,Rn,rfl,o0,TG⟩:=hv;obtain⟨ap,ac,rfl,_,_⟩:=o0.cap;obtain⟨eN,eR,rfl,_,_⟩:=TG.cap;replace o0:=aa o0;clear TG;have hA1:=ae w (Sx (Zg g a) 31);have hA2:=ae (w.alloc (Sx (Zg g a) 31)) (Sx (ZN s ap ac eN eR) 55);have US:=b9 w (Sx (Zg g a) 31);have fl:=aa (b9 (w.alloc (Sx (Zg g a) 31)) (Sx (ZN s ap ac eN eR) 55));have ua:=aa ((hA2.block _ (aq US)).trans US);have HB:=aa (hA1.trans (hA2.mono hA1.size));have Q5:=aa (hg.mv (Mv.of HB.o));have mb:=hz.vl;have CD:=hz.dl;clear hA1 hA2 US hg;rw[cW]at fl;go_enter func103,ntmps103
 go_upto_region 1 with(fail);generalize AI (AI w _) _=W1 at *;generalize aI:w.1.size+1=Bs at fl ⊢;generalize aJ:w.1.size=Bg at ua ⊢;clear aI aJ;go_wp2;go_loopw[5] (fun i wr=>∃k:Nat,k<=Wq s.Ga/\i=Bm Sj k/\Below W1.1.size W1 wr) (fun i _=>Wq s.Ga-(intOf i).toNat)
 exact⟨0,cg _,rfl,bj _ _⟩;obtain⟨k,hk,rfl,hB⟩:=hrel;have TJ:=aa hB;have aK:=fl;have G1:=ua;have aL:=Q5;replace fl:=Zl hB fl;replace ua:=Zl hB ua;replace Q5:=aa (Q5.o.mv (Mv.of hB));have fy:=YS HB hB;clear hB aK G1 aL;have s3:=mi fl.o 3 _ lX;by_cases hlt:k<Wq s.Ga
 ·obtain⟨r,hr⟩:=aj s.Ga k hlt;have a9:=ct hr;obtain⟨b,off,us,rfl,_,cX,_,eE,ao⟩:=o0.o.elem hr;obtain rfl:us=_:=eE;have cT:=fy.o.block b cX;have hbl:=cC cX fy.o.size;obtain⟨q0,q1,q2⟩:=Mn cT ao;clear ao hr cT;obtain⟨ab,ag⟩:=aG.o r a9;go_upto_region 4 with(fail);refine Jn (ok:=ok) wr g a Bg Bs b off k (Wq s.Ga) ac r.on ua.o (aq fl.o) s3 hlt hbl q1 Q5.o mb lX rfl (aa ?_) (fun _ _ _ _ _ h=>h);intro tp tc sp sc aO aY X4 _ _ _ _ _ _ _ _ _ _ _ ah a7 aP aQ aS;have eI:=aa a7;have h0:=aq fl.o;replace fl:=Zl a7 fl;replace ua:=Zl a7 ua;replace Q5:=aa (Q5.o.mv (Mv.of a7));replace s3:=(Sc a7 h0).trans s3;replace q0:=(Sc a7 hbl).trans q0;replace q1:=(Sc a7 hbl).trans q1;replace hbl:=cC hbl a7.size;clear q2 a7 aP aQ aS h0;go_upto_region 5 with(fail);refine Jr (ok:=ok) X4 g a Bg Bs b off k (Wq s.Ga) ac r.on ua.o (aq fl.o) s3 hlt hbl q1 Q5.o CD lX rfl (aa ?_) (fun _ _ _ _ _ h=>h);intro aZ b8 aT ba X5 _ _ _ _ _ _ _ _ _ _ _ ai a8 aU aV aW;have eK:=aa (TJ.o.trans ((eI.o.trans (a8.mono eI.o.size)).mono TJ.o.size));have h0:=aq fl.o;replace s3:=(Sc a8 h0).trans s3;replace q0:=(Sc a8 hbl).trans q0;clear q1 hbl a8 aU aV aW h0 fl ua Q5 eI TJ fy;cases pS:r.vol with
  |true =>
   rw[pS]at q0;have hd:V7 (aO<0)=VN:=by rw[ah,ab pS];rfl
   clear ah ai ab ag pS a9;go_wp2;go_roundw;exact⟨k+1,WQ,Zf,eK.o⟩;exact Ti
  |false =>
   rw[pS]at q0;have hd:V7 (aT<0)=VN:=by rw[ai,ag pS];rfl
   clear ah ai ab ag pS a9;go_wp2;go_roundw;exact⟨k+1,WQ,Zf,eK.o⟩;exact Ti
 clear hk TJ;go_upto_region 8 with(fail);clear s3;have gL:=mi ua.o;have g0:=xr gL;have sL:=mi fl.o;have sn:=sL 6 _ lX;clear gL sL;go_wp2_with fail;clear g0 sn;refine(aj7 g a s.log wr Q5.o.F9 mb).mono ?_;rintro e wL ⟨uL,kl,rfl,hv,ak,hb⟩;have XR:=aa hv;obtain⟨tv,sv,rfl,ew,gA⟩:=hv;obtain⟨au,aw,rfl,_,_⟩:=ew.cap;obtain⟨ay,az,rfl,_,_⟩:=gA.cap;clear ew gA;generalize bd:(aM g.F9 s.log).getD eY=xL at *;have pC:=ae wL (Sx (ZM xL au aw ay az) 46);have Qp:=aa (b9 wL (Sx (ZM xL au aw ay az) 46));have a5:=hb.trans (pC.mono hb.size);replace ua:=Zl a5 ua;replace fl:=Zl a5 fl;replace Q5:=aa (Q5.o.mv (Mv.of a5));replace fy:=YS fy a5;replace XR:=aa (aN.moves.mv (Mv.of pC) XR.o);clear hb pC a5;go_upto_region 9 with(fail);generalize AI wL _=VL at *;generalize wL.1.size=BL at Qp ⊢;have gL:=mi ua.o;have g0:=xr gL;have sL:=mi fl.o;have sn:=sL 7 _ lX;clear gL sL;go_wp2_with fail;clear g0 sn;refine(aj7 g a s.pool VL Q5.o.F9 mb).mono ?_;rintro e wP ⟨uP,kp,rfl,hv,am,hb⟩;have XR:=aa hv;obtain⟨tv,sv,rfl,ew,gA⟩:=hv;obtain⟨aA,aC,rfl,_,_⟩:=ew.cap;obtain⟨aD,aE,rfl,_,_⟩:=gA.cap;clear ew gA;generalize be:(aM g.F9 s.pool).getD eY=xP at *;have pC:=ae wP (Sx (ZM xP aA aC aD aE) 46);have Qp:=aa (b9 wP (Sx (ZM xP aA aC aD aE) 46));have a5:=hb.trans (pC.mono hb.size);replace ua:=Zl a5 ua;replace fl:=Zl a5 fl;replace Q5:=aa (Q5.o.mv (Mv.of a5));replace fy:=YS fy a5;replace XR:=aa (aN.moves.mv (Mv.of pC) XR.o);clear hb pC a5;go_upto_region 10 with(fail);generalize AI wP _=VP at *;generalize wP.1.size=BP at Qp ⊢;have sL:=mi fl.o;have s2:=sL 2 _ lX;have s6:=sL 6 _ lX;clear sL Qp XR;have HLL:Hid (s.log.toList.isEmpty=VN->V7 (0<=kl)=VR):=aa fun h=>by
  rw[PH.o h]at ak;have:=of_decide_eq_false ak;exact eA WQ
 have aX:Hid (s.kind=6->V7 (0<=kp)=VR):=aa fun h=>by
  rw[aH.o h]at am;have:=of_decide_eq_false am;exact eA WQ
 clear ak am;by_cases h6:s.kind=6
 ·have e6:(s.kind != 6)=VN:=by rw[h6];rfl
  have d6:=aX.o h6;exact TbM
 have e6:(s.kind != 6)=VR:=bne_iff_ne.2 h6;exact TbM
def JW{ok:LN}(g:af)(a:iX)(s:aB)(w:H7)(hv:bC ok w u s)(hg:dN ok w g a)(hz:JT g)(hal:Wq s.Ga<=1000000)(hl:0<=s.length/\s.length<=1000000)(vu:∀d∈g.Gb,0<=d.Gc/\d.Gc<=1000000)(he:s.Ga.all (fI g s)=VR):Calls prog 104 #[Tk (Zg g a),Tk u.toArray] w fun e w'=>e=S6 (Ft VR)/\Below w.1.size w w':=by
 have ah:=aa fun(r:aR) (hr:r∈s.Ga) hv=>KX he hr hv
 have kj:Hid (∀nm,0<=((bH g.Gb nm).getD gT).Gc/\((bH g.Gb nm).getD gT).Gc<=1000000):=aa fun nm=>by
  cases h:bH g.Gb nm with
  |none=>exact⟨Int.le_refl _,YR⟩
  |some d=>exact vu d (eV h)
 clear he vu;obtain⟨av,Rn,rfl,o0,TG⟩:=hv;obtain⟨ap,ac,rfl,_,_⟩:=o0.cap;obtain⟨eN,eR,rfl,_,_⟩:=TG.cap;replace o0:=aa o0;clear TG;have hA1:=ae w (Sx (Zg g a) 31);have hA2:=ae (w.alloc (Sx (Zg g a) 31)) (Sx (ZN s ap ac eN eR) 55);have US:=b9 w (Sx (Zg g a) 31);have fl:=aa (b9 (w.alloc (Sx (Zg g a) 31)) (Sx (ZN s ap ac eN eR) 55));have ua:=aa ((hA2.block _ (aq US)).trans US);have HB:=aa (hA1.trans (hA2.mono hA1.size));have Q5:=aa (hg.mv (Mv.of HB.o));have mb:=hz.vl;have CD:=hz.dl;clear hA1 hA2 US hg;rw[cW]at fl;go_enter func104,ntmps104
 go_upto_region 1 with(fail);generalize AI (AI w _) _=W1 at *;generalize ai:w.1.size+1=Bs at fl ⊢;generalize ak:w.1.size=Bg at ua ⊢;clear ai ak;go_wp2;go_loopw[5] (fun i wr=>∃k:Nat,k<=Wq s.Ga/\i=Bm Sj k/\Below W1.1.size W1 wr) (fun i _=>Wq s.Ga-(intOf i).toNat)
 exact⟨0,cg _,rfl,bj _ _⟩;obtain⟨k,hk,rfl,hB⟩:=hrel;have TJ:=aa hB;have am:=fl;have G1:=ua;have ao:=Q5;replace fl:=Zl hB fl;replace ua:=Zl hB ua;replace Q5:=aa (Q5.o.mv (Mv.of hB));have fy:=YS HB hB;clear hB am G1 ao;have s3:=mi fl.o 3 _ lX;by_cases hlt:k<Wq s.Ga
 ·obtain⟨r,hr⟩:=aj s.Ga k hlt;have a9:=ct hr;obtain⟨b,off,us,rfl,_,cX,_,eE,ab⟩:=o0.o.elem hr;obtain rfl:us=_:=eE;have cT:=fy.o.block b cX;have hbl:=cC cX fy.o.size;obtain⟨q0,q1,q2⟩:=Mn cT ab;clear ab hr cT;cases pS:r.vol with
  |true =>
   rw[pS]at q0;have ag:Hid (∀n,Below W1.1.size W1 (wr.drewN n)):=aa fun n=>aT TJ.o n;clear TJ fl ua Q5 fy hbl q1 q2 pS a9;go_wp2;go_roundw
   exact⟨k+1,WQ,Zf,by first|exact ag.o 0|exact ag.o _⟩;exact Ti
  |false =>
   rw[pS]at q0;obtain⟨au,aw,ay⟩:=ah.o r a9 pS;obtain⟨hd1,hd2⟩:=kj.o r.on;clear pS a9;go_upto_region 5 with(fail);refine Jk (ok:=ok) wr g a Bg Bs b off k (Wq s.Ga) ac r.on ua.o (aq fl.o) s3 hlt hbl q1 Q5.o CD lX rfl (aa ?_) (fun _ _ _ _ _ h=>h);intro aE aF aH aI X5 _ _ _ _ _ _ _ _ _ _ _ az a5 aA a7 aC;generalize (bH g.Gb r.on).getD gT=x at *;have eK:=YS TJ a5;have h0:=aq fl.o;replace fl:=Zl a5 fl;replace s3:=(Sc a5 h0).trans s3;replace q0:=(Sc a5 hbl).trans q0;replace q1:=(Sc a5 hbl).trans q1;replace q2:=(Sc a5 hbl).trans q2;replace a7:=aa a7;clear hbl a5 aA aC h0 ua Q5 TJ fy az;have hA:=ae X5 (Sx (TaC r) 53);have a8:=aa (b9 X5 (Sx (TaC r) 53));replace fl:=Zl hA fl;replace a7:=Zl hA a7;replace eK:=YS eK hA;clear hA;go_upto_region 7 with(fail);clear q0 q1 q2 s3;generalize AI X5 _=X6 at *;generalize X5.1.size=Ba at a8 ⊢;have c1:V7 (r.start<0)=VN:=cN WQ;have c2:V7 (x.Gc<r.start)=VN:=cN WQ;have c3:V7 (x.Gc-r.start<iB s.kind s.length (Wq s.Ga))=VN:=cN WQ;have hw:IntKind.i64.wrap (x.Gc-r.start)=x.Gc-r.start:=dy _ WQ;have sL:=mi fl.o;have GF:=aq fl.o;have s0:=aG GF (sL 0 _ lX);have s1:=aG GF (sL 1 _ lX);have s2:=aG GF (sL 2 _ lX);have s3:=aG GF (sL 3 _ lX);have s4:=aG GF (sL 4 _ lX);have s5:=aG GF (sL 5 _ lX);have s6:=aG GF (sL 6 _ lX);have s7:=aG GF (sL 7 _ lX);have s8:=aG GF (sL 8 _ lX);have s9:=aG GF (sL 9 _ lX);have aD:=aG GF (sL 10 _ lX);have a2:=aG (aq a8.o) (mi a8.o 2 _ lX);have x3:=aG (aq a7.o) (mi a7.o 3 _ lX);have hl1:=hl.1;have aJ:=hl.2;clear sL GF fl a7 a8 hl au aw ay hd1 hd2;(refine aU Yp Yp ?_;(repeat(go_big_quiet_step ((go_at_call 54;exact iH (Im _ _ _ _ _ _ _ _ _ _ _ _ _ _ _ _ hl1 WQ WQ)))));(with_reducible refine fR ?_);intro wq ia;have kq:=dY ia;clear ia)
   have Vk:=YS eK kq;clear kq s0 s1 s2 s3 s4 s5 s6 s7 s8 s9 aD a2 x3 c1 c2 c3 hw;go_wp2;go_roundw;exact⟨k+1,WQ,Zf,Vk.o⟩;exact Ti
 clear hk TJ;exact TcN
def Kh{ok:LN}(g:af)(a:iX)(s:aB)(w:H7)(hv:bC ok w u s)(hg:dN ok w g a)(hz:JT g)(hal:Wq s.Ga<=1000000)(ak:s.kind=6->eZ ((aM g.F9 s.pool).getD eY)=5)(he:(dD s VN).any (dh g)=VN):Calls prog 106 #[Tk (Zg g a),Tk u.toArray] w fun e w'=>e=S6 (Ft VR)/\Below w.1.size w w':=by
 have aI:=aa fun(r:aR) (hr:r∈s.Ga) hv=>IK (J8 he hr hv);have PH:=aa fun h=>IK (KO he h);have aJ:=aa ak
 have Zu:Hid (∀nm,((aM g.F9 nm).getD eY).Gf.length<=1000000000):=aa fun nm=>by
  have:=(Dt hz nm).Gf;omega
 clear he ak;obtain⟨av,Rn,rfl,o0,TG⟩:=hv;obtain⟨ap,ac,rfl,_,_⟩:=o0.cap;obtain⟨eN,eR,rfl,_,_⟩:=TG.cap;replace o0:=aa o0;clear TG;have hA1:=ae w (Sx (Zg g a) 31);have hA2:=ae (w.alloc (Sx (Zg g a) 31)) (Sx (ZN s ap ac eN eR) 55);have US:=b9 w (Sx (Zg g a) 31);have fl:=aa (b9 (w.alloc (Sx (Zg g a) 31)) (Sx (ZN s ap ac eN eR) 55));have ua:=aa ((hA2.block _ (aq US)).trans US);have HB:=aa (hA1.trans (hA2.mono hA1.size));have Q5:=aa (hg.mv (Mv.of HB.o));have mb:=hz.vl;have CD:=hz.dl;clear hA1 hA2 US hg;rw[cW]at fl;go_enter func106,ntmps106
 go_upto_region 1 with(fail);generalize AI (AI w _) _=W1 at *;generalize aK:w.1.size+1=Bs at fl ⊢;generalize aL:w.1.size=Bg at ua ⊢;clear aK aL;have s2:=mi fl.o 2 _ lX;by_cases h6:s.kind=6
 ·have e6:(s.kind==6)=VR:=by rw[h6];rfl
  have hk5:=aJ.o h6;have XO:=Zu.o s.pool;have fy:=HB;clear h6;go_upto_region 2 with(fail);clear s2 e6;have gL:=mi ua.o;have g0:=xr gL;have sL:=mi fl.o;have sn:=sL 7 _ lX;clear gL sL;go_wp2_with fail;clear g0 sn;refine(aj7 g a s.pool W1 Q5.o.F9 mb).mono ?_;rintro e wP ⟨uP,kk,rfl,hv,aO,hb⟩;have XR:=aa hv;obtain⟨tv,sv,rfl,ew,gA⟩:=hv;obtain⟨am,ao,rfl,_,_⟩:=ew.cap;obtain⟨au,aw,rfl,_,_⟩:=gA.cap;clear ew gA;generalize aP:(aM g.F9 s.pool).getD eY=xP at *;have pC:=ae wP (Sx (ZM xP am ao au aw) 46);have Qp:=aa (b9 wP (Sx (ZM xP am ao au aw) 46));have a5:=hb.trans (pC.mono hb.size);replace ua:=Zl a5 ua;replace fl:=Zl a5 fl;replace Q5:=aa (Q5.o.mv (Mv.of a5));replace fy:=YS fy a5;replace XR:=aa (aN.moves.mv (Mv.of pC) XR.o);clear hb pC a5;go_upto_region 3 with(fail);generalize AI wP _=VP at *;generalize wP.1.size=BP at Qp ⊢;have y0:=I6 Qp.o;have a8:=aa fun q:fo=>(aN.moves.mv (Mv.of (dQ VP q)) XR.o:aN _ (ext VP q) _ _);have e5:(eZ xP==5)=VR:=by rw[hk5];rfl
  clear hk5 aP aO XR Qp;(refine wp_region_quiet_lit ?_;(repeat(go_big_quiet_step ((go_at_call 109;exact iH (pq (a8.o _) XO)))));(with_reducible refine fR ?_);intro b8 ia;have ay:=dY ia;clear ia)
  have TF:=YS fy ay;clear ay y0;go_wp2;go_ret;exact⟨rfl,TF.o⟩
 have e6:(s.kind==6)=VN:=by simpa using h6
 clear h6;go_upto_region 4 with(fail);clear s2 e6;go_wp2;go_loopw[7] (fun i wr=>∃k:Nat,k<=Wq s.Ga/\i=Bm Sj k/\Below W1.1.size W1 wr) (fun i _=>Wq s.Ga-(intOf i).toNat)
 exact⟨0,cg _,rfl,bj _ _⟩;obtain⟨k,hk,rfl,hB⟩:=hrel;have TJ:=aa hB;have aQ:=fl;have G1:=ua;have aS:=Q5;replace fl:=Zl hB fl;replace ua:=Zl hB ua;replace Q5:=aa (Q5.o.mv (Mv.of hB));have fy:=YS HB hB;clear hB aQ G1 aS;have s3:=mi fl.o 3 _ lX;by_cases hlt:k<Wq s.Ga
 ·obtain⟨r,hr⟩:=aj s.Ga k hlt;have ag:=ct hr;obtain⟨b,off,us,rfl,_,cX,_,eE,az⟩:=o0.o.elem hr;obtain rfl:us=_:=eE;have cT:=fy.o.block b cX;have hbl:=cC cX fy.o.size;obtain⟨q0,q1,q2⟩:=Mn cT az;clear az hr cT;have ah:=hbl;have ai:=aa (aI.o r ag);have XO:=Zu.o r.on;go_upto_region 7 with(fail);refine JX (ok:=ok) wr g a Bg Bs b off k (Wq s.Ga) ac r.on ua.o (aq fl.o) s3 hlt hbl q1 Q5.o mb lX rfl (aa ?_) (fun _ _ _ _ _ h=>h);intro tp tc sp sc ba bd X7 _ _ _ _ _ _ _ _ _ _ _ aT a7 aU aA aC;generalize (aM g.F9 r.on).getD eY=x at *;have Vk:=YS TJ a7;have h0:=aq fl.o;replace s3:=aG (cC h0 a7.size) ((Sc a7 h0).trans s3);replace q0:=aG (cC hbl a7.size) ((Sc a7 hbl).trans q0);have Qp:=aa aA;have a8:=aa fun q:fo=>(aN.moves.mv (Mv.of (dQ X7 q)) aC:aN _ (ext X7 q) _ _);clear hbl ah q1 q2 a7 aU aA aC h0 fl ua Q5 TJ fy aT;have y0:=I6 Qp.o;clear Qp
  go_upto_region 8 with(fail)
  cases pS:r.vol with
  |true =>
   rw[pS]at q0;obtain⟨n6,n5⟩:=ai.o pS;clear pS ag ai;(refine wp_region_quiet_lit ?_;(repeat(go_big_quiet_step ((go_at_call 109;exact iH (pq (a8.o _) XO)))));(with_reducible refine fR ?_);intro aV ia;have a9:=dY ia;clear ia)
   have Ix:=YS Vk a9;clear a9 y0 q0 s3 n6 n5;go_wp2;go_roundw;exact⟨k+1,WQ,Zf,Ix.o⟩;exact Ti
  |false =>
   rw[pS]at q0;clear pS ag ai;(refine wp_region_quiet_lit ?_;(repeat(go_big_quiet_step ((fail))));(with_reducible refine fR ?_);intro aV ia;have a9:=dY ia;clear ia)
   have Ix:=YS Vk a9;clear a9 y0 q0 s3;go_wp2;go_roundw;exact⟨k+1,WQ,Zf,Ix.o⟩;exact Ti
 clear hk TJ;have XO:=Zu.o s.log;have aW:=aa PH.o;go_upto_region 10 with(fail);clear s3;have gL:=mi ua.o;have g0:=xr gL;have sL:=mi fl.o;have sn:=sL 6 _ lX;clear gL sL;go_wp2_with fail;clear g0 sn;refine(aj7 g a s.log wr Q5.o.F9 mb).mono ?_;rintro e wL ⟨uL,kl,rfl,hv,aX,hb⟩;have XR:=aa hv;obtain⟨tv,sv,rfl,ew,gA⟩:=hv;obtain⟨aD,aE,rfl,_,_⟩:=ew.cap;obtain⟨aF,aH,rfl,_,_⟩:=gA.cap;clear ew gA;generalize aY:(aM g.F9 s.log).getD eY=xL at *;have pC:=ae wL (Sx (ZM xL aD aE aF aH) 46);have Qp:=aa (b9 wL (Sx (ZM xL aD aE aF aH) 46));have a5:=hb.trans (pC.mono hb.size);replace ua:=Zl a5 ua;replace fl:=Zl a5 fl;replace Q5:=aa (Q5.o.mv (Mv.of a5));replace fy:=YS fy a5;replace XR:=aa (aN.moves.mv (Mv.of pC) XR.o);clear hb pC a5;go_upto_region 11 with(fail);generalize AI wL _=VL at *;generalize wL.1.size=BL at Qp ⊢;have y0:=I6 Qp.o;have s6:=aG (aq fl.o) (mi fl.o 6 _ lX);have a8:=aa fun q:fo=>(aN.moves.mv (Mv.of (dQ VL q)) XR.o:aN _ (ext VL q) _ _);clear aY aX XR Qp fl ua Q5;cases Fi:s.log.toList.isEmpty with
 |true =>
  (refine wp_region_quiet_lit ?_;(repeat(go_big_quiet_step ((fail))));(with_reducible refine fR ?_);intro aZ ia;have ab:=dY ia;clear ia)
  have TF:=YS fy ab;clear ab y0 s6;go_wp2;go_ret;exact⟨rfl,TF.o⟩
 |false =>
  obtain⟨n6,n5⟩:=aW.o Fi;have m6:(eZ xL != 6)=VR:=by rw[bne,n6];rfl
  have m5:(eZ xL != 5)=VR:=by rw[bne,n5];rfl
  (refine wp_region_quiet_lit ?_;(repeat(go_big_quiet_step ((go_at_call 109;exact iH (pq (a8.o _) XO)))));(with_reducible refine fR ?_);intro aZ ia;have ab:=dY ia;clear ia)
  have TF:=YS fy ab;clear ab y0 s6;go_wp2;go_ret;exact⟨rfl,TF.o⟩
def GQ{vn on:H6}{vd:wy UInt8}(h:dM vn vd on=VR):(⟨(iK vn.data.toList vd).1.toArray⟩:H6)=on/\(iK vn.data.toList vd).2=0:=by
 unfold dM pV at h;rw[eh,beq_iff_eq,beq_iff_eq]at h;have e:=h.2;rw[A6,A6]at e;exact⟨ByteArray.ext (Array.toList_inj.1 e.symm),h.1⟩
def IL(nm on:H6)(k:Nat)(W:H7)(hs:nm.size<=1000000000)(hk:k<=1000000)(h:dM nm (jb k) on=VR):Calls prog 152 #[By nm,Bm Sj (k:Int)] W fun e w'=>e=S6 (Vj #[on,Bm Sj 0])/\Below W.1.size W w':=by
 have:=Kw nm.data.toList k W Td8 WQ;rw[<- bytes_eta,(GQ h).1,(GQ h).2]at this;exact this
def Hf(nm on:H6)(k:Int)(W:H7)(hs:nm.size<=1000000000)(hk:-1000000<=k/\k<=1000000)(h:dM nm (dH k) on=VR):Calls prog 153 #[By nm,Bm Sj k] W fun e w'=>e=S6 (Vj #[on,Bm Sj 0])/\Below W.1.size W w':=by
 have:=I4 nm.data.toList k W Td8 hk;rw[<- bytes_eta,(GQ h).1,(GQ h).2]at this;exact this
def Jf(kind:Int)(k:Nat):wy UInt8:=if kind=3\/kind=4 then jb k else if kind=5 then dH (3-(k:Int)) else if k=0 then jb 0 else dH (1+(k:Int))
def Kn(h:jS v s=VR)(h5:s.kind=5->Wq s.Ga<=2)(h7:s.kind=7->Wq s.Ga<=3)(hr:s.Ga[k]?=Vv r)(hk:s.kind=3\/s.kind=4\/s.kind=5\/s.kind=7):dM v.name (Jf s.kind k) r.on=VR:=by
 have hl:=(AT.1 hr).1;have ho:=uD hr;unfold jS at h;unfold Jf;by_cases c:s.kind=3\/s.kind=4
 ·rw[aw c,eh]at h;rw[aw c];have:=An.1 h.1 k (DP.2 hl);rwa[ho]at this
 rw[bh c]at h ⊢;by_cases c5:s.kind=5
 ·rw[aw c5,eh]at h;rw[aw c5];have:=h5 c5;rcases(show k=0\/k=1 by omega)with rfl|rfl
  ·rw[ho]at h;exact h.1
  rw[ho]at h;exact h.2
 rw[bh c5,aw (show s.kind=7 by omega),eh,eh]at h;rw[bh c5];have:=h7 WQ;rcases(show k=0\/k=1\/k=2 by omega)with rfl|rfl|rfl
 ·rw[ho]at h;exact h.1.1
 ·rw[ho]at h;exact h.1.2
 rw[ho]at h;exact h.2
def Kt(h:jS v s=VR)(h3:¬s.kind=3->s.log.toList.isEmpty=VR)(hl:s.log.toList.isEmpty=VN):dM v.name (dH 1) s.log=VR:=by
 have hk:s.kind=3:=Decidable.byContradiction fun q=>by
  rw[h3 q]at hl;cases hl
 unfold jS at h;rw[aw (.inl hk),eh,hl,nj]at h;exact h.2
def Tc7(h:gt:=by
 go_wp2;go_roundw;exact⟨k+1,WQ,Zf,eK.o⟩;exact Ti):=h
def TcP(h:gt:=by
 rintro e w5 ⟨rfl,hb5⟩;have h0:=aq fl.o;replace s3:=(Sc hb5 h0).trans s3;replace q1:=(Sc hb5 hbl).trans q1;have eK:=YS TJ hb5;clear hb5 h0 x0 s2 fl Qe TJ fy hbl;exact Tc7):=h
def Tbk(h:gt:=by
 exact TcP):=h
def Tbc(h:gt:=by
 go_wp2_with fail;refine(IL v.name r.on k wr Yy.o WQ XP.o).mono ?_;exact TcP):=h
def Ki{ok:LN}(v:ay)(s:aB){u1 u2:RH}(w:H7)(sA:aN ok w u1 v)(hv:bC ok w u2 s)(hal:Wq s.Ga<=1000000)(hn:v.name.size<=1000000000)(h5:s.kind=5->Wq s.Ga<=2)(h7:s.kind=7->Wq s.Ga<=3)(h3:¬s.kind=3->s.log.toList.isEmpty=VR)(he:jS v s=VR):Calls prog 105 #[Tk u1.toArray,Tk u2.toArray] w fun e w'=>e=S6 (Ft VR)/\Below w.1.size w w':=by
 have a7:=aa fun(k:Nat) (r:aR) (hr:s.Ga[k]?=Vv r) hk=>Kn he h5 h7 hr hk;have a8:=aa fun h=>Kt he h3 h;have Yy:=aa hn;have a9:=aa h5;clear he h5 h7 h3 hn;obtain⟨tv,sv,rfl,ew,gA⟩:=sA;obtain⟨tp,tc,rfl,_,_⟩:=ew.cap;obtain⟨sp,sc,rfl,_,_⟩:=gA.cap;obtain⟨av,Rn,rfl,o0,TG⟩:=hv;obtain⟨ap,ac,rfl,_,_⟩:=o0.cap;obtain⟨eN,eR,rfl,_,_⟩:=TG.cap;replace o0:=aa o0;clear TG ew gA;have hA1:=ae w (Sx (ZM v tp tc sp sc) 46);have hA2:=ae (w.alloc (Sx (ZM v tp tc sp sc) 46)) (Sx (ZN s ap ac eN eR) 55);have US:=b9 w (Sx (ZM v tp tc sp sc) 46);have fl:=aa (b9 (w.alloc (Sx (ZM v tp tc sp sc) 46)) (Sx (ZN s ap ac eN eR) 55));have Qe:=aa ((hA2.block _ (aq US)).trans US);have HB:=aa (hA1.trans (hA2.mono hA1.size));clear hA1 hA2 US;rw[cW]at fl;go_enter func105,ntmps105
 go_upto_region 1 with(fail);generalize AI (AI w _) _=W1 at *;generalize ab:w.1.size+1=Bs at fl ⊢;generalize af:w.1.size=Bv at Qe ⊢;clear ab af;go_wp2;go_loopw[5] (fun i wr=>∃k:Nat,k<=Wq s.Ga/\i=Bm Sj k/\Below W1.1.size W1 wr) (fun i _=>Wq s.Ga-(intOf i).toNat)
 exact⟨0,cg _,rfl,bj _ _⟩;obtain⟨k,hk,rfl,hB⟩:=hrel;have TJ:=aa hB;replace fl:=Zl hB fl;replace Qe:=Zl hB Qe;have fy:=YS HB hB;clear hB;have s3:=mi fl.o 3 _ lX;have x0:=mi Qe.o 0 _ lX;by_cases hlt:k<Wq s.Ga
 ·obtain⟨r,hr⟩:=aj s.Ga k hlt;have XP:=aa (a7.o k r hr);obtain⟨b,off,us,rfl,_,cX,_,eE,a5⟩:=o0.o.elem hr;obtain rfl:us=_:=eE;have cT:=fy.o.block b cX;have hbl:=cC cX fy.o.size;obtain⟨q0,q1,q2⟩:=Mn cT a5;have s2:=mi fl.o 2 _ lX;clear a5 hr cT q0 q2;by_cases h3:s.kind=3
  ·replace XP:=aa (XP.o (.inl h3));rw[h3]at s2 XP;clear h3;rw[show Jf 3 k=jb k from lX]at XP;exact Tbc
  by_cases h4:s.kind=4
  ·replace XP:=aa (XP.o (.inr (.inl h4)));rw[h4]at s2 XP;clear h4 h3;rw[show Jf 4 k=jb k from lX]at XP;exact Tbc
  by_cases h5:s.kind=5
  ·replace XP:=aa (XP.o (.inr (.inr (.inl h5))));have ag:=a9.o h5;rw[h5]at s2 XP;clear h5 h4 h3;rw[show Jf 5 k=dH (3-(k:Int)) from lX]at XP;have hw:IntKind.i64.wrap (3-(k:Int))=3-(k:Int):=dy _ WQ;go_wp2_with fail;refine(Hf v.name r.on (3-(k:Int)) wr Yy.o WQ XP.o).mono ?_;exact Tbk
  by_cases h7:s.kind=7
  ·replace XP:=aa (XP.o (.inr (.inr (.inr h7))));rw[h7]at s2 XP;clear h7 h5 h4 h3;by_cases hk0:k<1
   ·rw[show Jf 7 k=jb k by unfold Jf;rw[bh YR,bh YR,aw WQ,show(k:Int)=0 by omega]]at XP;have ek:((k:Int)==0)=VR:=beq_iff_eq.2 WQ;clear hk0;exact Tbc
   rw[show Jf 7 k=dH (1+(k:Int)) by unfold Jf;rw[bh YR,bh YR,bh WQ]]at XP;have ek:((k:Int)==0)=VN:=beq_eq_false_iff_ne.2 WQ;have hw:IntKind.i64.wrap (1+(k:Int))=1+(k:Int):=dy _ WQ;go_wp2_with fail;refine(Hf v.name r.on (1+(k:Int)) wr Yy.o WQ XP.o).mono ?_;exact Tbk
  have e3:(s.kind==3)=VN:=beq_eq_false_iff_ne.2 h3;have e4:(s.kind==4)=VN:=beq_eq_false_iff_ne.2 h4;have e5:(s.kind==5)=VN:=beq_eq_false_iff_ne.2 h5;have e7:(s.kind==7)=VN:=beq_eq_false_iff_ne.2 h7;have YF:Hid (∀n,Below W1.1.size W1 (wr.drewN n)):=aa fun n=>aT TJ.o n;clear h3 h4 h5 h7 TJ fy fl Qe XP hbl;go_wp2;go_roundw
  exact⟨k+1,WQ,Zf,by first|exact YF.o 0|exact YF.o _⟩;exact Ti
 clear hk TJ;have s6:=mi fl.o 6 _ lX;cases Fi:s.log.toList.isEmpty with
 |true =>
  have HP:=aa (I4 v.name.data.toList 1 wr (by simpa using Yy.o) WQ);rw[<- bytes_eta]at HP;go_wp2_with fail;refine HP.o.mono ?_;rintro e w5 ⟨rfl,hb5⟩;have h0:=aq fl.o;replace s6:=(Sc hb5 h0).trans s6;have TF:=YS fy hb5;clear hb5 h0 HP x0 s3 fl Qe fy;go_wp2;go_ret;exact⟨rfl,TF.o⟩
 |false =>
  have HP:=aa (Hf v.name s.log 1 wr Yy.o WQ (a8.o Fi));go_wp2_with fail;refine HP.o.mono ?_;rintro e w5 ⟨rfl,hb5⟩;have h0:=aq fl.o;replace s6:=(Sc hb5 h0).trans s6;have TF:=YS fy hb5;clear hb5 h0 HP x0 s3 fl Qe fy;go_wp2;go_ret;exact⟨rfl,TF.o⟩
end Go.Proofs.YtfmbphdjcghfnaaGreatDoor
