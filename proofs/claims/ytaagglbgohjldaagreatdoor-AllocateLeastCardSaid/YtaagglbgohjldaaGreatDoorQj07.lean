/- Lemmas: RnB, RgA, RgB, MoB, RgC, RgP, SegF, RgR, RgD, Qui, RgE, RxA, RgG, RgF. -/
import Derived.Test.YtaagglbgohjldaaGreatDoorQj06
set_option maxRecDepth 100000
set_option maxHeartbeats 32000000
set_option linter.all false
open List renaming range→FF,all_eq_true→An,mem_range→EV,isSuffixOf_iff_suffix→No,getElem?_eq_some_iff→AT,any_eq_true→Ft,mem_map→As,mem_filter→DP,any_eq_false→GW,mem_flatMap→BY,mem_singleton→AM,pairwise_iff_getElem→It
open Int renaming tmod_eq_emod_of_nonneg→NX
open Option renaming isSome_iff_exists→Kx
open Go.Lib renaming hasSuffix→DH
open Go.Value renaming string→Cd,bool→FG,int→Bm
open Go.World renaming alloc→AI,cell?→AN
namespace Go.Proofs.YtaagglbgohjldaaGreatDoor
open Go.Proofs.Tryz
open Go.RowKit Go.Shelf
variable {p l x:List UInt8}
def KE:(FF 256).all (fun n=>(kT vF (UInt8.ofNat n)==DV [95,46,43,45] (UInt8.ofNat n))&&(kT zB (UInt8.ofNat n)==DV [95,46,43,45,47,61,58] (UInt8.ofNat n)))=true:=by kernel_rfl
def Jm(c:UInt8):kT vF c=DV [95,46,43,45] c/\kT zB c=DV [95,46,43,45,47,61,58] c:=by
 have h:=An.1 KE c.toNat (EV.2 (UInt8.toNat_lt c));rw[UInt8.ofNat_toNat,eh,beq_iff_eq,beq_iff_eq]at h;exact h
def JK(a b:UInt8):(a==b)=(a.toNat==b.toNat):=by
 rw[mN,beq_iff_eq,beq_iff_eq,UInt8.toNat_inj]
def J9(s:ByteArray):Ht s ⟨#[95,46,43,45]⟩ ⟨#[45,46]⟩ 40=qA s:=by
 unfold Ht qA wS;have h1:s.data.toList.all (DV (⟨#[95,46,43,45]⟩:ByteArray).data.toList)=s.data.toList.all (kT vF):=by
  congr 1
  funext c
  exact(Jm c).1.symm
 have h2:inL (s.data.toList.headD 0) (⟨#[45,46]⟩:ByteArray).data.toList=((lI s).toNat==45||(lI s).toNat==46):=by
  show(((45:UInt8)==lI s)||(((46:UInt8)==lI s)||false))=_;rw[JK,JK,Bool.or_false];congr 1<;>(rw[mN,beq_iff_eq,beq_iff_eq];exact⟨fun h=>h.symm,fun h=>h.symm⟩)
 rw[h1,h2];have h3:decide (1<=s.size)=decide (0<s.size):=rfl;have h4:decide ((s.size:Int)<=40)=decide (s.size<=40):=decide_eq_decide.2 Tc1;rw[h3,h4];cases (lI s).toNat==45<;>cases (lI s).toNat==46<;>cases s.data.toList.all (kT vF)<;>simp
def KM(s:ByteArray):Ht s ⟨#[95,46,43,45,47,61,58]⟩ ⟨#[45]⟩ 24=mr s:=by
 unfold Ht mr wS;have h1:s.data.toList.all (DV (⟨#[95,46,43,45,47,61,58]⟩:ByteArray).data.toList)=s.data.toList.all (kT zB):=by
  congr 1
  funext c
  exact(Jm c).2.symm
 have h2:inL (s.data.toList.headD 0) (⟨#[45]⟩:ByteArray).data.toList=((lI s).toNat==45):=by
  show(((45:UInt8)==lI s)||false)=_;rw[JK,Bool.or_false];rw[mN,beq_iff_eq,beq_iff_eq];exact⟨fun h=>h.symm,fun h=>h.symm⟩
 rw[h1,h2];have h3:decide (1<=s.size)=decide (0<s.size):=rfl;have h4:decide ((s.size:Int)<=24)=decide (s.size<=24):=decide_eq_decide.2 Tc1;rw[h3,h4];cases (lI s).toNat==45<;>cases s.data.toList.all (kT zB)<;>simp
def Tcl{p:Prop}(h:p:=by
 go_wp2_with fail;refine HC.o.mono ?_;rintro e w' ⟨rfl,rfl⟩;go_wp2;go_ret;exact⟨rfl,rfl⟩):p:=h
def J6(s:ByteArray)(w:World)(hs:s.size<=9223372036854775807) :
  Calls prog 169 #[.string s] w fun e w'=>e=.returned (.bool (qA s))/\w=w':=by
 have HC:=aa (G9 s ⟨#[95,46,43,45]⟩ ⟨#[45,46]⟩ 40 w hs Tc4 Tc4);rw[J9]at HC;go_enter func169,ntmps169
 exact Tcl
def Jz(s:ByteArray)(w:World)(hs:s.size<=9223372036854775807) :
  Calls prog 38 #[.string s] w fun e w'=>e=.returned (.bool (mr s))/\w=w':=by
 have HC:=aa (G9 s ⟨#[95,46,43,45,47,61,58]⟩ ⟨#[45]⟩ 24 w hs Tc4 Tc4);rw[KM]at HC;go_enter func38,ntmps38
 exact Tcl
def JL:List (List UInt8):=[[95,108,101,103,48],[95,108,101,103,49],[95,108,101,103,50],[95,108,101,103,51],[95,108,101,103,52],[95,108,101,103,53],[95,108,101,103,54],[95,108,101,103,55]]
def IM:List (List UInt8):=nV++JL
def KW(l:List UInt8):Option (List UInt8):=(IM.find? fun p=>DH l p).map fun p=>l.take (l.length-p.length)
def Jy(h:p∈JL):∃d:UInt8,p=xg++[d]/\48<=d.toNat/\d.toNat<=55:=by
 simp only[JL,dr,cY,dg]at h;rcases h with rfl|rfl|rfl|rfl|rfl|rfl|rfl|rfl<;>exact⟨_,rfl,Tc4,Tc4⟩
def KR{d:UInt8}(h1:48<=d.toNat)(h2:d.toNat<=55):xg++[d]∈JL:=by
 have h:(FF 256).all (fun n=>!(decide (48<=n)&&decide (n<=55))||JL.contains (xg++[UInt8.ofNat n]))=true:=by kernel_rfl
 have:=An.1 h d.toNat (EV.2 (UInt8.toNat_lt d));rw[UInt8.ofNat_toNat,eA h1,eA h2]at this;simpa using this
def Jh(a b:List UInt8)(d x:UInt8):DH (b++[x]) (a++[d])=true↔d=x/\DH b a=true:=by
 show(a++[d]).isSuffixOf (b++[x])=true↔d=x/\a.isSuffixOf b=true;rw[No,No];constructor
 ·rintro⟨t,ht⟩;rw[<- cV]at ht;obtain⟨h1,h2⟩:=List.append_inj' ht rfl;exact⟨by simpa using h2,t,h1⟩
 rintro⟨rfl,t,rfl⟩;exact⟨t,Tc2⟩
def KY(a:List UInt8)(d:UInt8):DH [] (a++[d])=false:=by
 cases h:DH [] (a++[d])with
 |false=>rfl
 |true =>
  obtain⟨t,ht⟩:=No.1 h;simp at ht
def J4(l:List UInt8):KW l=jr l:=by
 unfold KW jr IM;rw[tD];cases hs:nV.find? fun p=>DH l p with
 |some p=>rfl
 |none =>
  rw[Option.none_or];rcases List.eq_nil_or_concat l with rfl|⟨b,x,rfl⟩
  ·rw[bh Tc2,List.find?_eq_none.2 fun p hp=>?_]
   ·rfl
   obtain⟨d,rfl,-⟩:=Jy hp;rw[KY];decide
  rw[List.concat_eq_append];have e1:(b++[x]).getLastD 0=x:=by simp
  have e2:(b++[x]).dropLast=b:=by simp
  rw[e1,e2];cases hl:JL.find? fun p=>DH (b++[x]) p with
  |none =>
   rw[bh]
   ·rfl
   rintro⟨-,h1,h2,h3⟩;exact absurd ((Jh xg b x x).2 ⟨rfl,h3⟩) (List.find?_eq_none.1 hl _ (KR h1 h2))
  |some p =>
   obtain⟨d,rfl,h1,h2⟩:=Jy (eV hl);obtain⟨rfl,h3⟩:=(Jh xg b d x).1 (by simpa using List.find?_some hl);rw[aw ⟨Tc2,h1,h2,h3⟩];have h4:4<=b.length:=(No.1 h3).length_le;show some ((b++[d]).take _)=_;rw[List.take_append_of_le_length (by simp[xg])];congr 2
   simp[xg]
def KL(h:p∈IM):p.length<=6:=by
 simp only[IM,JL,nV,List.cons_append,List.nil_append,dr,cY,dg]at h;rcases h with rfl|rfl|rfl|rfl|rfl|rfl|rfl|rfl|rfl|rfl|rfl|rfl<;>decide
def K3(s:ByteArray)(w:World)(e:Ending)(w':World):Prop:=∃r:List UInt8,e=.returned (.tuple #[.string ⟨r.toArray⟩,.bool (jr s.data.toList).isSome])/\(∀x,jr s.data.toList=some x->r=x)/\Below w.1.size w w'
def Taz :Tab #[.string ⟨#[95,108,111,103]⟩,.string ⟨#[95,100,97,116,97]⟩,.string ⟨#[95,109,101,116,97]⟩,.string ⟨#[95,115,112,97,114,101]⟩,.string ⟨#[95,108,101,103,48]⟩,.string ⟨#[95,108,101,103,49]⟩,.string ⟨#[95,108,101,103,50]⟩,.string ⟨#[95,108,101,103,51]⟩,.string ⟨#[95,108,101,103,52]⟩,.string ⟨#[95,108,101,103,53]⟩,.string ⟨#[95,108,101,103,54]⟩,.string ⟨#[95,108,101,103,55]⟩]:=⟨⟩
def Iw(s:ByteArray)(w:World)(hs:s.size<=9223372036854775807) :
  Calls prog 168 #[.string s] w (K3 s w):=by
 have hA:=ae w (.cells (IM.map fun p=>Cd ⟨p.toArray⟩).toArray 9);have hN:=b9 w (.cells (IM.map fun p=>Cd ⟨p.toArray⟩).toArray 9);have HNB:=aa (show(w.alloc (.cells Taz 9)).1[w.1.size]?=some (.cells (IM.map fun p=>Cd ⟨p.toArray⟩).toArray 9 (0,0)) from hN);have HB:=aa (show Below w.1.size w (w.alloc (.cells Taz 9)) from hA);clear hA hN;go_enter func168,ntmps168;go_wp2;generalize R0:AI w _=W1 at *;generalize a9:w.1.size=Bs at *;clear R0
 go_loopw[5,6] (fun i _ wr=>∃k:Nat,k<=12/\i=.int .i64 k/\(∀j p,j<k->IM[j]?=some p->DH s.data.toList p=false)/\Below W1.1.size W1 wr) (fun i _ _=>12-(intOf i).toNat)
 exact⟨0,cg _,rfl,fun j p hj=>by omega,bj _ _⟩;obtain⟨k,hk,rfl,hno,hb⟩:=hrel;replace hno:=aa hno;have fy:=aa (HB.o.trans (hb.mono (by have:=HB.o.size;omega)));have Fc:=aa hb;have af:=Zbk hb HNB;clear hb;by_cases hlt:k<12
 ·obtain⟨p,hp⟩:=aj IM k hlt;have hc:wr.cell? (Bs,k)=some (.string ⟨p.toArray⟩):=by
   simp only[AN,af.o];simp[hp]
  have ag:=KL (ct hp);replace hp:=aa hp;have CH:(⟨p.toArray⟩:ByteArray).size=p.length:=rfl;have a8:=aa (Lib.hasSuffix_raw s ⟨p.toArray⟩);have ab:Hid ((⟨p.toArray⟩:ByteArray).data.toList=p):=aa rfl;generalize Un:(⟨p.toArray⟩:ByteArray)=pb at *;clear Un;have hw:IntKind.i64.wrap ((s.size:Int)-(p.length:Int))=(s.size:Int)-(p.length:Int):=dy _ Tc1;have a5:Hid (DH s.data.toList p=false->∀j q,j<k+1->IM[j]?=some q->DH s.data.toList q=false):=aa fun h j q hj hq=>by
   by_cases hjk:j=k
   ·subst hjk;rw[hp.o]at hq;cases hq
    exact h
   exact hno.o j q Tc1 hq
  have a7:Hid (DH s.data.toList p=true->jr s.data.toList=some (s.data.toList.take (s.data.toList.length-p.length))):=aa fun h=>by
   have hf:(IM.find? fun p=>DH s.data.toList p)=some p:=by
    rw[List.find?_eq_some_iff_getElem];obtain⟨hk4,ZU⟩:=AT.1 hp.o;refine⟨h,k,hk4,ZU,fun j hj=>?_⟩;rw[hno.o j _ hj (lO Tc1)];rfl
   rw[<- J4,KW,hf];rfl
  rw[ab.o]at a8;clear ab;by_cases hle:p.length<=s.size
  ·have hg:decide ((s.size:Int)-(p.length:Int) ≥ 0)=true:=eA Tc1;have ah:((s.size:Int)-(p.length:Int)).toNat=s.size-p.length:=by omega
   have Yh:((s.extract (s.size-p.length) s.size).toList==pb.toList)=DH s.data.toList p:=by
    rw[<- a8.o,CH,eA hle,Bool.true_and]
   cases hsf:DH s.data.toList p with
   |true =>
    rw[hsf]at Yh;have HT:=aa (a7.o hsf);have Ss:=aa (Lib.extract_eq s 0 (s.size-p.length));clear hsf a7 a5;go_upto_region 6 with(fail);go_quiet (fail);clear Yh hg hc;have C1:Hid (∀n,Below Bs w (wr.drewN n)):=aa fun n=>aT fy.o n;go_wp2;go_ret2;refine⟨s.data.toList.take (s.data.toList.length-p.length),?_,fun x hx=>?_,?_⟩
    ·rw[HT.o,Ss.o];simp
    ·rw[HT.o]at hx;exact gj hx
    rw[a9];exact C1.o _
   |false =>
    rw[hsf]at Yh;have HT:=aa (a5.o hsf);clear hsf a7 a5;go_upto_region 6 with(fail);go_quiet (fail);clear Yh hg hc;have C1:Hid (∀n,Below W1.1.size W1 (wr.drewN n)):=aa fun n=>aT Fc.o n;go_wp2;go_roundw
    exact⟨k+1,Tc1,Tc5,HT.o,C1.o _⟩;simp[intOf];omega
  have hg:decide ((s.size:Int)-(p.length:Int) ≥ 0)=false:=cN Tc1;have HT:=aa (a5.o (by rw[<- a8.o,CH,cN hle,Bool.false_and]));clear a7 a5;go_upto_region 6 with(fail);go_quiet (fail);clear hg hc;have C1:Hid (∀n,Below W1.1.size W1 (wr.drewN n)):=aa fun n=>aT Fc.o n;go_wp2;go_roundw
  exact⟨k+1,Tc1,Tc5,HT.o,C1.o _⟩;simp[intOf];omega
 obtain rfl:k=12:=by omega
 have HT:Hid (jr s.data.toList=none):=aa (by
  rw[<- J4,KW,List.find?_eq_none.2 fun p hp=>?_]
  ·rfl
  obtain⟨j,hj⟩:=fc hp;rw[hno.o j p (AT.1 hj).1 hj];decide)
 go_wp2;go_ret2;exact(show K3 s w _ _ from⟨[],by rw[HT.o];rfl,(fun x hx=>by rw[HT.o]at hx;cases hx),by rw[a9];exact fy.o⟩)
def yh(s:ByteArray)(w:World)(hs:s.size<=9223372036854775807) :
  Calls prog 121 #[.string s] w fun e w'=>e=.returned (.bool (jo s))/\Below w.1.size w w':=by
 go_enter func121,ntmps121
 go_wp2_with fail;refine(Iw s _ hs).mono ?_;rintro e w1 ⟨r,rfl,_,a5⟩;have cU:=aa a5;clear a5;go_wp2_with fail;refine(J6 s _ hs).mono ?_;rintro e w2 ⟨rfl,rfl⟩;exact Tbc
def Jb(h:jr l=none):zH ⟨l.toArray⟩=false:=by
 unfold zH;rw[show(⟨l.toArray⟩:ByteArray).data.toList=l from rfl,yc h];rfl
def J7(h:jr l=some x):jo ⟨l.toArray⟩=false:=by
 unfold jo;rw[show(⟨l.toArray⟩:ByteArray).data.toList=l from rfl,h];simp
def Ke(h:jr l=some x):zH ⟨l.toArray⟩=(decide (l.length<=40)&&(jo ⟨x.toArray⟩||zH ⟨x.toArray⟩)):=by
 have hlt:=pU h;have e1:zH ⟨l.toArray⟩=(decide (l.length<=40)&&jo ⟨(gu x).1.toArray⟩):=by
  unfold zH;rw[show(⟨l.toArray⟩:ByteArray).data.toList=l from rfl,zI h,eA Tc2,Bool.true_and];rfl
 rw[e1];by_cases h40:l.length<=40
 ·rw[eA h40,Bool.true_and,Bool.true_and]
  cases hx:jr x with
  |none =>
   rw[Jb hx,Bool.or_false,yc hx]
  |some y =>
   rw[J7 hx,nj];unfold zH;rw[show(⟨x.toArray⟩:ByteArray).data.toList=x from rfl,eA (show(⟨x.toArray⟩:ByteArray).size<=40 from(by show x.length<=40;omega)),Bool.and_true,zI hx,eA (show 0<(gu y).2+1 by omega),Bool.true_and]
 rw[cN h40,Bool.false_and,Bool.false_and]
def Hm(f:Nat):∀(l:List UInt8) (w:World),l.length<=f->l.length<=9223372036854775807 ->
  Calls prog 123 #[.string ⟨l.toArray⟩] w fun e w'=>e=.returned (.bool (zH ⟨l.toArray⟩))/\Below w.1.size w w':=by
 induction f with
 |zero =>
  intro l w hf hs;obtain rfl:=fX (Nat.le_zero.1 hf);go_enter func123,ntmps123
  go_wp2_with fail;refine(Iw ⟨([]:List UInt8).toArray⟩ _ Tc4).mono ?_;rintro e w1 ⟨r,rfl,_,a5⟩;have cU:=aa a5;clear a5;have hc:(jr (⟨([]:List UInt8).toArray⟩:ByteArray).data.toList).isSome=false:=by decide
  rw[hc];clear hc;go_wp2;go_ret;exact⟨rfl,cU.o⟩
 |succ f ih =>
  intro l w hf hs;replace ih:=aa ih;go_enter func123,ntmps123
  go_wp2_with fail;refine(Iw ⟨l.toArray⟩ _ hs).mono ?_;rintro e w1 ⟨r,rfl,hr,a5⟩;have cU:=aa a5;clear a5;generalize a7:(jr (⟨l.toArray⟩:ByteArray).data.toList).isSome=cb at *;cases hc:jr l with
  |none =>
   obtain rfl:false=cb:=by rw[<- a7];show false=(jr l).isSome;rw[hc];rfl
   have HF:=aa (Jb hc);clear hc a7 hr;go_wp2;go_ret;exact⟨ah HF.o.symm,cU.o⟩
  |some x =>
   obtain rfl:true=cb:=by rw[<- a7];show true=(jr l).isSome;rw[hc];rfl
   obtain rfl:=hr x hc;have HF:=aa (Ke hc);have hlt:=pU hc;clear hc a7 hr;have mu:(⟨l.toArray⟩:ByteArray).size=l.length:=rfl;have Qc:Hid (∀b:Bool,b=zH ⟨l.toArray⟩->FG b=FG (zH ⟨l.toArray⟩)):=aa fun b h=>by rw[h]
   by_cases h40:l.length<=40
   ·rw[eA h40,Bool.true_and]at HF;have hd:decide ((l.length:Int)<=40)=true:=eA Tc1;go_wp2_with fail;refine(yh ⟨r.toArray⟩ _ (by show r.length<=_;omega)).mono ?_;rintro e w2 ⟨rfl,hb2⟩;have cm:=Zbl cU hb2;clear hb2;cases hv:jo ⟨r.toArray⟩with
    |true =>
     rw[hv]at HF;clear hv;go_wp2;go_ret;exact⟨ah HF.o.symm,cm.o⟩
    |false =>
     rw[hv]at HF;clear hv;go_wp2_with fail;refine(ih.o r _ Tc1 Tc1).mono ?_;rintro e w3 ⟨rfl,hb3⟩;have cJ:=Zbl cm hb3;clear hb3;rw[nj]at HF;rw[<- HF.o];go_wp2;go_ret;exact⟨rfl,cJ.o⟩
   rw[cN h40]at HF;have hd:decide ((l.length:Int)<=40)=false:=cN Tc1;go_wp2;go_ret;exact⟨ah HF.o.symm,cU.o⟩
def IU(l vd:List UInt8)(ok:Bool):List UInt8 × Int :=
 if jo ⟨l.toArray⟩=false/\zH ⟨l.toArray⟩=false then([],10) else if ok=false then([],1) else if 40<l.length+vd.length then([],4) else(l++vd,0)
def TeS{p:Prop}(h:p:=by rw[HX.o];exact fj (fun s=>Ending.returned (.tuple #[.string s,.int .i64 0])) YH.o):p:=h
def G7(l vd:List UInt8)(ok:Bool)(w:World)(hs:l.length<=1000000000)(hsf:vd.length<=100) :
  Calls prog 170 #[.string ⟨l.toArray⟩,.string ⟨vd.toArray⟩,.bool ok] w fun e w'=>e=.returned (.tuple #[.string ⟨(IU l vd ok).1.toArray⟩,.int .i64 (IU l vd ok).2])/\Below w.1.size w w':=by
 have HA:Hid (IU l vd ok=_):=aa (IU.eq_1 l vd ok);have On:(⟨l.toArray⟩:ByteArray).size=l.length:=rfl;have RC:(⟨vd.toArray⟩:ByteArray).size=vd.length:=rfl;have YH:=aa (sQ l vd);have CI:Hid (∀(K:Prop),¬(jo ⟨l.toArray⟩=false/\zH ⟨l.toArray⟩=false)->(IU l vd ok=if ok=false then([],1) else if 40<l.length+vd.length then([],4) else(l++vd,0))):=aa fun _ h=>by rw[HA.o,bh h]
 go_enter func170,ntmps170
 go_wp2_with fail;refine(yh ⟨l.toArray⟩ _ (by show l.length<=_;omega)).mono ?_;rintro e w1 ⟨rfl,a5⟩;replace a5:=aa a5;cases hv:jo ⟨l.toArray⟩with
 |false =>
  go_wp2_with fail;refine(Hm l.length l _ (bk _) Tc1).mono ?_;rintro e w2 ⟨rfl,hb2⟩;have cm:=Zbl a5 hb2;clear hb2;cases hh:zH ⟨l.toArray⟩with
  |false =>
   have HX:Hid (IU l vd ok=([],10)):=aa (by rw[HA.o,aw ⟨hv,hh⟩]);clear hv hh;go_wp2;go_ret2;exact⟨Tdv,cm.o⟩
  |true =>
   have HX:=aa (CI.o True (fun q=>by rw[hh]at q;cases q.2));clear hv hh;cases ok with
   |false =>
    go_wp2;go_ret2;exact⟨Tdv,cm.o⟩
   |true =>
    rw[bh Tc4]at HX;by_cases h40:40<l.length+vd.length
    ·rw[aw h40]at HX;have hd:decide (40<(l.length:Int)+(vd.length:Int))=true:=eA Tc1;go_wp2;go_ret2;exact⟨Tdv,cm.o⟩
    rw[bh h40]at HX;have hd:decide (40<(l.length:Int)+(vd.length:Int))=false:=cN Tc1;go_wp2;go_ret2;exact⟨TeS,cm.o⟩
 |true =>
  have HX:=aa (CI.o True (fun q=>by rw[hv]at q;cases q.1));clear hv;cases ok with
  |false =>
   go_wp2;go_ret2;exact⟨Tdv,a5.o⟩
  |true =>
   rw[bh Tc4]at HX;by_cases h40:40<l.length+vd.length
   ·rw[aw h40]at HX;have hd:decide (40<(l.length:Int)+(vd.length:Int))=true:=eA Tc1;go_wp2;go_ret2;exact⟨Tdv,a5.o⟩
   rw[bh h40]at HX;have hd:decide (40<(l.length:Int)+(vd.length:Int))=false:=cN Tc1;go_wp2;go_ret2;exact⟨TeS,a5.o⟩
def I8(l vd:List UInt8)(h:vd≠[]):IU l vd true=iK l vd:=by
 unfold IU iK;rw[bh (show ¬true=false by decide),bh h]
def IX(l vd:List UInt8):IU l vd false=iK l []:=by
 unfold IU iK;rw[aw (show false=false from rfl),aw rfl]
def KZ:∀i:Nat,i<=7->(⟨#[48,49,50,51,52,53,54,55]⟩:ByteArray).extract i (i+1)=⟨#[UInt8.ofNat (48+i)]⟩
 |0,_=>rfl
 |1,_=>rfl
 |2,_=>rfl
 |3,_=>rfl
 |4,_=>rfl
 |5,_=>rfl
 |6,_=>rfl
 |7,_=>rfl
 |n+8,h=>by omega
def TcR{p:Prop}(h:p:=by
 refine HAD.o.mono ?_;rintro e w2 ⟨rfl,hb2⟩;have cm:=aa hb2;clear hb2;go_wp2;go_ret2;exact⟨rfl,cm.o⟩):p:=h
def Tby{p:Prop}(h:p:=by
 clear h h0;go_enter func127,ntmps127
 go_wp2_with fail
 try rw[YH.o]
 exact TcR):p:=h
def Kw(l:List UInt8)(k:Int)(w:World)(hs:l.length<=1000000000)(hk:-1000000<=k/\k<=1000000) :
  Calls prog 127 #[.string ⟨l.toArray⟩,.int .i64 k] w fun e w'=>e=.returned (.tuple #[.string ⟨(iK l (bq k)).1.toArray⟩,.int .i64 (iK l (bq k)).2])/\Below w.1.size w w':=by
 by_cases h:0<=k/\k<=7
 ·obtain⟨i,rfl⟩:∃i:Nat,k=(i:Int):=⟨k.toNat,Tc1⟩
  have hi:i<=7:=by omega
  have HX:=aa (KZ i hi);have U6:bq (i:Int)=xg++[UInt8.ofNat (48+i)]:=by
   unfold bq;rw[aw h];simp
  have HAD:=aa (G7 l (xg++[UInt8.ofNat (48+i)]) true w hs (by simp[xg]));rw[I8 _ _ Tc2,<- U6]at HAD;have YH:Hid ((⟨#[95,108,101,103]⟩:ByteArray)++⟨#[UInt8.ofNat (48+i)]⟩=⟨(bq (i:Int)).toArray⟩):=aa (by rw[U6];exact sQ xg [UInt8.ofNat (48+i)]);clear U6;have a5:((i:Int)+1).toNat=i+1:=by omega
  have hx2:((i:Int)).toNat=i:=by omega
  have hw:IntKind.i64.wrap ((i:Int)+1)=(i:Int)+1:=dy _ Tc1;have d1:decide ((0:Int)<=(i:Int))=true:=eA Tc1;have d2:decide ((i:Int)<=7)=true:=eA Tc1;clear h;go_enter func127,ntmps127
  go_wp2_with fail;rw[HX.o,YH.o];exact TcR
 have U6:bq k=[]:=by
  unfold bq;rw[bh h]
 rw[U6];have HAD:=aa (G7 l (xg++[48]) false w hs (by simp[xg]));rw[IX]at HAD;have YH:Hid ((⟨#[95,108,101,103]⟩:ByteArray)++⟨#[48]⟩=⟨(xg++[48]).toArray⟩):=aa (sQ xg [48]);clear U6;by_cases h0:0<=k
 ·have d1:decide ((0:Int)<=k)=true:=eA h0;have d2:decide (k<=7)=false:=cN Tc1;exact Tby
 have d1:decide ((0:Int)<=k)=false:=cN h0;exact Tby
def Kz(h:p∈nV):p.length<=100/\p≠[]:=by
 simp only[nV,dr,cY,dg]at h;rcases h with rfl|rfl|rfl|rfl<;>exact⟨Tc4,Tc4⟩
def TaT :Tab #[.string ⟨#[95,108,111,103]⟩,.string ⟨#[95,100,97,116,97]⟩,.string ⟨#[95,109,101,116,97]⟩,.string ⟨#[95,115,112,97,114,101]⟩]:=⟨⟩
def TbA{p:Prop}(h:p:=by
 clear h h0 CH;go_enter func128,ntmps128
 go_wp2_with fail;exact TcR):p:=h
def I4(l:List UInt8)(k:Int)(w:World)(hs:l.length<=1000000000)(hk:-1000000<=k/\k<=1000000) :
  Calls prog 128 #[.string ⟨l.toArray⟩,.int .i64 k] w fun e w'=>e=.returned (.tuple #[.string ⟨(iK l (dH k)).1.toArray⟩,.int .i64 (iK l (dH k)).2])/\Below w.1.size w w':=by
 by_cases h:1<=k/\k<=4
 ·obtain⟨i,hi⟩:∃i:Nat,k.toNat-1=i:=⟨_,rfl⟩
  obtain⟨p,hp⟩:=aj nV i (by show i<4;omega);have CH:dH k=p:=by
   unfold dH;rw[aw h,hi];simp[hp]
  rw[CH];have a5:=Kz (ct hp);have hA:=ae w (.cells (nV.map fun p=>Cd ⟨p.toArray⟩).toArray 9);have hN:=b9 w (.cells (nV.map fun p=>Cd ⟨p.toArray⟩).toArray 9);have hc:(w.alloc (.cells TaT 9)).cell? (w.1.size,i)=some (.string ⟨p.toArray⟩):=by
   show(w.alloc (.cells (nV.map fun p=>Cd ⟨p.toArray⟩).toArray 9)).cell? (w.1.size,i)=some (.string ⟨p.toArray⟩);simp only[AN,hN];simp[hp]
  have HB:Hid (Below w.1.size w (w.alloc (.cells TaT 9))):=aa hA;clear hA hN hp CH;have HAD:=aa fun w=>G7 l p true w hs a5.1;rw[I8 _ _ a5.2]at HAD;clear a5;have XQ:k-1=(i:Int):=by omega
  have a7:IntKind.i64.wrap (k-1)=(i:Int):=by rw[XQ];exact dy _ Tc1
  have d1:decide ((1:Int)<=k)=true:=eA Tc1;have d2:decide (k<=4)=true:=eA Tc1;have a8:i<4:=by omega
  clear h hi XQ;go_enter func128,ntmps128
  go_wp2_with fail;refine(HAD.o _).mono ?_;rintro e w2 ⟨rfl,hb2⟩;have cm:=Zbl HB hb2;clear hb2;go_wp2;go_ret2;exact⟨rfl,cm.o⟩
 have CH:dH k=[]:=by
  unfold dH;rw[bh h]
 rw[CH];have HAD:=aa (G7 l [95,108,111,103] false w hs Tc4);rw[IX]at HAD;by_cases h0:1<=k
 ·have d1:decide ((1:Int)<=k)=true:=eA h0;have d2:decide (k<=4)=false:=cN Tc1;exact TbA
 have d1:decide ((1:Int)<=k)=false:=cN h0;exact TbA
open Go.Maps
variable {l:List aB}{s:aB}{g:af}{k:Nat}{v:ay}{x:eX}{r:aR}{nm:ByteArray}{α:Type}{P:Program}{Q:Exit->Act->World->Prop}{c1 c6 c9 TO W0 St Rr RE RK SO Se Sf To Wg aE Wr ZD UP US ab ao fa dj dq eS fs gE ff fi fb gn iS mx qS qe nF o4 oE oR qk oS pe ph pr pt qv rl rm rn sd sh ta zd zp ad am an ar ax b7 b8 ba be bf bn bo bp br bt bu bv bx bA bB bL ca cc ce cf ci cl cn co cu cv cw cy cB:Value}
def mi{W:World}{b:Nat}{l:List Value}{t:TypeId}{q:Nat × Nat}(h:W.1[b]?=some (.cells l.toArray t q))(i:Nat)(z:Value)(hz:l[i]?=some z):W.cell? (b,i)=some z:=by
 exact TcH
def KP:∀a b:List UInt8,(Op.bytesLess a b||a==b)=!(Op.bytesLess b a)
 |[],[]=>rfl
 |[],_ :: _=>rfl
 |_ :: _,[]=>rfl
 |x :: a,y :: b=>by
  have ih:=KP a b;show((decide (x<y)||(x==y&&Op.bytesLess a b))||(x==y&&a==b))=!(decide (y<x)||(y==x&&Op.bytesLess b a));by_cases h:x=y
  ·subst h;have h1:decide (x<x)=false:=cN (by rw[UInt8.lt_iff_toNat_lt];omega);rw[h1,beq_self_eq_true,nj,Bool.true_and,Bool.true_and,nj,Bool.true_and];exact ih
  have h1:(x==y)=false:=beq_eq_false_iff_ne.2 h;have h2:(y==x)=false:=beq_eq_false_iff_ne.2 fun e=>h e.symm;rw[h1,h2,Bool.false_and,Bool.false_and,Bool.false_and,Bool.or_false,Bool.or_false,Bool.or_false,<- decide_not];refine decide_eq_decide.2 ?_;have h3:x.toNat≠y.toNat:=fun e=>h (UInt8.toNat_inj.1 e);rw[UInt8.lt_iff_toNat_lt,UInt8.lt_iff_toNat_lt];omega
def IZ{s:ByteArray}{b:Bool}(h:mr s=b)(hs:s.size<=9223372036854775807)(w:World):Calls prog 38 #[.string s] w fun e w'=>e=.returned (.bool b)/\w'=w:=by
 subst h;refine(Jz s w hs).mono ?_;rintro e w' ⟨h1,h2⟩;exact⟨h1,h2.symm⟩
def Hl{ok:Nat->Prop}(l:List ByteArray)(v:Value)(w:World)(hr:ck aF 1 ok w [v] l)(hl:l.length<=1000000)(mu:∀s∈l,s.size<=9223372036854775807) :
  Calls prog 122 #[v] w fun e w'=>e=.returned (.int .i64 (eP l))/\Below w.1.size w w':=by
 obtain⟨p,c,rfl,ag,zc⟩:=hr.cap;replace hr:=aa hr;replace mu:=aa mu;have HT:Hid (eP l=_):=aa (eP.eq_1 l);go_enter func122,ntmps122
 by_cases h8:8<l.length
 ·rw[aw h8]at HT;have hd:decide ((8:Int)<(l.length:Int))=true:=by simp;omega
  go_wp2;go_ret;exact⟨cz HT.o.symm,bj _ _⟩
 rw[bh h8]at HT;have hd:decide ((8:Int)<(l.length:Int))=false:=by simp;omega
 go_wp2;go_loopw[3] (fun i wr=>∃k:Nat,k<=l.length/\i=.int .i64 k/\(∀j,j<k->kV l j=true)/\Below w.1.size w wr) (fun i _=>l.length-(intOf i).toNat)
 exact⟨0,cg _,rfl,fun j hj=>by omega,bj _ _⟩;obtain⟨k,hk,rfl,hall,hB⟩:=hrel;replace hall:=aa hall;by_cases hlt:k<l.length
 ·obtain⟨s,hs⟩:=aj l k hlt;obtain⟨b,off,us,rfl,_,cX,ez,eE,ON⟩:=hr.o.elem hs;obtain rfl:us=_:=eE;have q0:=(hB.cell (p:=⟨b,off+k*1+0,none⟩) cX).trans (ON 0 _ rfl);rw[fp,fg]at q0;have HG:Hid (l.getD k ⟨#[]⟩=s):=aa (by simp[hs]);have Ud:=mu.o s (ct hs);clear ON ez hs;have Mz:Hid (kV l k=_):=aa (kV.eq_1 l k);rw[HG.o]at Mz;have PZ:Hid (kV l k=false->eP l=2):=aa fun h=>by
   rw[HT.o,bh];intro hh;rw[eL]at hh;rw[hh k (EV.2 hlt)]at h;cases h
  have kh:Hid (kV l k=true->∀j,j<k+1->kV l j=true):=aa fun h j hj=>by
   by_cases hjk:j=k
   ·exact hjk ▸ h
   exact hall.o j Tc1
  have HBD:=aa fun n=>aT hB n;cases ht:mr s with
  |false =>
   have Up:=aa (IZ ht Ud);have j9:Hid (kV l k=false):=aa (by rw[Mz.o,ht];rfl);clear ht;go_upto_region 6 with(fail);go_quiet ((go_at_call 38;exact po (Up.o _)));go_wp2;go_ret;exact⟨cz (PZ.o j9.o).symm,HBD.o _⟩
  |true =>
   have Up:=aa (IZ ht Ud);by_cases hk0:k<1
   ·have j9:Hid (kV l k=true):=aa (by rw[Mz.o,ht,eA (show k=0 by omega)];rfl);have hg:decide ((0:Int)<(k:Int))=false:=by simp;omega
    have a9:decide (0<k)=false:=by simp;omega
    clear ht;go_upto_region 6 with(fail);go_quiet ((go_at_call 38;exact po (Up.o _)));go_wp2;go_roundw
    exact⟨k+1,Tc1,Tc5,kh.o j9.o,HBD.o _⟩;simp[intOf];omega
   obtain⟨r,a7⟩:=aj l (k-1) Tc1;obtain⟨b',ab,ae,e',_,af,TE,Tv,a5⟩:=hr.o.elem a7;obtain rfl:ae=_:=Tv;injection e' with e';injection e' with eb eo;subst eb;subst eo;have q1:=(hB.cell (p:=⟨b,off+(k-1)*1+0,none⟩) cX).trans (a5 0 _ rfl);rw[fp,fg]at q1;have a8:l.getD (k-1) ⟨#[]⟩=r:=by simp[a7]
   rw[a8]at Mz;clear a8 a5 TE af a7;have hg:decide ((0:Int)<(k:Int))=true:=by simp;omega
   have a9:decide (0<k)=true:=by simp;omega
   cases hc:Op.bytesLess r.toList s.toList with
   |true =>
    have j9:Hid (kV l k=true):=aa (by rw[Mz.o,ht,XY,hc];simp);have hle:(Op.bytesLess s.toList r.toList||s.toList==r.toList)=false:=by rw[KP,hc];rfl
    clear ht;go_upto_region 6 with(fail);go_quiet ((go_at_call 38;exact po (Up.o _)));go_wp2;go_roundw
    exact⟨k+1,Tc1,Tc5,kh.o j9.o,HBD.o _⟩;simp[intOf];omega
   |false =>
    have hle:(Op.bytesLess s.toList r.toList||s.toList==r.toList)=true:=by rw[KP,hc];rfl
    have j9:Hid (kV l k=false):=aa (by rw[Mz.o,ht,XY,hc,cN (show ¬k=0 by omega)];rfl);clear ht;go_upto_region 6 with(fail);go_quiet ((go_at_call 38;exact po (Up.o _)));go_wp2;go_ret;exact⟨cz (PZ.o j9.o).symm,HBD.o _⟩
 go_wp2;go_ret;refine⟨cz (Eq.symm ?_),hB⟩;rw[HT.o,aw];rw[eL];exact fun j hj=>hall.o j (by have:=EV.1 hj;omega)
def Kj{ok:Nat->Prop}(g:af)(a:bN)(w:World)(hg:dN ok w g a)(hz:UT g) :
  Calls prog 73 #[.agg (Tad g a)] w fun e w'=>e=.returned (.int .i64 (qX g))/\Below w.1.size w w':=by
 have HT:=aa hg.tags;have HH:=aa hg.hist;have HZ:=aa hz;have aD:=hz.hl;have ab:=hz.name;obtain⟨vp,vc,sT,aE,aG⟩:=hg.hist.cap;injection sT with e1 e2 e3;obtain⟨p6,c6,h6,ag,ah⟩:=hg.Gb.cap;obtain⟨p7,c7,h7,ai,ak⟩:=hg.F9.cap;clear hg hz;obtain⟨ID,a7,a8,G3,G4,Ge,Hb,Hc⟩:=a;dsimp only at e1 e2 e3 h6 h7;subst e1;subst e3;clear e2 h6 h7 ag ah ai ak;have HE:Hid (qX g=_):=aa (qX.eq_1 g);have CN:=aa (b9 w (.cells (Tap g ID a7 a8 G3 G4 Ge Hb Hc) 31));have hA:=ae w (.cells (Tap g ID a7 a8 G3 G4 Ge Hb Hc) 31);have cU:=aa hA;have n0:=mi CN.o 0 _ rfl;clear hA;go_enter func73,ntmps73
 go_wp2_with fail;generalize R0:AI w _=W1 at *;have am:w.1.size=w.1.size:=rfl;generalize aH:w.1.size=B at CN;clear R0 am n0;refine(yh g.name W1 ab).mono ?_;rintro e w2 ⟨rfl,hb2⟩;have cm:=Zbl cU hb2;have pH:=Zbk hb2 CN;clear hb2 cU CN;have n2:=mi pH.o 2 _ rfl;have n3:=mi pH.o 3 _ rfl;have n4:=mi pH.o 4 _ rfl;have n5:=mi pH.o 5 _ rfl;have n6:=mi pH.o 6 _ rfl;have n7:=mi pH.o 7 _ rfl;have n8:=mi pH.o 8 _ rfl;cases XV:jo g.name with
 |false =>
  rw[aw XV]at HE;clear XV;go_wp2;go_ret;exact⟨cz HE.o.symm,cm.o⟩
 |true =>
  rw[bh (by rw[XV];decide)]at HE;clear XV;by_cases hr:lm g
  ·rw[bh (fun h=>h hr)]at HE;obtain⟨r1,r2,r3,r4,r5,r6⟩:=hr;by_cases hl:iR g
   ·rw[bh (fun h=>h hl)]at HE;obtain⟨l1,l2,l3⟩:=hl;have d6:decide ((8:Int)<(g.Gb.length:Int))=false:=by simp;omega
    have d7:decide ((32:Int)<(g.F9.length:Int))=false:=by simp;omega
    have d8:decide ((32:Int)<(g.history.length:Int))=false:=by simp;omega
    by_cases l5:g.tags.length<=8
    ·have d5:decide ((8:Int)<(g.tags.length:Int))=false:=by simp;omega
     go_wp2_with fail;refine(Hl (ok:=ok) g.tags _ w2 ((ck.moves aF.moves).mv (Mv.of cm.o) HT.o) HZ.o.tags.1 HZ.o.tags.2).mono ?_;rintro e w3 ⟨rfl,hb3⟩;have cJ:=Zbl cm hb3;have LS:=Zbk hb3 pH;clear hb3 cm pH n2 n3 n4 n5 n6 n7 n8 d5 d6 d7 d8 l1 l2 l5 r1 r2 r3 r4 r5 r6;by_cases ht:eP g.tags=0
     ·have ao:(eP g.tags != 0)=false:=by rw[ht];rfl
      rw[bh (fun h=>h ht)]at HE;clear ht;go_wp2_with fail;go_loopw[4,5] (fun i _ wr=>∃k:Nat,k<=g.history.length/\i=.int .i64 k/\Below w3.1.size w3 wr/\(∀j,j<k->lL (g.history.getD j (⟨#[]⟩,0,0))=true)) (fun i _ _=>g.history.length-(intOf i).toNat)
      exact⟨0,cg _,rfl,bj _ _,fun j hj=>by omega⟩;obtain⟨k,hk,rfl,a5,hall⟩:=hrel;have hB:=cJ.o.trans (a5.mono cJ.o.size);have n8:=mi ((a5.block _ (aq LS.o)).trans LS.o) 8 _ rfl;replace a5:=aa a5;replace hall:=aa hall;by_cases hlt:k<g.history.length
      ·obtain⟨h,hh⟩:=aj g.history k hlt;obtain⟨b,off,us,hbo,gR,cX,ez,eE,ON⟩:=HH.o.elem hh;subst hbo;obtain rfl:us=_:=eE;obtain⟨hn,hid,TD⟩:=h;have cT:wr.1[b]?=w.1[b]?:=hB.block b cX;obtain⟨q0,q1,q2⟩:=Mn cT ON;have au:=HZ.o.hist _ (ct hh);have HG:Hid (g.history.getD k (⟨#[]⟩,0,0)=(hn,hid,TD)):=aa (by simp[hh]);have PZ:Hid (lL (hn,hid,TD)=false->qX g=2):=aa fun hb=>by
        rw[HE.o,bh];intro Yr;rw[eL]at Yr;rw[Yr _ (ct hh)]at hb;cases hb
       have kh:Hid (lL (hn,hid,TD)=true->∀j,j<k+1->lL (g.history.getD j (⟨#[]⟩,0,0))=true):=aa fun hb j hj=>by
        by_cases hjk:j=k
        ·subst hjk;rw[HG.o];exact hb
        exact hall.o j Tc1
       have Mz:Hid (lL (hn,hid,TD)=_):=aa (lL.eq_1 (hn,hid,TD));clear ON ez cT hh HG hall;have hA:=ae wr (.cells #[.string hn,.int .u64 hid,.int .i64 TD] 73);have eI:=aa (hB.trans (hA.mono hB.size));have a9:=Zbl a5 hA;have VG:=aa (b9 wr (.cells #[.string hn,.int .u64 hid,.int .i64 TD] 73));have m0:=mi VG.o 0 _ rfl;clear hA a5;go_wp2_with fail;clear q0 q1 q2 m0;generalize av:AI wr _=W4 at *;generalize ay:wr.1.size=Bh at *;clear av ay hB n8;refine(yh hn W4 au).mono ?_;rintro e w5 ⟨rfl,hb5⟩;have eK:=Zbl eI hb5;have az:=Zbl a9 hb5;have m2:=mi ((hb5.block _ (aq VG.o)).trans VG.o) 2 _ rfl;clear hb5 eI VG a9;cases ag4:jo hn with
       |false =>
        have j9:Hid (lL (hn,hid,TD)=false):=aa (by rw[Mz.o,ag4];rfl);clear ag4;go_wp2;go_ret;exact⟨cz (PZ.o j9.o).symm,eK.o⟩
       |true =>
        by_cases hr2:0<=TD/\TD<=1048575
        ·have j9:Hid (lL (hn,hid,TD)=true):=aa (by rw[Mz.o,ag4,eA hr2];rfl);obtain⟨s1,s2⟩:=hr2;clear ag4;go_wp2;go_roundw;exact⟨k+1,Tc1,Tc5,az.o,kh.o j9.o⟩;simp[intOf];omega
        have j9:Hid (lL (hn,hid,TD)=false):=aa (by rw[Mz.o,ag4,cN hr2];rfl);have aA:TD<0\/(0<=TD/\1048575<TD):=by omega
        clear ag4 hr2;rcases aA with s1|⟨s1,s2⟩
        all_goals
         go_wp2;go_ret;exact⟨cz (PZ.o j9.o).symm,eK.o⟩
      have HR:Hid (qX g=0):=aa (by
       rw[HE.o,aw];rw[eL];intro x hx;obtain⟨i,hi,rfl⟩:=List.getElem_of_mem hx;have:=hall.o i Tc1;simpa[hi]using this)
      go_wp2;go_ret;exact⟨cz HR.o.symm,hB⟩
     have ao:(eP g.tags != 0)=true:=by simpa using ht
     rw[aw ht]at HE;clear ht;go_wp2_with fail;go_ret;exact⟨cz HE.o.symm,cJ.o⟩
    have d5:decide ((8:Int)<(g.tags.length:Int))=true:=by simp;omega
    have ht:eP g.tags=4:=by unfold eP;rw[aw Tc1]
    rw[aw (by rw[ht];decide),ht]at HE;clear ht;go_wp2;go_ret;exact⟨cz HE.o.symm,cm.o⟩
   rw[aw hl]at HE;have aB:8<g.Gb.length\/(g.Gb.length<=8/\32<g.F9.length)\/(g.Gb.length<=8/\g.F9.length<=32/\32<g.history.length):=by unfold iR at hl;omega
   clear hl;rcases aB with l1|⟨l1,l2⟩|⟨l1,l2,l3⟩
   ·have d6:decide ((8:Int)<(g.Gb.length:Int))=true:=by simp;omega
    go_wp2;go_ret;exact⟨cz HE.o.symm,cm.o⟩
   ·have d6:decide ((8:Int)<(g.Gb.length:Int))=false:=by simp;omega
    have d7:decide ((32:Int)<(g.F9.length:Int))=true:=by simp;omega
    go_wp2;go_ret;exact⟨cz HE.o.symm,cm.o⟩
   have d6:decide ((8:Int)<(g.Gb.length:Int))=false:=by simp;omega
   have d7:decide ((32:Int)<(g.F9.length:Int))=false:=by simp;omega
   have d8:decide ((32:Int)<(g.history.length:Int))=true:=by simp;omega
   go_wp2;go_ret;exact⟨cz HE.o.symm,cm.o⟩
  rw[aw hr]at HE;have aC:g.seq<0\/(0<=g.seq/\1048575<g.seq)\/(0<=g.seq/\g.seq<=1048575/\g.Gd<1)\/(0<=g.seq/\g.seq<=1048575/\1<=g.Gd/\1024<g.Gd)\/(0<=g.seq/\g.seq<=1048575/\1<=g.Gd/\g.Gd<=1024/\g.next<0)\/(0<=g.seq/\g.seq<=1048575/\1<=g.Gd/\g.Gd<=1024/\0<=g.next/\1073741824<g.next):=by unfold lm at hr;omega
  clear hr;rcases aC with r1|⟨r1,r2⟩|⟨r1,r2,r3⟩|⟨r1,r2,r3,r4⟩|⟨r1,r2,r3,r4,r5⟩|⟨r1,r2,r3,r4,r5,r6⟩
  all_goals
   go_wp2;go_ret;exact⟨cz HE.o.symm,cm.o⟩
def OkP(w:World)(e:Ending)(w':World):Prop:=e=.returned (.int .i64 0)/\Below w.1.size w w'
def KA{d:az}(h:pg g k d=0):jo d.name=true/\(∀j x,j<k->g.Gb[j]?=some x->(x.name.toList==d.name.toList)=false/\(x.id==d.id)=false)/\jQ g d/\eP d.tags=0:=by
 unfold pg at h;split at h
 ·cases h
 rename_i h1;split at h
 ·cases h
 rename_i h2;split at h
 ·cases h
 rename_i h3;refine⟨TdD,fun j x hj hx=>?_,Classical.not_not.1 h3,h⟩;have hm:x∈g.Gb.take k:=ct (i:=j) (by rw[ri hj];exact hx);have:dG d x=false:=by
  cases hs:dG d x with
  |false=>rfl
  |true=>exact absurd (Ft.2 ⟨x,hm,hs⟩) h2
 unfold dG at this;rwa[Bool.or_eq_false_iff]at this
def Hz(h:yH g k v=0):nE v=true/\(∀j x,j<k->g.F9[j]?=some x->(x.name.toList==v.name.toList)=false/\(x.id==v.id)=false)/\(1<=v.Gf.length/\v.Gf.length<=64)/\eP v.tags=0:=by
 unfold yH at h;split at h
 ·cases h
 rename_i h1;split at h
 ·cases h
 rename_i h2;split at h
 ·cases h
 rename_i h3;refine⟨TdD,fun j x hj hx=>?_,Classical.not_not.1 h3,h⟩;have hm:x∈g.F9.take k:=ct (i:=j) (by rw[ri hj];exact hx);have:fC v x=false:=by
  cases hs:fC v x with
  |false=>rfl
  |true=>exact absurd (Ft.2 ⟨x,hm,hs⟩) h2
 unfold fC at this;rwa[Bool.or_eq_false_iff]at this
def TcZ{p:Prop}(h:p:=by
 go_wp2;go_ret;exact⟨rfl,eK.o⟩):p:=h
def TbU{p:Prop}(h:p:=by
 rintro e w5 ⟨rfl,hb5⟩;rw[ht];have eK:=Zbl fy hb5;clear hb5;exact TcZ):p:=h
def Tcc{p:Prop}(h:p:=by
 go_wp2;go_roundw;exact⟨j+1,Tc1,Tc5,C1.o _⟩;simp[intOf];omega):p:=h
def KQ{ok:Nat->Prop}(g:af)(a:bN)(k:Nat)(d:az)(w:World)(hg:ck aO 7 ok w [.slice a.dp g.Gb.length a.dc] g.Gb)(hz:UT g)(hd:g.Gb[k]?=some d)(he:pg g k d=0)(hx:1<=g.Gd/\g.Gd<=1024) :
  Calls prog 74 #[.agg (Tad g a),.int .i64 k] w (OkP w):=by
 obtain⟨hv,hno,⟨r1,r2,r3,r4,r5⟩,ht⟩:=KA he;replace hno:=aa hno;replace hg:=aa hg;have Vk:=(AT.1 hd).1;have CD:=hz.dl;obtain⟨ab,WY⟩:=hz.disk d (ct hd);replace WY:=aa WY;have ai:=oA r3 (show 0<=g.Gd by omega);have ak:IntKind.i64.wrap (d.Gc*g.Gd)=d.Gc*g.Gd:=dy _ Tc1;have am:IntKind.i64.wrap (d.first+d.Gc*g.Gd)=d.first+d.Gc*g.Gd:=dy _ Tc1;obtain⟨b,off,us,qt,gR,cX,ez,eE,ON⟩:=hg.o.elem hd;obtain⟨tv,rfl,ew⟩:=eE;obtain⟨tp,tc,rfl,_,_⟩:=ew.cap;replace qt:=aa qt;have hA1:=ae w (.cells (Tad g a) 31);have CN:=aa (b9 w (.cells (Tad g a) 31));have cT:=hA1.block b cX;go_enter func74,ntmps74
 go_upto_region 1 with(fail);generalize AI w _=W1 at *;generalize TJ:w.1.size=Bg at *;have a5:Below w.1.size w W1:=by rw[TJ];exact hA1
 obtain⟨q0,q1,q2,q3,q4,q5,q6⟩:=OD cT ON;have gX:=mi CN.o 6 _ rfl;rw[qt.o]at gX;have hA2:=ae W1 (.cells (Tai d tp tc) 51);have sX:=aa (b9 W1 (.cells (Tai d tp tc) 51));have pH:=Zbk hA2 CN;have cm:=aa (a5.trans (hA2.mono a5.size));have Hx:=aa ((ck.moves aF.moves).mv (Mv.of cm.o) ew);clear ON ez cT hd hA1 a5 hA2 ew CN he qt;go_upto_region 2 with(fail);clear q0 q1 q2 q3 q4 q5 q6 gX;generalize AI W1 _=W2 at *;generalize W1.1.size=Bd at *
 try rw[<- TJ]
 have d0:=mi sX.o 0 _ rfl;go_wp2_with fail;clear d0;refine(yh d.name W2 ab).mono ?_;rintro e w3 ⟨rfl,hb3⟩;rw[hv];have cJ:=Zbl cm hb3;have n9:=Zbk hb3 sX;have LS:=Zbk hb3 pH;have ag:=aa ((ck.moves aF.moves).mv (Mv.of hb3) Hx.o);clear hb3 cm sX pH Hx;go_wp2;go_loopw[6] (fun i wr=>∃j:Nat,j<=k/\i=.int .i64 j/\Below w3.1.size w3 wr) (fun i _=>k-(intOf i).toNat)
 exact⟨0,cg _,rfl,bj _ _⟩;obtain⟨j,hj,rfl,hB⟩:=hrel;have dL:=mi ((hB.block _ (aq n9.o)).trans n9.o);by_cases hlt:j<k
 ·obtain⟨x,a9⟩:=aj g.Gb j Tc1;obtain⟨hn1,hn2⟩:=hno.o j x hlt a9;obtain⟨b3,off3,ao,a7,_,PV,_,Tr,a8⟩:=hg.o.elem a9;obtain⟨Ym,rfl,_⟩:=Tr;have g6:=mi ((hB.block _ (aq LS.o)).trans LS.o) 6 _ rfl;rw[a7]at g6;have Tl:=(cJ.o.trans (hB.mono cJ.o.size)).block b3 PV;obtain⟨x0,x1⟩:=sw2 Tl a8;have d0:=dL 0 _ rfl;have d1:=dL 1 _ rfl;have C1:Hid (∀n,Below w3.1.size w3 (wr.drewN n)):=aa fun n=>aT hB n;clear a8 a9 Tl dL hB a7
  go_upto_region 7 with(fail);go_quiet (fail);clear hn1 hn2 g6 x0 x1 d0 d1;exact Tcc
 have d2:=dL 2 _ rfl;have d3:=dL 3 _ rfl;have d6:=dL 6 _ rfl;have g3:=mi ((hB.block _ (aq LS.o)).trans LS.o) 3 _ rfl;have fy:=Zbl cJ hB;have ah:=aa ((ck.moves aF.moves).mv (Mv.of hB) ag.o);clear dL hB;go_wp2_with fail;clear d2 d3 d6 g3;refine(Hl (ok:=ok) d.tags _ wr ah.o WY.o.1 WY.o.2).mono ?_;exact TbU
def KC(s:ByteArray)(w:World)(hs:s.size<=9223372036854775807) :
  Calls prog 123 #[.string s] w fun e w'=>e=.returned (.bool (zH s))/\Below w.1.size w w':=by
 have:=Hm s.data.toList.length s.data.toList w (bk _) Td0;rwa[<- bytes_eta s]at this
def JO{ok:Nat->Prop}(g:af)(a:bN)(k:Nat)(v:ay)(w:World)(hg:ck aN 6 ok w [.slice a.vp g.F9.length a.vc] g.F9)(hz:UT g)(hd:g.F9[k]?=some v)(he:yH g k v=0) :
  Calls prog 75 #[.agg (Tad g a),.int .i64 k] w (OkP w):=by
 obtain⟨hv,hno,⟨l1,l2⟩,ht⟩:=Hz he;replace hno:=aa hno;replace hg:=aa hg;have Vk:=(AT.1 hd).1;have CD:=hz.vl;obtain⟨ab,WY⟩:=hz.vol v (ct hd);replace WY:=aa WY;obtain⟨b,off,us,qt,gR,cX,ez,eE,ON⟩:=hg.o.elem hd;obtain⟨tv,sv,rfl,ew,fL⟩:=eE;obtain⟨tp,tc,rfl,_,_⟩:=ew.cap;obtain⟨sp,sc,rfl,_,_⟩:=fL.cap;replace qt:=aa qt;have hA1:=ae w (.cells (Tad g a) 31);have CN:=aa (b9 w (.cells (Tad g a) 31));have cT:=hA1.block b cX;go_enter func75,ntmps75
 go_upto_region 1 with(fail);generalize AI w _=W1 at *;generalize TJ:w.1.size=Bg at *;have a5:Below w.1.size w W1:=by rw[TJ];exact hA1
 obtain⟨q0,q1,q2,q3,q4,q5⟩:=sw6 cT ON;have gX:=mi CN.o 7 _ rfl;rw[qt.o]at gX;have hA2:=ae W1 (.cells (Tah v tp tc sp sc) 68);have sX:=aa (b9 W1 (.cells (Tah v tp tc sp sc) 68));have pH:=Zbk hA2 CN;have cm:=aa (a5.trans (hA2.mono a5.size));have Hx:=aa ((ck.moves aF.moves).mv (Mv.of cm.o) ew);clear ON ez cT hd hA1 a5 hA2 ew fL CN he qt;go_upto_region 2 with(fail);clear q0 q1 q2 q3 q4 q5 gX;generalize AI W1 _=W2 at *;generalize W1.1.size=Bd at *
 try rw[<- TJ]
 have d0:=mi sX.o 0 _ rfl;have d2:=mi sX.o 2 _ rfl;unfold nE at hv;have HCL:Hid (∀b,v.hidden=b->Calls prog (if b then 123 else 121) #[.string v.name] W2 fun e w'=>e=.returned (.bool true)/\Below W2.1.size W2 w'):=aa (by
  intro b hb;subst hb;cases hh:v.hidden with
  |true=>rw[hh,aw rfl]at hv;rw[aw rfl,<- hv];exact KC v.name W2 ab
  |false=>rw[hh,bh Tc4]at hv;rw[bh Tc4,<- hv];exact yh v.name W2 ab)
 clear hv;generalize ak:v.hidden=hd at *;have ag:Hid (W2.cell? (Tac Bd 2)=some (.bool hd)):=aa d2;cases hd
 all_goals
  have Y6:=aa (HCL.o _ rfl);simp only[pj,fY,ej]at Y6;clear HCL;go_wp2_with fail;clear d0 d2;refine Y6.o.mono ?_;rintro e w3 ⟨rfl,hb3⟩;have cJ:=Zbl cm hb3;have n9:=Zbk hb3 sX;have LS:=Zbk hb3 pH;have ah:=aa ((ck.moves aF.moves).mv (Mv.of hb3) Hx.o);have d2:=(hb3.cell (p:=⟨Bd,2,none⟩) (aq sX.o)).trans ag.o;clear hb3 cm sX pH Hx Y6 ag;go_wp2;clear d2;go_loopw[6] (fun i wr=>∃j:Nat,j<=k/\i=.int .i64 j/\Below w3.1.size w3 wr) (fun i _=>k-(intOf i).toNat)
  exact⟨0,cg _,rfl,bj _ _⟩;obtain⟨j,hj,rfl,hB⟩:=hrel;have dL:=mi ((hB.block _ (aq n9.o)).trans n9.o);by_cases hlt:j<k
  ·obtain⟨x,a9⟩:=aj g.F9 j Tc1;obtain⟨hn1,hn2⟩:=hno.o j x hlt a9;obtain⟨b3,off3,am,a7,_,PV,_,Tr,a8⟩:=hg.o.elem a9;obtain⟨Ym,sv3,rfl,_,_⟩:=Tr;have g7:=mi ((hB.block _ (aq LS.o)).trans LS.o) 7 _ rfl;rw[a7]at g7;have Tl:=(cJ.o.trans (hB.mono cJ.o.size)).block b3 PV;obtain⟨x0,x1⟩:=sw2 Tl a8;have d0:=dL 0 _ rfl;have d1:=dL 1 _ rfl;have C1:Hid (∀n,Below w3.1.size w3 (wr.drewN n)):=aa fun n=>aT hB n;clear a8 a9 Tl dL hB a7
   go_upto_region 7 with(fail);go_quiet (fail);clear hn1 hn2 g7 x0 x1 d0 d1;exact Tcc
  have d4:=dL 4 _ rfl;have d5:=dL 5 _ rfl;have fy:=Zbl cJ hB;have ai:=aa ((ck.moves aF.moves).mv (Mv.of hB) ah.o);have e1:decide ((v.Gf.length:Int)<1)=false:=cN Tc1;have e2:decide ((64:Int)<(v.Gf.length:Int))=false:=cN Tc1;clear dL hB;go_wp2_with fail;clear d4 d5 e1 e2;refine(Hl (ok:=ok) v.tags _ wr ai.o WY.o.1 WY.o.2).mono ?_;exact TbU
def DD{ext st:Int}(h:bJ ext s st=true):∃x,shapeOf s.kind=some x/\s.start=st/\(1<=s.length/\s.length<=32768)/\(x.least<=s.Ga.length/\s.Ga.length<=x.greatest)/\s.Ga.all (bT x)=true /\
  fq ext s.chunk x=true/\(x.log||s.log.toList.isEmpty)=true/\(x.pool||s.pool.toList.isEmpty)=true/\dP s x=true/\bE s.device 1 65535 x.pool=true/\bE s.mode 1 2 x.mode=true/\bE s.done 0 s.length x.done=true /\
  (s.kind=2->s.length%(s.Ga.length:Int)=0)/\(s.kind=4->s.length%((s.Ga.length:Int)-1)=0):=by
 unfold bJ at h;cases hx:shapeOf s.kind with
 |none=>rw[hx]at h;cases h
 |some x =>
  rw[hx]at h;simp only[eh,fk,beq_iff_eq]at h;obtain⟨⟨⟨⟨⟨⟨⟨⟨⟨⟨⟨⟨⟨⟨h1,h2⟩,h3⟩,h4⟩,h5⟩,h6⟩,h7⟩,h8⟩,h9⟩,a8⟩,a9⟩,aa⟩,ab⟩,a5⟩,a7⟩:=h;refine⟨x,rfl,h1,⟨h2,h3⟩,⟨h4,h5⟩,h6,h7,h8,h9,a8,a9,aa,ab,fun hk=>?_,fun hk=>?_⟩
  ·rw[hk]at a5;simpa using a5
  rw[hk]at a7;simpa using a7
def L8{ok:Nat->Prop}(g:af)(a:bN)(bc:Nat)(s:aB)(x:eX)(u:List Value)(w:World)(kB:gY w bc g a)(a5:0<=g.Gd)(a9:g.Gd<=1000000)(hv:bC ok w u s)(hm:fq g.Gd s.chunk x=true) :
  Calls prog 179 #[.pointer (some bc),.agg u.toArray,.agg (dm x).toArray] w fun e w'=>e=.returned (.bool true)/\Below w.1.size w w':=by
 unfold dm;have jt:=kB.lt;obtain⟨av,Oz,rfl,mC,hst⟩:=hv;obtain⟨ap,ac,rfl,ab,ag⟩:=mC.cap;obtain⟨eN,eR,rfl,a7,a8⟩:=hst.cap;clear mC hst;obtain⟨sm,da,_⟩:=kB;unfold fq at hm;have cm:=aa ((ae w (.cells (Tae s ap ac eN eR) 114)).trans ((ae (w.alloc (.cells (Tae s ap ac eN eR) 114)) (.cells (Tan x) 192)).mono (ae w (.cells (Tae s ap ac eN eR) 114)).size));have c3:((w.alloc (.cells (Tae s ap ac eN eR) 114)).alloc (.cells (Tan x) 192)).cell? (Tac bc 3)=some (.int .i64 g.Gd):=(cd (a:=⟨bc,3,none⟩) (cm.o.block bc jt)).trans (by simp[AN,da]);have x4:((w.alloc (.cells (Tae s ap ac eN eR) 114)).alloc (.cells (Tan x) 192)).cell? (Tac (w.1.size+1) 4)=some (.int .i64 x.chunk):=aD Tc2 rfl;have s4:((w.alloc (.cells (Tae s ap ac eN eR) 114)).alloc (.cells (Tan x) 192)).cell? (Tac w.1.size 4)=some (.int .i64 s.chunk):=(cd (a:=⟨w.1.size,4,none⟩) (cj _ _ _ Tc2)).trans (aD rfl rfl);clear da;by_cases h0:x.chunk=0
 ·have q:(x.chunk==0)=true:=by simpa using h0
  rw[aw h0]at hm;have HM:=aa hm;clear h0 hm;go_enter func179,ntmps179;go_wp2;go_ret;exact⟨ah HM.o,cm.o⟩
 have q:(x.chunk==0)=false:=by simpa using h0
 rw[bh h0]at hm;by_cases h1:x.chunk=1
 ·rw[aw h1,eh,fk]at hm;have q1:(x.chunk==1)=true:=by simpa using h1
  obtain⟨hc,hr⟩:=hm;have HM:=aa hr;have e1:g.Gd.tmod s.chunk=g.Gd%s.chunk:=NX a5;have e0:0<=g.Gd%s.chunk:=Int.emod_nonneg _ Tc1;have e2:g.Gd%s.chunk<=g.Gd:=by
   rw[Int.emod_def];have:=oA (show 0<=s.chunk by omega) (lz a5 (show 0<=s.chunk by omega));omega
  have e3:IntKind.i64.wrap (g.Gd%s.chunk)=g.Gd%s.chunk:=dy _ Tc1;have e4:(s.chunk==0)=false:=by simp;omega
  clear h0 h1 hr;go_enter func179,ntmps179;go_wp2;go_quiet (fail);go_wp2;go_ret;exact⟨ah HM.o,aT cm.o _⟩
 rw[bh h1,eh,fk,fk]at hm;have q1:(x.chunk==1)=false:=by simpa using h1
 obtain⟨hc,hd⟩:=hm;clear h0 h1;go_enter func179,ntmps179;go_wp2;go_ret;exact⟨rfl,cm.o⟩
def Lr{ok:Nat->Prop}(g:af)(a:bN)(bc:Nat)(s:aB)(x:eX)(u cx:List Value)(w:World)(kB:gY w bc g a)(a5:0<=g.Gd)(a7:g.Gd<=1000000)(hv:bC ok w u s)(hc:cx=dm x)(hm:fq g.Gd s.chunk x=true) :
  Calls prog 179 #[.pointer (some bc),.agg u.toArray,.agg cx.toArray] w fun e w'=>e=.returned (.bool true)/\Below w.1.size w w':=by
 subst hc;exact L8 g a bc s x u w kB a5 a7 hv hm
def Tcn{p:Prop}(h:p:=by
 go_wp2;go_round;exact⟨k+1,Tc1,Tc5⟩;simp[intOf];omega):p:=h
def MC{ok:Nat->Prop}(s:aB)(x:eX)(u:List Value)(w:World)(hv:bC ok w u s)(ha:s.Ga.length<=1000000)(hl:s.stale.length<=1000000)(hm:dP s x=true) :
  Calls prog 180 #[.agg u.toArray,.agg (dm x).toArray] w fun e w'=>e=.returned (.bool true)/\Below w.1.size w w':=by
 unfold dm;obtain⟨av,Oz,rfl,mC,hst⟩:=hv;obtain⟨ap,ac,rfl,ak,am⟩:=mC.cap;obtain⟨eN,eR,rfl,ab,af⟩:=hst.cap;replace hst:=aa hst;clear mC;have HM:=aa (fun k (hk:k<s.stale.length)=>An.1 hm k (EV.2 hk));clear hm;have hA1:=ae w (.cells (Tae s ap ac eN eR) 114);have cm:=aa (hA1.trans ((ae (w.alloc (.cells (Tae s ap ac eN eR) 114)) (.cells (Tan x) 192)).mono hA1.size));have x5:((w.alloc (.cells (Tae s ap ac eN eR) 114)).alloc (.cells (Tan x) 192)).cell? (Tac (w.1.size+1) 5)=some (.bool x.stale):=aD Tc2 rfl;have s5:((w.alloc (.cells (Tae s ap ac eN eR) 114)).alloc (.cells (Tan x) 192)).cell? (Tac w.1.size 5)=some (.slice eN s.stale.length eR):=(cd (a:=⟨w.1.size,5,none⟩) (cj _ _ _ Tc2)).trans (aD rfl rfl);clear hA1;cases Fi:s.log.toList.isEmpty
 all_goals
  rw[Fi]at HM;go_enter func180,ntmps180;go_wp2;generalize AI (AI w _) _=W at *
  go_loop[19,6,7] (fun i _ _=>∃k:Nat,k<=s.stale.length/\i=.int .i64 k) (fun i _ _=>s.stale.length-(intOf i).toNat)
  exact⟨0,cg _,rfl⟩;obtain⟨k,hk,rfl⟩:=hrel;by_cases hlt:k<s.stale.length
  ·obtain⟨n,hn⟩:=aj s.stale k hlt;obtain⟨b,off,us,rfl,_,cX,ez,eE,ON⟩:=hst.o.elem hn;obtain rfl:us=_:=eE;have q0:=(cm.o.cell (p:=⟨b,off+k*1+0,none⟩) cX).trans (ON 0 _ rfl);rw[fp,fg]at q0;have a7:s.stale.getD k 0=n:=by simp[hn]
   have h:=HM.o k hlt;unfold bR at h;rw[a7]at h;simp only[eh,tG,fk,ej,fY,pj]at h;obtain⟨⟨⟨a8,h0⟩,h1⟩,h4⟩:=h;rw[a8]at x5;clear a8 a7 ON ez hn;by_cases hk0:k<1
   ·clear h4;exact Tcn
   obtain⟨m,hm⟩:=aj s.stale (k-1) Tc1;obtain⟨b',ag,ah,e',_,ai,TE,Tv,a5⟩:=hst.o.elem hm;obtain rfl:ah=_:=Tv;injection e' with e';injection e' with eb eo;subst eb;subst eo;have q1:=(cm.o.cell (p:=⟨b,off+(k-1)*1+0,none⟩) cX).trans (a5 0 _ rfl);rw[fp,fg]at q1;have a9:s.stale.getD (k-1) 0=m:=by simp[hm]
   rw[a9]at h4;have h2:m<n:=h4.resolve_left Tc1;clear h4 a9 a5 TE ai hm;exact Tcn
  go_wp2;go_ret;exact⟨rfl,cm.o⟩
def CJ{ok:Nat->Prop}(s:aB)(x:eX)(u cx:List Value)(w:World)(hv:bC ok w u s)(ha:s.Ga.length<=1000000)(hl:s.stale.length<=1000000)(hc:cx=dm x)(hm:dP s x=true) :
  Calls prog 180 #[.agg u.toArray,.agg cx.toArray] w fun e w'=>e=.returned (.bool true)/\Below w.1.size w w':=by
 subst hc;exact MC s x u w hv ha hl hm
def MZ{ok:Nat->Prop}(g:af)(a:bN)(bc:Nat)(s:aB)(start:Int)(u:List Value)(w:World)(kB:gY w bc g a)(aK:0<=g.Gd)(aM:g.Gd<=1000000)(hv:bC ok w u s)(ha:s.Ga.length<=1000000)(hl:s.stale.length<=1000000)(TY:(Lit.int .i64 s.kind).wf=true)(hF:bJ g.Gd s start=true) :
  Calls prog 143 #[.pointer (some bc),.agg u.toArray,.int .i64 start] w fun e w'=>e=.returned (.bool true)/\Below w.1.size w w':=by
 have jt:=kB.lt;have HV:=aa hv;obtain⟨av,Oz,rfl,mC,hst⟩:=hv;obtain⟨ap,ac,rfl,aS,aT⟩:=mC.cap;obtain⟨eN,eR,rfl,aN,aO⟩:=hst.cap;replace mC:=aa mC;clear hst;have I3:=aa kB;obtain⟨sm,da,TZ⟩:=kB;have cU:=aa (ae w (.cells (Tae s ap ac eN eR) 114));have ag:=fun w' (hm:bi prog 3 w' sm 10 eH)=>(hm.look pF underlying153 (uG w') (lA underlying3 TY)).2;rw[uA]at ag;obtain⟨x,hx⟩:∃x,x=oO s.kind:=⟨_,rfl⟩;rw[<- hx,show jR x=.agg (Tan x) from rfl]at ag;replace hx:=aa hx;replace ag:=aa ag;have ao:=cr da 9 _ rfl
 replace TZ:=aa TZ;have Vi:=TZ.o.lt;clear da;have hS:∀w':World,Below w.1.size w w'->w'.cell? (Tac w.1.size 2)=some (.int .i64 s.kind)->w'.cell? (Tac bc 9)=some (.map (some sm))/\w'.cell? (Tac w.1.size 2)=some (.int .i64 s.kind)/\(Instr.lookup 153 (.map (some sm)) (.int .i64 s.kind) true).run prog w'=.ok (.tuple #[.agg (Tan x),.bool (eH (.int .i64 s.kind)).isSome]) w':=fun w' hb h2 =>
  ⟨(hb.cell (p:=⟨bc,9,none⟩) jt).trans ao,h2,ag.o w' (TZ.o.block (hb.block _ Vi))⟩
 replace hS:=aa hS;clear ao;go_enter func143,ntmps143;go_wp2;generalize R0:AI w _=W1 at *;have hk2:W1.cell? (Tac w.1.size 2)=some (.int .i64 s.kind):=by rw[<- R0];exact aD rfl rfl
 have a9:=aa R0;clear R0;refine aL (fun w'=>w'.cell? (Tac bc 9)=some (.map (some sm))/\w'.cell? (Tac w.1.size 2)=some (.int .i64 s.kind)/\(Instr.lookup 153 (.map (some sm)) (.int .i64 s.kind) true).run prog w'=.ok (.tuple #[.agg (Tan x),.bool (eH (.int .i64 s.kind)).isSome]) w') 13 [] Tc3 (hS.o _ cU.o.drew hk2) (fun a5=>?_);refine fS 0 a5 ?_;refine fS 1 a5 ?_;refine fS 2 a5 ?_;refine fS 3 a5 ?_;refine fS 4 a5 ?_;refine fS 5 a5 ?_;refine fS 6 a5 ?_;refine fS 7 a5 ?_;refine fS 8 a5 ?_;refine fS 9 a5 ?_;refine lR 10 fun K hK=>?_;go_simp;have cm:Hid (Below w.1.size w (W1.drew.alloc (.cells #[.int .i64 0,.int .i64 0,false,false,.int .i64 0,false,false,false,false,false] 192))):=aa (cU.o.drew.alloc (by have:=cU.o.size;simpa using this) _);refine hK.o _ _ (hS.o _ cm.o ?_) ?_
 ·exact(cd (a:=⟨w.1.size,2,none⟩) (cj _ _ _ (by simpa using cP W1 _ hk2))).trans hk2
 clear hK K;refine lR 11 fun K hK=>?_;go_simp;have cJ:Hid (Below w.1.size w (W1.alloc (.cells (Tan x) 192)).drew):=aa ((cU.o.alloc cU.o.size _).drew);have hk3:(W1.alloc (.cells (Tan x) 192)).drew.cell? (Tac w.1.size 2)=some (.int .i64 s.kind):=(cd (a:=⟨w.1.size,2,none⟩) (cj _ _ _ (cP W1 _ hk2))).trans hk2;refine hK.o _ _ (hS.o _ cJ.o hk3) ?_;clear hK K;refine lR 12 fun K hK=>?_;go_simp;refine hK.o _ _ (hS.o _ cJ.o hk3) ?_;clear hK K a5;refine aP Tc3 rfl ?_;simp only[cQ,km,cL];have Yg:w.1.size<W1.1.size:=cP W1 _ hk2;have HN:=aa (b9 W1 (.cells (Tan x) 192));have HG:Hid ((W1.alloc (.cells (Tan x) 192)).drew.1[w.1.size]?=some (.cells (Tae s ap ac eN eR) 114 (0,0))):=aa ((cj _ _ _ Yg).trans (by show W1.1[w.1.size]?=_;rw[<- a9.o];exact b9 w _));have hz:(W1.alloc (.cells (Tan x) 192)).drew.1.size=W1.1.size+1:=by simp
 have HN:Hid ((W1.alloc (.cells (Tan x) 192)).drew.1[W1.1.size]?=some (.cells (Tan x) 192 (0,0))):=HN;clear hk2 hk3 cm hS ag;generalize ai:World.drew (AI W1 _)=W2 at *;generalize aQ:W1.1.size=Bs at *;clear ai aQ a9;have a8:∀(j:Nat) (z:Value),[.int .i64 x.least,.int .i64 x.greatest,.bool x.F9,.bool x.several,.int .i64 x.chunk,.bool x.stale,.bool x.pool,.bool x.log,.bool x.mode,.bool x.done][j]?=some z->∀wr:World,wr.1[Bs]?=W2.1[Bs]?->wr.cell? ⟨Bs,j,none⟩=some z:=fun j z hz wr am=>by
  simp only[AN,am,HN.o];simpa using hz
 have a7:∀(j:Nat) (z:Value),[.int .i64 s.start,.int .i64 s.length,.int .i64 s.kind,.slice ap s.Ga.length ac,.int .i64 s.chunk,.slice eN s.stale.length eR,.string s.log,.string s.pool,.int .i64 s.device,.int .i64 s.mode,.int .i64 s.done][j]?=some z->∀wr:World,wr.1[w.1.size]?=W2.1[w.1.size]?->wr.cell? ⟨w.1.size,j,none⟩=some z:=fun j z hz wr am=>by
  simp only[AN,am,HG.o];simpa using hz
 replace a8:=aa a8;replace a7:=aa a7;have x0:=a8.o 0 _ rfl W2 rfl;have x1:=a8.o 1 _ rfl W2 rfl;have s0:=a7.o 0 _ rfl W2 rfl;have s1:=a7.o 1 _ rfl W2 rfl;have s3:=a7.o 3 _ rfl W2 rfl;obtain⟨x',KB,c1,⟨c2,c3⟩,⟨c4,c5⟩,aq,au,YG,aw,ay,R0,ai,az,aA,aC⟩:=DD hF;have hi:(eH (.int .i64 s.kind)).isSome=true:=by rw[show eH (.int .i64 s.kind)=(shapeOf s.kind).map jR from rfl,KB];rfl
 obtain rfl:x=x':=by rw[hx.o];simp[oO,KB]
 have HP:=aa (⟨KB,aq,au,YG,aw,ay,R0,ai,az,aA,aC⟩:_/\_/\_/\_/\_/\_/\_/\_/\_/\_/\_);clear KB aq au YG aw ay R0 ai az aA aC hF hx;generalize (eH (.int .i64 s.kind)).isSome=isx at *;subst hi;have QX:Hid (0<=s.length/\x.least<=(s.Ga.length:Int)):=aa ⟨Tc1,c4⟩;have d1:(s.start != start)=false:=by simp[c1]
 have d2:decide (s.length<1)=false:=by simp;omega
 have d3:decide (32768<s.length)=false:=by simp;omega
 have d4:decide ((s.Ga.length:Int)<x.least)=false:=by simp;omega
 have d5:decide (x.greatest<(s.Ga.length:Int))=false:=by simp;omega
 clear c1 c2 c3 c4 c5;have x2:=a8.o 2 _ rfl W2 rfl;go_wp2;go_loopw[59] (fun i wr=>∃k:Nat,k<=s.Ga.length/\i=.int .i64 k/\Below w.1.size w wr/\wr.1[w.1.size]?=W2.1[w.1.size]?/\wr.1[Bs]?=W2.1[Bs]?/\Bs<wr.1.size) (fun i _=>s.Ga.length-(intOf i).toNat)
 exact⟨0,cg _,rfl,cJ.o,rfl,rfl,Tc1⟩;clear x0 x1 x2 s0 s1 s3 d1 d2 d3 d4 d5;obtain⟨k,hk,rfl,hB,aE,ab,hbz⟩:=hrel;have a9:=aa aE;clear aE;replace ab:=aa ab;by_cases hlt:k<s.Ga.length
 ·obtain⟨r,hr⟩:=aj s.Ga k hlt;obtain⟨b,off,us,rfl,_,cX,ez,eE,ON⟩:=mC.o.elem hr;obtain rfl:us=_:=eE;have cT:wr.1[b]?=w.1[b]?:=hB.block b cX;obtain⟨q0,q1,q2⟩:=Mn cT ON;have x2:=a8.o 2 _ rfl wr ab.o;have gw:=An.1 HP.o.2.1 r (ct hr);unfold bT at gw;rw[eh]at gw;have rel:Hid (∀o:Obj,∃k':Nat,k'<=s.Ga.length/\Bm .i64 ((k:Int)+1)=.int .i64 k'/\Below w.1.size w (wr.alloc o)/\(wr.alloc o).1[w.1.size]?=W2.1[w.1.size]?/\(wr.alloc o).1[Bs]?=W2.1[Bs]?/\Bs<(wr.alloc o).1.size):=aa fun o =>
   ⟨k+1,Tc1,Tc5,hB.alloc hB.size _,(cj _ _ _ Tc1).trans a9.o,(cj _ _ _ hbz).trans ab.o,Tc6⟩
  clear ON ez hr cT;have hrv:r.vol=x.F9:=by simpa using gw.1
  rw[<- hrv]at x2;have ak:=gw.2;clear gw hrv;cases hv:r.vol with
  |true =>
   rw[hv]at x2 q0;have e2:(r.start != 0)=false:=by
    rw[hv]at ak;simpa using ak
   clear ak hv;go_wp2;go_roundw;exact rel.o _;simp[intOf];omega
  |false =>
   rw[hv]at x2 q0;clear ak hv;go_wp2;go_roundw;exact rel.o _;simp[intOf];omega
 have aU:k=s.Ga.length:=by omega
 have xL:=fun j z hz=>a8.o j z hz wr ab.o;have sL:=fun j z hz=>a7.o j z hz wr a9.o;obtain⟨s0,s1,s2,s3,s4,s5,s6,s7,s8,s9,ah⟩:=IC sL;obtain⟨x0,x1,x2,x3,x4,x5,x6,x7,x8,x9⟩:=IG xL;have nw:=aa (Lr g a bc s x _ (dm x) wr (I3.o.below hB) aK aM (bC.moves.mv (Mv.of hB) HV.o) rfl HP.o.2.2.1);clear sL xL
 go_wp2_with fail;refine nw.o.mono ?_;clear nw;rintro e w3 ⟨rfl,hb3⟩;have eI:=aa (hB.trans (hb3.mono hB.size));have aF:=aa ((hb3.block _ Tc1).trans a9.o);have aG:=aa ((hb3.block _ hbz).trans ab.o);have QZ:Hid (Bs<w3.1.size):=aa (cC hbz hb3.size);clear hb3 a9 ab hB s0 s1 s2 s3 s4 s5 s6 s7 s8 s9 ah x0 x1 x2 x3 x4 x5 x6 x7 x8 x9;have xL:=fun j z hz=>a8.o j z hz w3 aG.o;have sL:=fun j z hz=>a7.o j z hz w3 aF.o;obtain⟨s0,s1,s2,s3,s4,s5,s6,s7,s8,s9,ah⟩:=IC sL;obtain⟨x0,x1,x2,x3,x4,x5,x6,x7,x8,x9⟩:=IG xL;clear sL xL;have sq:=aa (CJ s x _ (dm x) w3 (bC.moves.mv (Mv.of eI.o) HV.o) ha hl rfl HP.o.2.2.2.2.2.1);have aH:=HP.o.2.2.2.1;have Uv:=HP.o.2.2.2.2.1
 have k1:x.log=true\/(x.log=false/\s.log.toList.isEmpty=true):=by
  revert aH
  cases x.log<;>simp
 have k2:x.pool=true\/(x.pool=false/\s.pool.toList.isEmpty=true):=by
  revert Uv
  cases x.pool<;>simp
 clear aH Uv;rcases k1 with k1|⟨k1,k1'⟩<;>rcases k2 with k2|⟨k2,aV⟩
 all_goals
  rw[k1]at x7;rw[k2]at x6;go_wp2_with fail;refine(CJ s x _ _ _ (bC.moves.mv (Mv.of eI.o) HV.o) ha hl (by simp[dm,k1,k2]) HP.o.2.2.2.2.2.1).mono ?_;rintro e w5 ⟨rfl,hb5⟩;have eK:=Zbl eI hb5;have Lz:=aa ((hb5.block _ (by have:=eI.o.size;have:=QZ.o;omega)).trans aF.o);have Vl:=aa ((hb5.block _ QZ.o).trans aG.o);clear hb5 s0 s1 s2 s3 s4 s5 s6 s7 s8 s9 ah x0 x1 x2 x3 x4 x5 x6 x7 x8 x9;have s1:=a7.o 1 _ rfl w5 Lz.o;have s2:=a7.o 2 _ rfl w5 Lz.o;have s3:=a7.o 3 _ rfl w5 Lz.o;have s8:=a7.o 8 _ rfl w5 Lz.o;have s9:=a7.o 9 _ rfl w5 Lz.o;have ah:=a7.o 10 _ rfl w5 Lz.o;have x6:=a8.o 6 _ rfl w5 Vl.o;have x8:=a8.o 8 _ rfl w5 Vl.o;have x9:=a8.o 9 _ rfl w5 Vl.o;have hd:=HP.o.2.2.2.2.2.2.1;rw[k2]at hd;have Tc:=HP.o.2.2.2.2.2.2.2.1;have aI:=HP.o.2.2.2.2.2.2.2.2.1;go_wp2_with fail;refine(di _ _ _ _ _).mono ?_;rintro e w6 ⟨rfl,rfl⟩;rw[hd];go_wp2_with fail;refine(di _ _ _ _ _).mono ?_;rintro e w6 ⟨rfl,rfl⟩;rw[Tc];go_wp2_with fail;refine(di _ _ _ _ _).mono ?_;rintro e w6 ⟨rfl,rfl⟩;rw[aI];clear hd Tc aI s8 s9 ah x6 x8 x9 k1 k2;by_cases hk2:s.kind=2
  ·have aR:(s.kind==2)=true:=by simpa using hk2
   have aJ:(s.kind==4)=false:=by rw[hk2];rfl
   have h1:=HP.o.1;rw[hk2]at h1;have h2:=lu h1;have h3:=QX.o.2;have Tp:2<=s.Ga.length:=by omega
   have e0:((s.Ga.length:Int)==0)=false:=by rw[beq_eq_false_iff_ne];omega
   have e1:s.length.tmod (s.Ga.length:Int)=s.length%(s.Ga.length:Int):=NX QX.o.1;have Vm:(s.length%(s.Ga.length:Int) != 0)=false:=by simpa using HP.o.2.2.2.2.2.2.2.2.2.1 hk2
   clear h1 h2 h3;exact TcZ
  have aR:(s.kind==2)=false:=by simpa using hk2
  by_cases hk4:s.kind=4
  ·have aJ:(s.kind==4)=true:=by simpa using hk4
   have h1:=HP.o.1;rw[hk4]at h1;have h2:=kC h1;have h3:=QX.o.2;have Tp:3<=s.Ga.length:=by omega
   have e0:((s.Ga.length:Int)-1==0)=false:=by simp;omega
   have e1:s.length.tmod ((s.Ga.length:Int)-1)=s.length%((s.Ga.length:Int)-1):=NX QX.o.1;have Vm:(s.length%((s.Ga.length:Int)-1) != 0)=false:=by simpa using HP.o.2.2.2.2.2.2.2.2.2.2 hk4
   clear h1 h2 h3 hk2 hk4;exact TcZ
  have aJ:(s.kind==4)=false:=by simpa using hk4
  clear hk2 hk4;exact TcZ
def Kb(x:eX):List Value:=[.int .i64 x.least,.int .i64 x.greatest,.bool x.F9,.bool (x.chunk != 0),.bool x.stale,.bool x.log,.bool x.pool,.bool x.mode,.bool x.done]
def pM{k:Int}(h:shapeOf k=some x):k=1\/k=2\/k=3\/k=4\/k=5\/k=6\/k=7\/k=8\/k=9\/k=10:=by
 refine Classical.byContradiction fun q=>?_;simp only[not_or]at q;obtain⟨h1,h2,h3,h4,h5,h6,h7,h8,h9,a5⟩:=q;unfold shapeOf at h;rw[bh h1,bh h2,bh h3,bh h4,bh h5,bh h6,bh h7,bh h8,bh h9,bh a5]at h;cases h
def Jv(k:Int)(x:eX)(w:World)(h:shapeOf k=some x) :
  Calls prog 124 #[.int .i64 k] w fun e w'=>e=.returned (.tuple #[.agg (Kb x).toArray,true])/\Below w.1.size w w':=by
 have hL:=mi (b9 w (.cells (Kb x).toArray 178));have hF:∀u,u=Value.agg (Kb x).toArray->(Ending.returned (.tuple #[u,true])=.returned (.tuple #[.agg (Kb x).toArray,true])):=fun u h=>by rw[h]
 rcases pM h with rfl|rfl|rfl|rfl|rfl|rfl|rfl|rfl|rfl|rfl
 all_goals
  injection h with h;subst h;simp only[Kb,Int.reduceBNe]at hL;obtain⟨r0,r1,r2,r3,r4,r5,r6,r7,r8⟩:=xr hL;clear hL;go_enter func124,ntmps124;go_wp2;exact eC (by simp[results,Tryz.results124,go_sem,r0,r1,r2,r3,r4,r5,r6,r7,r8];rfl) rfl ⟨hF _ rfl,ae w _⟩
def JZ(s:aB):Int:=(s.Ga.length:Int)-1+if s.kind=3/\s.log.toList.isEmpty=false then 1 else 0
def J3(s:aB):Prop:=∀(i:Nat) (n:Int),s.stale[i]?=some n->0<=n/\n<=JZ s/\(i=0\/∃m,s.stale[i-1]?=some m/\m<n)
def KJ(hx:shapeOf s.kind=some x)(hl:(x.log||s.log.toList.isEmpty)=true)(hm:dP s x=true):J3 s:=by
 intro i n hi;have a5:=(AT.1 hi).1;unfold dP at hm;have h:=An.1 hm i (EV.2 a5);have hg:s.stale.getD i 0=n:=by simp[hi]
 unfold bR at h;rw[hg]at h;simp only[eh,fk,tG]at h;obtain⟨⟨⟨h1,h2⟩,h3⟩,h4⟩:=h;refine⟨h2,?_,?_⟩
 ·unfold JZ
  cases Fi:s.log.toList.isEmpty with
  |true =>
   rw[Fi]at h3;rw[bh (fun q=>by cases q.2)];simp only[ej]at h3;omega
  |false =>
   rw[Fi]at h3 hl;have hk:s.kind=3:=by
    rcases pM hx with h|h|h|h|h|h|h|h|h|h<;>rw[h]at hx<;>injection hx with hx<;>subst hx<;>first|exact h|(exact absurd hl Tc4)
   rw[aw ⟨hk,rfl⟩];simp only[pj,fY]at h3;omega
 rcases h4 with h4|h4
 ·exact .inl h4
 by_cases h0:i=0
 ·exact .inl h0
 obtain⟨m,hm'⟩:=aj s.stale (i-1) Tc1;refine .inr ⟨m,hm',?_⟩;have:s.stale.getD (i-1) 0=m:=by simp[hm']
 rwa[this]at h4
def TcK{p:Prop}(h:p:=by
 go_wp2;go_ret;exact⟨rfl,fy.o⟩):p:=h
def Tcd{p:Prop}(h:p:=by
 go_wp2;go_roundw;exact⟨k+1,Tc1,Tc5,C1.o _⟩;simp[intOf];omega):p:=h
def IQ{ok:Nat->Prop}(s:aB)(u:List Value)(w:World)(hv:bC ok w u s)(ha:s.Ga.length<=1000000)(hl:s.stale.length<=1000000)(hs:J3 s) :
  Calls prog 126 #[.agg u.toArray] w fun e w'=>e=.returned (.bool true)/\Below w.1.size w w':=by
 obtain⟨av,Oz,rfl,mC,hst⟩:=hv;obtain⟨ap,ac,rfl,_,_⟩:=mC.cap;obtain⟨eN,eR,rfl,_,_⟩:=hst.cap;replace hst:=aa hst;clear mC;replace hs:=aa hs;have hA:=ae w (.cells (Tae s ap ac eN eR) 114);have lj:=aa (b9 w (.cells (Tae s ap ac eN eR) 114));replace hA:=aa hA;go_enter func126,ntmps126
 go_upto_region 1 with(fail);generalize AI w _=W1 at *;generalize ag:w.1.size=Bs at lj ⊢;have sL:=mi lj.o;have s2:=sL 2 _ rfl;have s3:=sL 3 _ rfl;have s6:=sL 6 _ rfl;clear sL;have a8:∃hi:Int,JZ s=hi/\((s.kind==3)=false/\IntKind.i64.wrap ((s.Ga.length:Int)-1)=hi\/(s.kind==3)=true/\s.log.toList.isEmpty=true/\IntKind.i64.wrap ((s.Ga.length:Int)-1)=hi\/(s.kind==3)=true/\s.log.toList.isEmpty=false/\∃h0,IntKind.i64.wrap ((s.Ga.length:Int)-1)=h0/\IntKind.i64.wrap (h0+1)=hi):=by
  refine⟨_,rfl,?_⟩;unfold JZ;have q1:IntKind.i64.wrap ((s.Ga.length:Int)-1)=(s.Ga.length:Int)-1:=dy _ Tc1;by_cases h3:s.kind=3
  ·cases Fi:s.log.toList.isEmpty with
   |true=>exact .inr (.inl ⟨TdC,rfl,by rw[bh (fun q=>by cases q.2),q1];omega⟩)
   |false=>exact .inr (.inr ⟨TdC,rfl,_,q1,by rw[aw ⟨h3,rfl⟩];exact dy _ Tc1⟩)
  exact .inl ⟨TdC,by rw[bh (fun q=>h3 q.1),q1];omega⟩
 obtain⟨hi,ah,⟨k3,a7⟩|⟨k3,lg,a7⟩|⟨k3,lg,h0,a7,ai⟩⟩:=a8
 all_goals
  go_wp2;clear s2 s3 s6;go_loopw[4] (fun i wr=>∃k:Nat,k<=s.stale.length/\i=.int .i64 k/\Below W1.1.size W1 wr) (fun i _=>s.stale.length-(intOf i).toNat)
  exact⟨0,cg _,rfl,bj _ _⟩;obtain⟨k,hk,rfl,hB⟩:=hrel;have s5:=mi ((hB.block _ (aq lj.o)).trans lj.o) 5 _ rfl;have fy:=Zbl hA hB;replace hB:=aa hB;by_cases hlt:k<s.stale.length
  ·obtain⟨n,hn⟩:=aj s.stale k hlt;obtain⟨n0,n1,n2⟩:=hs.o k n hn;obtain⟨b,off,us,rfl,_,cX,_,eE,ON⟩:=hst.o.elem hn;obtain rfl:us=_:=eE;have q0:=(fy.o.cell (p:=⟨b,off+k*1+0,none⟩) cX).trans (ON 0 _ rfl);rw[fp,fg]at q0;have d0:decide (n<0)=false:=cN Tc1;have d1:decide (hi<n)=false:=cN Tc1;have C1:Hid (∀n,Below W1.1.size W1 (wr.drewN n)):=aa fun n=>aT hB.o n;clear ON hn
   by_cases hk0:k<1
   ·have g0:decide ((0:Int)<(k:Int))=false:=cN Tc1;have g1:decide (0<k)=false:=cN Tc1;clear n2;go_upto_region 7 with(fail);go_quiet (fail);clear q0 s5 d0 d1 g0 g1;exact Tcd
   obtain⟨m,hm,Vm⟩:∃m,s.stale[k-1]?=some m/\m<n:=n2.resolve_left Tc1;obtain⟨b',a9,ab,e',_,af,_,Tv,a5⟩:=hst.o.elem hm;obtain rfl:ab=_:=Tv;injection e' with e';injection e' with eb eo;subst eb;subst eo;have q1:=(fy.o.cell (p:=⟨b,off+(k-1)*1+0,none⟩) cX).trans (a5 0 _ rfl);rw[fp,fg]at q1;have g0:decide ((0:Int)<(k:Int))=true:=eA Tc1;have g1:decide (0<k)=true:=eA Tc1;have d2:decide (n<=m)=false:=cN Tc1;clear a5 hm af;go_upto_region 7 with(fail);go_quiet (fail);clear q0 q1 s5 d0 d1 d2 g0 g1;exact Tcd
  exact TcK
def JU(h:jw g s=true)(hr:r∈s.Ga):(r.vol=true->(aM g.F9 r.on).isSome=true)/\(r.vol=false->(bH g.Gb r.on).isSome=true):=by
 unfold jw at h;rw[eh,eL,eL]at h;refine⟨fun hv=>h.2 _ ?_,fun hv=>?_⟩
 ·unfold dD;exact ju _ (ju _ (As.2 ⟨r,DP.2 ⟨hr,hv⟩,rfl⟩))
 have:=h.1 r hr;rwa[hv,nj]at this
def Km(h:jw g s=true)(hl:s.log.toList.isEmpty=false):(aM g.F9 s.log).isSome=true:=by
 unfold jw at h;rw[eh,eL,eL]at h;refine h.2 _ ?_;unfold dD;rw[hl];exact ju _ (P9 _ Tc2)
def II(h:jw g s=true)(hk:s.kind=6):(aM g.F9 s.pool).isSome=true:=by
 unfold jw at h;rw[eh,eL,eL]at h;refine h.2 _ ?_;unfold dD;rw[show(true&&s.kind==6)=true by rw[hk];rfl];exact P9 _ Tc2
def KX(h:s.Ga.all (fI g s)=true)(hr:r∈s.Ga)(hv:r.vol=false) :
  0<=r.start/\r.start<=((bH g.Gb r.on).getD gT).Gc/\iB s.kind s.length s.Ga.length<=((bH g.Gb r.on).getD gT).Gc-r.start:=by
 have:=An.1 h r hr;unfold fI at this;rw[hv,nj,eh,eh,fk,fk,fk]at this;exact⟨this.1.1,this.1.2,this.2⟩
def J8(h:(dD s false).any (dh g)=false)(hr:r∈s.Ga)(hv:r.vol=true):dh g r.on=false:=by
 rw[GW]at h;have:=h r.on (by
  unfold dD;exact ju _ (ju _ (As.2 ⟨r,DP.2 ⟨hr,hv⟩,rfl⟩)))
 simpa using this
def KO(h:(dD s false).any (dh g)=false)(hl:s.log.toList.isEmpty=false):dh g s.log=false:=by
 rw[GW]at h;have:=h s.log (by
  unfold dD;rw[hl];exact ju _ (P9 _ Tc2))
 simpa using this
def IK(h:dh g nm=false):(eZ ((aM g.F9 nm).getD eY)==6)=false/\(eZ ((aM g.F9 nm).getD eY)==5)=false:=by
 unfold dh at h;rwa[Bool.or_eq_false_iff]at h
def K8:jo ⟨#[]⟩=false:=by kernel_rfl
def K4:zH ⟨#[]⟩=false:=by kernel_rfl
def JC(h:nE v=true):v.name.toList.isEmpty=false:=by
 refine lS (Decidable.byContradiction fun q=>?_);have e:=oI q;unfold nE at h;rw[e,K8,K4]at h;cases hv:v.hidden<;>rw[hv]at h<;>cases h
def Jj(h:(aM g.F9 nm).isSome=true):∃v∈g.F9,v.name=nm/\aM g.F9 nm=some v:=by
 obtain⟨v,hv⟩:=Kx.1 h;exact⟨v,eV hv,by simpa[aM]using List.find?_some hv,hv⟩
def I9(h3:(dJ g).2=0)(h4:(iP g).2=0)(h5:(mY g).2=0)(hv:v∈g.F9)(hs:s∈v.Gf):rQ s=dD s true/\(s.kind=6->s.pool.toList.isEmpty=false)/\(¬s.kind=6->s.pool.toList.isEmpty=true):=by
 obtain⟨st,hf⟩:=qP h4 v hv s hs;obtain⟨x,hx,-,-,-,-,-,-,PY,-⟩:=DD hf;obtain⟨he,-,-,-,-⟩:=zZ (Dh h5 v hv s hs);by_cases hk:s.kind=6
 ·have hp:s.pool.toList.isEmpty=false:=by
   obtain⟨u,hu,e,-⟩:=Jj (II he hk);rw[<- e];exact JC (nH h3 u hu).1
  refine⟨?_,fun _=>hp,fun q=>absurd hk q⟩;unfold rQ dD;rw[hp,hk];rfl
 have hp:s.pool.toList.isEmpty=true:=by
  have:x.pool=false:=by
   rcases pM hx with h|h|h|h|h|h|h|h|h|h
   all_goals first|exact absurd h hk|(rw[h]at hx;injection hx with hx;subst hx;rfl)
  rwa[this,nj]at PY
 refine⟨?_,fun q=>absurd q hk,fun _=>hp⟩;unfold rQ dD;rw[hp,show(true&&s.kind==6)=false by simp[hk]];rfl
def GU(f:aB->List ByteArray):∀vs:List ay,(aA vs).flatMap (fun p=>f p.2)=vs.flatMap fun v=>v.Gf.flatMap f
 |[]=>rfl
 |v :: vs=>by
  have ih:=GU f vs;unfold aA at ih ⊢;rw[lB,xt,ih,lB,List.flatMap_map]
def G5{β:Type}{f k:α->List β}:∀ {l:List α},(∀x∈l,f x=k x)->l.flatMap f=l.flatMap k
 |[],_=>rfl
 |x :: l,h=>by rw[lB,lB,h x cG,G5 fun y hy=>h y (kn _ hy)]
def Ci(vs:List ay):List ByteArray:=vs.flatMap kY
def KD(h3:(dJ g).2=0)(h4:(iP g).2=0)(h5:(mY g).2=0):Ci g.F9=EJ g true:=by
 unfold Ci EJ;rw[GU fun s=>dD s true];exact G5 fun v hv=>G5 fun s hs=>(I9 h3 h4 h5 hv hs).1
def DN(nm:ByteArray)(l:List aB):Nat:=l.countP fun s=>decide (s.pool=nm)
def yx(nm:ByteArray)(vs:List ay):Nat:=(vs.map fun v=>DN nm v.Gf).sum
def Ji(hn:nm.toList.isEmpty=false):∀l:List aB,(∀s∈l,¬s.kind=6->s.pool.toList.isEmpty=true)->iJ (l.flatMap fun s=>if s.kind=6 then [s.pool] else []) nm=DN nm l
 |[],_=>rfl
 |s :: l,h=>by
  have ih:=Ji hn l fun x hx=>h x (kn _ hx);unfold iJ DN at ih ⊢;rw[lB,List.countP_append,ih,List.countP_cons]
  by_cases hk:s.kind=6
  ·rw[aw hk,List.countP_singleton];omega
  have:¬s.pool=nm:=fun e=>by
   have:=h s cG hk;rw[e,hn]at this;cases this
  rw[bh hk,List.countP_nil,bh (by simpa using this)];omega
def IY(nm:ByteArray)(f:α->List ByteArray):∀l:List α,iJ (l.flatMap f) nm=(l.map fun x=>iJ (f x) nm).sum
 |[]=>rfl
 |x :: l=>by
  have ih:=IY nm f l;unfold iJ at ih ⊢;rw[lB,List.countP_append,ih,iu,List.sum_cons]
def KS(hn:nm.toList.isEmpty=false)(h3:(dJ g).2=0)(h4:(iP g).2=0)(h5:(mY g).2=0):iJ (ai3 (aA g.F9)) nm=yx nm g.F9:=by
 unfold ai3 yx;rw[GU fun s=>if s.kind=6 then [s.pool] else [],IY];congr 1
 exact List.map_congr_left fun v hv=>Ji hn v.Gf fun s hs=>(I9 h3 h4 h5 hv hs).2.2
def KT(hm:(mchk g).2=0)(hv:v∈g.F9) :
  (v.hidden=true->iJ (Ci g.F9) v.name=1)/\(v.hidden=false->iJ (Ci g.F9) v.name=yx v.name g.F9/\(yx v.name g.F9=0\/eZ v=5)):=by
 obtain⟨h1,h2,h3,h4,h5,h6,h7,h8⟩:=Dg hm;have hu:yt g v=0:=sS h8 v hv;have hn:=JC (nH h3 v hv).1;have e1:=KD h3 h4 h5;have e2:=KS hn h3 h4 h5;have e3:iJ (EJ g true) v.name=iJ (EJ g false) v.name+iJ (ai3 (aA g.F9)) v.name:=ai8 v.name (aA g.F9);unfold yt at hu;refine⟨fun hh=>?_,fun hh=>?_⟩
 ·rw[aw hh]at hu;rw[e1];split at hu
  ·assumption
  cases hu
 rw[bh (by simp[hh])]at hu;have h0:iJ (EJ g false) v.name=0:=by
  split at hu
  ·assumption
  cases hu
 rw[e1,e3,h0,e2,eJ];refine⟨rfl,?_⟩;by_cases hp:yx v.name g.F9=0
 ·exact .inl hp
 right
 rw[<- e2]at hp;obtain⟨nm,pD,e⟩:=List.countP_pos_iff.1 (Nat.pos_of_ne_zero hp);have e:nm=v.name:=by simpa using e
 obtain⟨p,hp1,a5⟩:=BY.1 pD;split at a5
 ·rename_i hk;obtain rfl:=AM.1 a5;obtain⟨q1,q2⟩:=jK hp1;have hk5:=(zZ (Dh h5 _ q1 _ q2)).2.2.2.1 hk;have SM:aM g.F9 v.name=some v:=by
   obtain⟨u,a8,a7,a9⟩:=Jj (g:=g) (nm:=v.name) (List.find?_isSome.2 ⟨v,hv,Tc2⟩);rw[a9];congr 1
   obtain⟨i,hi⟩:=fc a8;obtain⟨j,hj⟩:=fc hv;have ho:∀(j:Nat) (x:ay),g.F9[j]?=some x->yH g j x=0:=fun j x hx=>by
    have:=ll (i:=0) h3 j x hx;rwa[eJ]at this
   rcases Nat.lt_trichotomy i j with q|q|q
   ·have:=((Hz (ho j v hj)).2.1 i u q hi).1;rw[a7]at this;simp at this
   ·subst q;rw[hi]at hj;injection hj
   have:=((Hz (ho i u hi)).2.1 j v q hj).1;rw[a7]at this;simp at this
  rw[e,SM]at hk5;exact hk5
 cases a5
def Cw(l:List aB):Int:=l.foldl (fun n s=>n+s.length) 0
def GI(h:l[k]?=some s):Cw (l.take (k+1))=Cw (l.take k)+s.length:=vM (fun(n:Int) (s:aB)=>n+s.length) 0 l k s h
def I5{ext:Int}{n:Nat}(h:qV ext n l 0=0):∀(k:Nat),k<=l.length->qV ext n (l.drop k) (Cw (l.take k))=0
 |0,_=>by simpa[Cw]using h
 |k+1,hk=>by
  have ih:=I5 h k Tc1;obtain⟨s,hs⟩:=aj l k Tc1;rw[CP hs]at ih;rw[GI hs];split at ih
  ·cases ih
  split at ih
  ·cases ih
  exact ih
def Kv(h4:(iP g).2=0)(hv:v∈g.F9)(hs:v.Gf[k]?=some s):bJ g.Gd s (Cw (v.Gf.take k))=true/\(1<v.Gf.length->(oO s.kind).several=true):=by
 have h0:qV g.Gd v.Gf.length v.Gf 0=0:=sS h4 v hv;have:=I5 h0 k (by have:=(AT.1 hs).1;omega);rw[CP hs]at this;split at this
 ·cases this
 rename_i c1;split at this
 ·cases this
 rename_i c2;refine⟨by simpa using c1,fun h=>?_⟩;cases hq:(oO s.kind).several with
 |true=>rfl
 |false=>exact absurd ⟨h,hq⟩ c2
def I7(h:∀s∈l,0<=s.length/\s.length<=32768):∀k,0<=Cw (l.take k)/\Cw (l.take k)<=32768*(k:Int)
 |0=>by simp[Cw]
 |k+1=>by
  have ih:=I7 h k;by_cases hk:k<l.length
  ·obtain⟨s,hs⟩:=aj l k hk;have:=h s (ct hs);rw[GI hs];omega
  rw[jz Tc1]at ih ⊢;omega
def Ja(h:eZ v=6):∃s,v.Gf=[s]/\s.kind=6:=by
 unfold eZ at h
 match hv:v.Gf,h with
 |[s],h=>exact⟨s,rfl,h⟩
def JY(h7:(pE g).2=0){i:Nat}{x:ay}(XQ:k<i)(hv:g.F9[i]?=some v)(hx:g.F9[k]?=some x){t:aB}(hs:v.Gf=[s])(ht:x.Gf=[t])(a5:s.kind=6)(a7:t.kind=6) :
  s.pool≠t.pool\/s.device≠t.device:=by
 have h2:(bD IW [] (aA g.F9)).2=0:=by
  unfold pE at h7;split at h7
  ·exact h7
  rename_i c;exact absurd h7 c
 have e1:g.F9=g.F9.take i++v :: g.F9.drop (i+1):=by
  rw[<- drop_at hv,rk]
 have e2:aA g.F9=aA (g.F9.take i)++(v,s) :: aA (g.F9.drop (i+1)):=by
  conv=>lhs;rw[e1]
  simp[aA,hs]
 have:=Hd h2 _ _ v s e2;unfold IW at this;rw[aw a5]at this;by_cases c:s.pool=t.pool/\s.device=t.device
 ·exfalso
  rw[aw]at this
  ·cases this
  rw[nh];refine⟨(x,t),?_,by simp[a7,c.1,c.2]⟩;refine P9 _ (BY.2 ⟨x,?_,As.2 ⟨t,by rw[ht];exact List.mem_singleton_self _,rfl⟩⟩);exact ct (i:=k) (by rw[ri XQ];exact hx)
 by_cases cp:s.pool=t.pool
 ·exact .inr fun q=>c ⟨cp,q⟩
 exact .inl cp
def JQ(h:sU g)(i k:Nat)(p q:gy)(XQ:k<i)(hp:(pieces g.F9)[i]?=some p)(hq:(pieces g.F9)[k]?=some q)(hd:p.disk=q.disk):q.start+q.len<=p.start:=by
 have hr:=h.apart.1.row;rw[It]at hr;obtain⟨hi,ei⟩:=AT.1 hp;obtain⟨hk,ek⟩:=AT.1 hq;have hi':i<(triples g.F9).length:=by simpa[triples]using hi
 have hk':k<(triples g.F9).length:=by simpa[triples]using hk
 have:=hr k i hk' hi' XQ;simp only[triples,List.getElem_map,af7]at this;rw[ei,ek]at this;exact this hd.symm
def JN(h:sU g):∀p∈pieces g.F9,(0<=p.start/\p.start<=1000000)/\1<=p.len/\p.len<=1000000:=fun p hp=>by
 obtain⟨D,hD,-,h1,h2,h3⟩:=h.apart.1.on (af7 p) (As.2 ⟨p,hp,rfl⟩);simp only[af7]at h1 h2 h3;have:=(Fb h.gin h.mchk).de D hD;omega
def Tdr{p:Prop}(h:p:=by rw[h];rfl):p:=h
def TbV{p:Prop}(h:p:=by
 rw[bh Tc4]at hc;simp only[eh,fk]at hc;exact .inr ⟨Tdr,Tdr,.inr ⟨Tdr,hc⟩⟩):p:=h
def Kl{ok:Nat->Prop}(g:af)(a:bN)(s:aB)(x:eX)(u:List Value)(w:World)(hv:bC ok w u s)(hx:shapeOf s.kind=some x)(hc:fq g.Gd s.chunk x=true)(h0:¬x.chunk=0)(he:1<=g.Gd/\g.Gd<=1024) :
  Calls prog 125 #[.agg (Tad g a),.agg u.toArray] w fun e w'=>e=.returned (.bool true)/\Below w.1.size w w':=by
 obtain⟨av,Oz,rfl,mC,hst⟩:=hv;obtain⟨ap,ac,rfl,_,_⟩:=mC.cap;obtain⟨eN,eR,rfl,_,_⟩:=hst.cap;clear mC hst;have hA1:=ae w (.cells (Tad g a) 31);have hA2:=ae (w.alloc (.cells (Tad g a) 31)) (.cells (Tae s ap ac eN eR) 114);have RW:=b9 w (.cells (Tad g a) 31);have lj:=aa (b9 (w.alloc (.cells (Tad g a) 31)) (.cells (Tae s ap ac eN eR) 114));have CN:=aa ((hA2.block _ (aq RW)).trans RW);have HB:=aa (hA1.trans (hA2.mono hA1.size));clear hA1 hA2 RW;rw[cW]at lj;go_enter func125,ntmps125
 go_upto_region 1 with(fail);generalize AI (AI w _) _=W1 at *;generalize a5:w.1.size+1=Bs at lj ⊢;generalize a7:w.1.size=Bg at CN ⊢;have sL:=mi lj.o;have s2:=sL 2 _ rfl;have s4:=sL 4 _ rfl;have g3:=mi CN.o 3 _ rfl;clear sL;have a8:((s.kind==2)=true\/(s.kind==2)=false/\(s.kind==4)=true)/\1<=s.chunk/\s.chunk<=g.Gd/\g.Gd.tmod s.chunk=0\/(s.kind==2)=false/\(s.kind==4)=false/\((s.kind==3)=true/\1<=s.chunk/\s.chunk<=1024\/(s.kind==3)=false/\1<=s.chunk/\s.chunk<=64):=by
  unfold fq at hc;rw[bh h0]at hc;have hd:∀c:Int,(decide (1<=s.chunk)&&g.Gd%s.chunk==0)=true->1<=s.chunk/\s.chunk<=g.Gd/\g.Gd.tmod s.chunk=0:=fun _ h=>by
   simp only[eh,fk,beq_iff_eq]at h;refine⟨h.1,Int.le_of_dvd Tc1 (Int.dvd_of_emod_eq_zero h.2),?_⟩;rw[NX Tc1];exact h.2
  rcases pM hx with h|h|h|h|h|h|h|h|h|h<;>rw[h]at hx<;>injection hx with hx<;>subst hx
  ·exact absurd rfl h0
  ·rw[aw rfl]at hc;exact .inl ⟨.inl Tdq,hd 0 hc⟩
  ·rw[bh Tc4]at hc;simp only[eh,fk]at hc;exact .inr ⟨Tdr,Tdr,.inl ⟨Tdr,hc⟩⟩
  ·rw[aw rfl]at hc;exact .inl ⟨.inr ⟨Tdr,Tdr⟩,hd 0 hc⟩
  ·exact TbV
  ·exact absurd rfl h0
  ·exact TbV
  ·exact absurd rfl h0
  ·exact absurd rfl h0
  exact absurd rfl h0
 clear hc h0 hx a5 a7;rcases a8 with⟨k2|⟨k2,k4⟩,c1,c2,c3⟩|⟨k2,k4,⟨k3,c1,c2⟩|⟨k3,c1,c2⟩⟩
 all_goals
  exact TcJ
def JF(k:Int)(x:eX)(w:World)(hx:shapeOf k=some x) :
  Calls prog 77 #[.int .i64 k] w fun e w'=>e=.returned (.bool x.several)/\w'=w:=by
 rcases pM hx with rfl|rfl|rfl|rfl|rfl|rfl|rfl|rfl|rfl|rfl
 all_goals
  injection hx with hx;subst hx;go_enter func77,ntmps77;go_wp2;go_ret;exact⟨rfl,rfl⟩
def DR{a5:Array Oper}{C:World->Prop}{Qn:Act->Prop}(hQ:∀a w,C w->Qn a->Q .normal a w) :
  ∀(l:List Oper) (a:Act) (w:World),C w->wpQuiet P a5 C Qn l a->wpList P a5 Q l a w
 |[],a,w,hw,h=>hQ a w hw h
 |o :: rest,a,w,hw,h=>by
  unfold wpQuiet at h;unfold wpList;split at h
  ·rename_i ar6;rw[aw ar6];exact .inl (Oper.wp_of_quiet hw (fun a w' a7 hk=>DR hQ rest a w' a7 hk) h)
  rename_i ar6;rw[bh ar6];exact DR hQ rest _ w hw h
def wp_region_quiet_lit{id:Nat}{a:Act}{w:World}{l:List Oper}
  (h:wpQuiet P l.toArray (fun w'=>∃p:fo,w'=ext w p) (fun a'=>∀w',(∃p:fo,w'=ext w p)->Q .normal a' w') l a):(Code.region id l.toArray false).wp P Q a w :=
 wp_region_lit (DR (fun _ w' hw hq=>hq w' hw) l a w (jX (bj _ w)) h)
structure K9(g:af)(s:aB)(x:eX):Prop where
 ch:(s.chunk != 0)=(x.chunk != 0)
 st:x.stale=false->decide ((0:Int)<(s.stale.length:Int))=false
 lg:x.log=false->s.log.toList.isEmpty=true
 pl:x.pool=false->s.pool.toList.isEmpty=true
 pd:x.pool=false->(s.device != 0)=false
 md:x.mode=false->(s.mode != 0)=false
 dn:x.done=false->(s.done != 0)=false
 p1:x.pool=true->decide (s.device<1)=false
 p2:x.pool=true->decide ((65535:Int)<s.device)=false
 m1:x.mode=true->s.mode=1\/s.mode=2
 d1:x.done=true->decide (s.done<0)=false
 d2:x.done=true->decide (s.length<s.done)=false
def Lb(a7:fq g.Gd s.chunk x=true)(Fi:(x.log||s.log.toList.isEmpty)=true)(PY:(x.pool||s.pool.toList.isEmpty)=true)(aa:dP s x=true)(a8:bE s.device 1 65535 x.pool=true)(a9:bE s.mode 1 2 x.mode=true)(a5:bE s.done 0 s.length x.done=true):K9 g s x:=by
 unfold bE at a8 a9 a5;refine⟨?_,fun h=>?_,fun h=>by rwa[h,nj]at Fi,fun h=>by rwa[h,nj]at PY,fun h=>?_,fun h=>?_,fun h=>?_,fun h=>?_,fun h=>?_,fun h=>?_,fun h=>?_,fun h=>?_⟩
 ·unfold fq at a7;by_cases h0:x.chunk=0
  ·rw[aw h0,beq_iff_eq]at a7;rw[a7,h0]
  have h1:1<=s.chunk:=by
   rw[bh h0]at a7;split at a7<;>(rw[eh,fk]at a7;exact a7.1)
  rw[bne_iff_ne.2 (show s.chunk≠0 by omega),bne_iff_ne.2 h0]
 ·refine cN fun q=>?_
  unfold dP at aa;have:=An.1 aa 0 (EV.2 Tc1);unfold bR at this;rw[h,Bool.false_and,Bool.false_and,Bool.false_and]at this;cases this
 ·rw[h]at a8;simpa using a8
 ·rw[h]at a9;simpa using a9
 ·rw[h]at a5;simpa using a5
 ·rw[h]at a8;simp only[ej,eh,fk]at a8;exact cN Tc1
 ·rw[h]at a8;simp only[ej,eh,fk]at a8;exact cN Tc1
 ·rw[h]at a9;simp only[ej,eh,fk]at a9;omega
 ·rw[h]at a5;simp only[ej,eh,fk]at a5;exact cN Tc1
 rw[h]at a5;simp only[ej,eh,fk]at a5;exact cN Tc1
def KU{ok:Nat->Prop}(g:af)(a:bN)(s:aB)(u:List Value)(st:Int)(w:World)(hv:bC ok w u s)(hf:bJ g.Gd s st=true)(he:1<=g.Gd/\g.Gd<=1024)(Tp:s.Ga.length<=1000000)(GF:s.stale.length<=1000000) :
  Calls prog 76 #[.agg (Tad g a),.agg u.toArray,.int .i64 st] w fun e w'=>e=.returned (.bool true)/\Below w.1.size w w':=by
 obtain⟨x,hx,au,⟨l1,l2⟩,⟨a1,a2⟩,aD,aw,Fi,PY,ay,aE,aF,a7,hs2,aH⟩:=DD hf;subst au;have HF:=aa (Lb aw Fi PY ay aE aF a7);have RG:=aa (KJ hx Fi ay);have aW:=aa aw;have ya:=aa (An.1 aD);have HV:=aa hv;have HX:=aa hx;have aI:=aa hs2;have aJ:=aa aH;obtain⟨av,Oz,rfl,mC,TG⟩:=hv;obtain⟨ap,ac,rfl,_,_⟩:=mC.cap;obtain⟨eN,eR,rfl,_,_⟩:=TG.cap;replace mC:=aa mC;clear hf aw Fi PY ay aE aF a7 TG aD hx hs2 aH;have hA1:=ae w (.cells (Tad g a) 31);have hA2:=ae (w.alloc (.cells (Tad g a) 31)) (.cells (Tae s ap ac eN eR) 114);have RW:=b9 w (.cells (Tad g a) 31);have lj:=aa (b9 (w.alloc (.cells (Tad g a) 31)) (.cells (Tae s ap ac eN eR) 114));have CN:=aa ((hA2.block _ (aq RW)).trans RW);have HB:=aa (hA1.trans (hA2.mono hA1.size));clear hA1 hA2 RW;rw[cW]at lj;go_enter func76,ntmps76
 go_upto_region 1 with(fail);generalize AI (AI w _) _=W1 at *;generalize aX:w.1.size+1=Bs at lj ⊢;generalize aY:w.1.size=Bg at CN ⊢;have cU:=HB;clear HB aX;have s2:=mi lj.o 2 _ rfl;go_wp2_with fail;clear s2;refine(Jv s.kind x W1 HX.o).mono ?_;rintro e w2 ⟨rfl,hb2⟩;unfold Kb;have hA3:=ae w2 (.cells #[.int .i64 x.least,.int .i64 x.greatest,x.F9,.bool (x.chunk != 0),x.stale,x.log,x.pool,x.mode,x.done] 178);have Vs:=aa (b9 w2 (.cells #[.int .i64 x.least,.int .i64 x.greatest,x.F9,.bool (x.chunk != 0),x.stale,x.log,x.pool,x.mode,x.done] 178));have a5:=hb2.trans (hA3.mono hb2.size);have aK:=Zbl cU a5;have nB:=Zbk a5 lj;have LS:=Zbk a5 CN;clear hb2 hA3 a5 cU lj CN aY;go_upto_region 2 with(fail);generalize AI w2 _=W3 at *;generalize w2.1.size=Bx at Vs ⊢;have hx:=HX.o;have aL:=aK;have ag:=Vs;clear aK Vs;rcases pM hx with h|h|h|h|h|h|h|h|h|h<;>rw[h]at hx<;>injection hx with hx<;>subst hx
 all_goals(first|(rcases HF.o.m1 rfl with hm|hm)|skip)
 all_goals
  dsimp only at a1 a2;have F:=HF.o;have f1:=F.ch;simp only[Int.reduceBNe]at f1;have k2:=fj (· == (2:Int)) h;have k4:=fj (· == (4:Int)) h;simp only[Int.reduceBEq]at k2 k4;(first|(have f2:=F.st rfl;have bb:decide (0<s.stale.length)=false:=cN (by have:=of_decide_eq_false f2;omega))|skip)
  (first|(have f3:=F.lg rfl)|skip)
  (first|(have f4:=F.pl rfl)|skip)
  (first|(have f5:=F.pd rfl)|skip)
  (first|(have f6:=F.md rfl)|skip)
  (first|(have f7:=F.dn rfl)|skip)
  (first|(have p1:=F.p1 rfl;have p2:=F.p2 rfl)|skip)
  (first|(have d1:=F.d1 rfl;have d2:=F.d2 rfl)|skip)
  (first|(have m1:(s.mode != 1)=false:=by(rw[hm];rfl))|(have m1:(s.mode != 1)=true:=by(rw[hm];rfl);have m2:(s.mode != 2)=false:=by(rw[hm];rfl))|skip)
  (first|(have HM:=aa hm;clear hm)|skip)
  have t1:0<=s.length:=by omega
  (first|(have r2:s.length.tmod (s.Ga.length:Int)=0:=by(rw[NX t1];exact aI.o h);have bd:IntKind.i64.wrap (s.length.tmod (s.Ga.length:Int))=0:=by(rw[r2];rfl);have r3:((s.Ga.length:Int)==0)=false:=beq_eq_false_iff_ne.2 Tc1)|skip)
  (first|(have r4:s.length.tmod ((s.Ga.length:Int)-1)=0:=by(rw[NX t1];exact aJ.o h);have be:IntKind.i64.wrap (s.length.tmod ((s.Ga.length:Int)-1))=0:=by(rw[r4];rfl);have r5:((s.Ga.length:Int)-1==0)=false:=beq_eq_false_iff_ne.2 Tc1;have r6:IntKind.i64.wrap ((s.Ga.length:Int)-1)=(s.Ga.length:Int)-1:=dy _ Tc1)|skip)
  (first|(have bf:(s.length%(s.Ga.length:Int) != 0)=false:=by(rw[aI.o h];rfl))|skip)
  (first|(have bg:(s.length%((s.Ga.length:Int)-1) != 0)=false:=by(rw[aJ.o h];rfl))|skip)
  have bh:=aa h;clear F h;have c1:decide (s.length<1)=false:=cN (Int.not_lt.2 l1);have c2:decide ((32768:Int)<s.length)=false:=cN (Int.not_lt.2 l2);have c3:=cN (Int.not_lt.2 a1);have c4:=cN (Int.not_lt.2 a2);have sL:=mi nB.o;have GF:=aq nB.o;have e0:=aG GF (sL 0 _ rfl);have e1:=aG GF (sL 1 _ rfl);have e3:=aG GF (sL 3 _ rfl);clear sL GF;have xL:=mi ag.o;simp only[Int.reduceBNe]at xL;have vh:=aq ag.o;have y0:=aG vh (xL 0 _ rfl);have y1:=aG vh (xL 1 _ rfl);clear xL vh;(refine wp_region_quiet_lit ?_;(repeat(go_big_quiet_step ((fail))));(with_reducible refine fR ?_);intro wa aM;have a8:=dY aM;clear aM)
  clear e0 e1 e3 y0 y1;clear c1 c2 c3 c4;have ah:=Zbl aL a8;have Tx:=Zbk a8 nB;have ai:=Zbk a8 ag;have az:=Zbk a8 LS;clear a8 aL nB ag LS;go_upto_region 4 with(fail);simp only[List.append_eq,List.cons_append,List.nil_append];obtain⟨e0,e1,e2,e3,e4,e5,e6,e7,e8,e9,e10⟩:=K7 Tx.o;have xL:=mi ai.o;simp only[Int.reduceBNe]at xL;have vh:=aq ai.o;have y0:=aG vh (xL 0 _ rfl);have y1:=aG vh (xL 1 _ rfl);have y2:=aG vh (xL 2 _ rfl);have y3:=aG vh (xL 3 _ rfl);have y4:=aG vh (xL 4 _ rfl);have y5:=aG vh (xL 5 _ rfl);have y6:=aG vh (xL 6 _ rfl);have y7:=aG vh (xL 7 _ rfl);have y8:=aG vh (xL 8 _ rfl);clear xL vh;obtain⟨z0,z1,z2,z3,z4,z5,z6,z7,z8⟩:=Hr az.o;have aA:=aa fun q:fo=>bC.moves.mv (Mv.of (ah.o.trans ((dQ wa q).mono ah.o.size))) HV.o
  (first|(have aZ:=aa fun q:fo=>Kl g a s _ _ (ext wa q) (aA.o q) HX.o aW.o Tc4 he)|skip)
  have aN:=aa fun q:fo=>IQ s _ (ext wa q) (aA.o q) Tp GF RG.o
  (refine wp_region_quiet_lit ?_;(repeat(go_big_quiet_step ((first|(go_at_call 125;exact iH (aZ.o _))|(go_at_call 126;exact iH (aN.o _))))));(with_reducible refine fR ?_);intro wb aO;have a9:=dY aO;clear aO)
  clear e0 e1 e2 e3 e4 e5 e6 e7 e8 e9 e10 y0 y1 y2 y3 y4 y5 y6 y7 y8 z0 z1 z2 z3 z4 z5 z6 z7 z8;clear aN aA;have aP:=Zbl ah a9;have ak:=Zbk a9 Tx;have am:=Zbk a9 ai;have aQ:=Zbk a9 az;clear a9 ah Tx ai az;go_upto_region 6 with(fail);have sL:=mi ak.o;have GF:=aq ak.o;have e1:=aG GF (sL 1 _ rfl);have e8:=aG GF (sL 8 _ rfl);have e9:=aG GF (sL 9 _ rfl);have e10:=aG GF (sL 10 _ rfl);(first|(have hm:=HM.o;rw[hm]at e9;clear hm)|skip)
  clear sL GF;have xL:=mi am.o;simp only[Int.reduceBNe]at xL;have vh:=aq am.o;have y6:=aG vh (xL 6 _ rfl);have y7:=aG vh (xL 7 _ rfl);have y8:=aG vh (xL 8 _ rfl);clear xL vh;(refine wp_region_quiet_lit ?_;(repeat(go_big_quiet_step ((fail))));(with_reducible refine fR ?_);intro wc aR;have ab:=dY aR;clear aR)
  clear e1 e8 e9 e10 y6 y7 y8;have b8:=Zbl aP ab;have ao:=Zbk ab ak;have aS:=Zbk ab am;have RN:=Zbk ab aQ;clear ab aP ak am aQ;have Tq:=b8
  repeat(first|go_values|go_skip|go_guarded|go_step|go_upon|go_back)
  go_loopw[9] (fun i wr=>∃k:Nat,k<=s.Ga.length/\i=.int .i64 k/\Below wc.1.size wc wr) (fun i _=>s.Ga.length-(intOf i).toNat)
  exact⟨0,cg _,rfl,bj _ _⟩;obtain⟨k,hk,rfl,hB⟩:=hrel;have sL:=mi ((hB.block _ (aq ao.o)).trans ao.o);have s3:=sL 3 _ rfl;have fy:=Zbl Tq hB;by_cases hlt:k<s.Ga.length
  ·first
   |(exfalso;omega)
   |(
     obtain⟨r,hr⟩:=aj s.Ga k hlt;have ha:=ya.o r (ct hr);unfold bT at ha;simp only[eh,beq_iff_eq,tG,tz]at ha;obtain⟨aU,aC⟩:=ha;obtain⟨b,off,us,rfl,_,cX,_,eE,ON⟩:=mC.o.elem hr;obtain rfl:us=_:=eE;have cT:=fy.o.block b cX;obtain⟨q0,q1,q2⟩:=Mn cT ON;rw[aU]at q0 aC;(first|(have z0:(r.start != 0)=false:=by simpa using aC)|skip)
     have x2:=mi ((hB.block _ (aq aS.o)).trans aS.o) 2 _ rfl;have C1:Hid (∀n,Below wc.1.size wc (wr.drewN n)):=aa fun n=>aT hB n;clear ON hr hB sL cT aU aC
     go_upto_region 11 with(fail);go_quiet (fail);clear q0 q1 q2 x2 s3;go_wp2;go_roundw
     exact⟨k+1,Tc1,Tc5,C1.o _⟩;simp[intOf];omega)
  have GF:=aq ((hB.block _ (aq ao.o)).trans ao.o);have e1:=aG GF (sL 1 _ rfl);have e2:=aG GF (sL 2 _ rfl);have e3:=aG GF (sL 3 _ rfl);clear sL hB GF;go_upto_region 13 with(fail);(refine wp_region_quiet_lit ?_;(repeat(go_big_quiet_step ((fail))));(with_reducible refine fR ?_);intro wd aV;have ba:=dY aV;clear aV)
  clear e1 e2 e3;have TF:=Zbl fy ba
  repeat(first|go_values|go_skip|go_guarded|go_step|go_upon|go_back)
  go_ret;exact⟨rfl,TF.o⟩
def Ho(ok:Nat->Prop)(l:List az)(nm:ByteArray)(w:World)(e:Ending)(w':World):Prop:=∃(u:List Value) (k:Int),e=.returned (.tuple #[.agg u.toArray,k])/\aO ok w' u ((bH l nm).getD gT)/\decide (k<0)=!(bH l nm).isSome/\Below w.1.size w w'
def Tb6{p:Prop}(h:p:=by
 clear pD;go_wp2;go_round;exact⟨k+1,Tc1,Tc5,HNN.o⟩;simp[intOf];omega):p:=h
def TbY{p:Prop}(h:p:=by
 by_cases hjk:j=k
 ·subst hjk;rw[HD.o]at hD;injection hD with hD;rw[<- hD];exact pD
 exact Ty.o j D Tc1 hD):p:=h
def Tce{p:Prop}(h:p:=by
 exact(HL.o _ _ _ (HL.o _ _ _ (HL.o _ _ _ (HL.o _ _ _ (HL.o _ _ _ (HL.o _ _ _ (HL.o _ _ _ Tm.o)))))))):p:=h
def TeW{p:Prop}(h:p:=by simp[results,Tryz.results95,go_sem,r0,r1,r2,r3,r4,r5,r6]):p:=h
def Tek{p:Prop}(h:p:=by rw[TJ];exact cU.o):p:=h
def GK{ok:Nat->Prop}(g:af)(a:bN)(nm:ByteArray)(w:World)(hr:ck aO 7 ok w [.slice a.dp g.Gb.length a.dc] g.Gb)(hd:g.Gb.length<=1000000) :
  Calls prog 95 #[.agg (Tad g a),.string nm] w (Ho ok g.Gb nm w):=by
 replace hr:=aa hr;have hA1:=ae w (.cells (Tad g a) 31);have RW:=b9 w (.cells (Tad g a) 31);have hA2:=ae (w.alloc (.cells (Tad g a) 31)) (.cells Tam 51);have kc:=b9 (w.alloc (.cells (Tad g a) 31)) (.cells Tam 51);rw[cW]at kc;have o0:=aa ((hA2.block _ (aq RW)).trans RW);have yi:=aa kc;have cU:=aa (hA1.trans (hA2.mono hA1.size));clear hA1 hA2 RW kc;go_enter func95,ntmps95
 go_upto_region 2 with(fail);generalize R0:AI (AI w _) _=W1 at *;generalize Rz:w.1.size+1=Br at *;generalize TJ:w.1.size=Bg at *;have Tm:Hid (Below w.1.size w W1):=aa Tek;clear R0 cU;have g6:=cr o0.o 6 _ rfl;have rL:=cr yi.o;obtain⟨r0,r1,r2,r3,r4,r5,r6⟩:=se rL;have rf:=sr yi.o;clear rL;have hL:∀(V:World) (o:Nat) (z:Value),Below w.1.size w V->Below w.1.size w (V.setCell ⟨Br,o,none⟩ z):=fun V o z q=>q.setCell (p:=⟨Br,o,none⟩) (by show w.1.size<=Br;omega) z;have HL:=aa hL;clear hL
 go_loop[6] (fun i=>∃k:Nat,k<=g.Gb.length/\i=.int .i64 k/\∀(j:Nat) (D:az),j<k->g.Gb[j]?=some D->¬D.name=nm) (fun i=>g.Gb.length-(intOf i).toNat)
 exact⟨0,cg _,rfl,fun j D hj=>by omega⟩;obtain⟨k,hk,rfl,hno⟩:=hrel;have Ty:=aa hno;clear hno;by_cases hlt:k<g.Gb.length
 ·obtain⟨d,hv⟩:=aj g.Gb k hlt;obtain⟨b,off,u,qt,gR,cX,ez,sA,ON⟩:=hr.o.elem hv;have My:=aa sA;obtain⟨tv,rfl,ew⟩:=sA;obtain⟨tp,tc,rfl,_,_⟩:=ew.cap;clear ew;have cT:=Tm.o.block b cX;rw[qt]at g6;clear qt;obtain⟨q0,q1,q2,q3,q4,q5,q6⟩:=OD cT ON;have HD:=aa hv;clear hv;clear ON ez cT;by_cases pD:d.name=nm
  ·have e1:(d.name.toList==nm.toList)=true:=by rw[pD];simp
   have CM:Hid (bH g.Gb nm=some d):=aa (pR Ty.o HD.o pD);have Q5:=aa pD;clear pD;have Zw:Hid (∀wf:World,Below w.1.size w wf->Ho ok g.Gb nm w (.returned (.tuple #[.agg (Tai d tp tc),.int .i64 k])) wf):=aa fun wf hb =>
    ⟨[.string d.name,.int .u64 d.id,.int .i64 d.first,.int .i64 d.Gc,.bool d.closed,.bool d.missing,.slice tp d.tags.length tc],k,rfl,by rw[CM.o];exact aO.moves.mv ⟨hb.size,fun b a5 ho=>⟨ho,hb.block b a5⟩⟩ My.o,by rw[CM.o];simp,hb⟩
   go_wp2;refine eC (v:=.tuple #[.agg (Tai d tp tc),.int .i64 k]) TeW rfl (Zw.o _ ?_);exact Tce
  have e1:=jI pD;have HNN:Hid (∀(j:Nat) (D:az),j<k+1->g.Gb[j]?=some D->¬D.name=nm):=aa fun j D hj hD=>by
   exact TbY
  exact Tb6
 obtain rfl:k=g.Gb.length:=by omega
 have CM:Hid (bH g.Gb nm=none):=aa (ui Ty.o);have Zw:Hid (∀wf:World,Below w.1.size w wf->Ho ok g.Gb nm w (.returned (.tuple #[.agg Tam,.int .i64 (-1)])) wf):=aa fun wf hb =>
  ⟨[.string ⟨#[]⟩,.int .u64 0,.int .i64 0,.int .i64 0,.bool false,.bool false,.slice none 0 0],-1,rfl,by rw[CM.o];exact⟨_,rfl,ck.nil⟩,TdP,hb⟩
 go_wp2;refine eC (v:=.tuple #[.agg Tam,.int .i64 (-1)]) TeW rfl (Zw.o _ ?_);exact Tce
def al5(ok:Nat->Prop)(l:List ay)(nm:ByteArray)(w:World)(e:Ending)(w':World):Prop:=∃(u:List Value) (k:Int),e=.returned (.tuple #[.agg u.toArray,k])/\aN ok w' u ((aM l nm).getD eY)/\decide (k<0)=!(aM l nm).isSome/\Below w.1.size w w'
def Tcv{p:Prop}(h:p:=by
 exact(HL.o _ _ _ (HL.o _ _ _ (HL.o _ _ _ (HL.o _ _ _ (HL.o _ _ _ (HL.o _ _ _ Tm.o))))))):p:=h
def TeY{p:Prop}(h:p:=by simp[results,Tryz.results37,go_sem,r0,r1,r2,r3,r4,r5]):p:=h
def aj7{ok:Nat->Prop}(g:af)(a:bN)(nm:ByteArray)(w:World)(hr:ck aN 6 ok w [.slice a.vp g.F9.length a.vc] g.F9)(hd:g.F9.length<=1000000) :
  Calls prog 37 #[.agg (Tad g a),.string nm] w (al5 ok g.F9 nm w):=by
 replace hr:=aa hr;have hA1:=ae w (.cells (Tad g a) 31);have RW:=b9 w (.cells (Tad g a) 31);have hA2:=ae (w.alloc (.cells (Tad g a) 31)) (.cells Tak 68);have kc:=b9 (w.alloc (.cells (Tad g a) 31)) (.cells Tak 68);rw[cW]at kc;have o0:=aa ((hA2.block _ (aq RW)).trans RW);have yi:=aa kc;have cU:=aa (hA1.trans (hA2.mono hA1.size));clear hA1 hA2 RW kc;go_enter func37,ntmps37
 go_upto_region 2 with(fail);generalize R0:AI (AI w _) _=W1 at *;generalize Rz:w.1.size+1=Br at *;generalize TJ:w.1.size=Bg at *;have Tm:Hid (Below w.1.size w W1):=aa Tek;clear R0 cU;have g6:=cr o0.o 7 _ rfl;have rL:=cr yi.o;obtain⟨r0,r1,r2,r3,r4,r5⟩:=sv6 rL;have rf:=sr yi.o;clear rL;have hL:∀(V:World) (o:Nat) (z:Value),Below w.1.size w V->Below w.1.size w (V.setCell ⟨Br,o,none⟩ z):=fun V o z q=>q.setCell (p:=⟨Br,o,none⟩) (by show w.1.size<=Br;omega) z;have HL:=aa hL;clear hL
 go_loop[6] (fun i=>∃k:Nat,k<=g.F9.length/\i=.int .i64 k/\∀(j:Nat) (D:ay),j<k->g.F9[j]?=some D->¬D.name=nm) (fun i=>g.F9.length-(intOf i).toNat)
 exact⟨0,cg _,rfl,fun j D hj=>by omega⟩;obtain⟨k,hk,rfl,hno⟩:=hrel;have Ty:=aa hno;clear hno;by_cases hlt:k<g.F9.length
 ·obtain⟨d,hv⟩:=aj g.F9 k hlt;obtain⟨b,off,u,qt,gR,cX,ez,sA,ON⟩:=hr.o.elem hv;have My:=aa sA;obtain⟨tv,sv,rfl,ew,fL⟩:=sA;obtain⟨tp,tc,rfl,_,_⟩:=ew.cap;obtain⟨sp,sc,rfl,_,_⟩:=fL.cap;clear ew fL;have cT:=Tm.o.block b cX;rw[qt]at g6;clear qt;obtain⟨q0,q1,q2,q3,q4,q5⟩:=sw6 cT ON;have HD:=aa hv;clear hv;clear ON ez cT;by_cases pD:d.name=nm
  ·have e1:(d.name.toList==nm.toList)=true:=by rw[pD];simp
   have CM:Hid (aM g.F9 nm=some d):=aa (CW Ty.o HD.o pD);have Q5:=aa pD;clear pD;have Zw:Hid (∀wf:World,Below w.1.size w wf->al5 ok g.F9 nm w (.returned (.tuple #[.agg (Tah d tp tc sp sc),.int .i64 k])) wf):=aa fun wf hb =>
    ⟨[.string d.name,.int .u64 d.id,.bool d.hidden,.bool d.ro,.slice tp d.tags.length tc,.slice sp d.Gf.length sc],k,rfl,by rw[CM.o];exact aN.moves.mv ⟨hb.size,fun b a5 ho=>⟨ho,hb.block b a5⟩⟩ My.o,by rw[CM.o];simp,hb⟩
   go_wp2;refine eC (v:=.tuple #[.agg (Tah d tp tc sp sc),.int .i64 k]) TeY rfl (Zw.o _ ?_);exact Tcv
  have e1:=jI pD;have HNN:Hid (∀(j:Nat) (D:ay),j<k+1->g.F9[j]?=some D->¬D.name=nm):=aa fun j D hj hD=>by
   exact TbY
  exact Tb6
 obtain rfl:k=g.F9.length:=by omega
 have CM:Hid (aM g.F9 nm=none):=aa (yV Ty.o);have Zw:Hid (∀wf:World,Below w.1.size w wf->al5 ok g.F9 nm w (.returned (.tuple #[.agg Tak,.int .i64 (-1)])) wf):=aa fun wf hb =>
  ⟨[.string ⟨#[]⟩,.int .u64 0,.bool false,.bool false,.slice none 0 0,.slice none 0 0],-1,rfl,Te4,TdP,hb⟩
 go_wp2;refine eC (v:=.tuple #[.agg Tak,.int .i64 (-1)]) TeY rfl (Zw.o _ ?_);exact Tcv
def TcN{p:Prop}(h:p:=by
 have h2:=(e.block Bg vh).trans hgb;exact⟨(e.cell (p:=⟨Bs,3,none⟩) gO).trans hs3,(e.cell (p:=⟨b3,off3+k*3+1,none⟩) hb3).trans hn,cr h2 _ _ rfl,cr h2 _ _ rfl,cr h2 _ _ rfl,cr h2 _ _ rfl,cr h2 _ _ rfl,cr h2 _ _ rfl,cr h2 _ _ rfl,cr h2 _ _ rfl,cr h2 _ _ rfl⟩):p:=h
def Ten{p:Prop}(h:p:=by have:=ho.2;omega):p:=h
def TaW{p:Prop}(h:p:=by
 conv=>arg 2;whnf
 have vh:=aq hgb;have hS:∀w':World,Below w.1.size w w'->(w'.cell? (Tac Bs 3)=some (.slice (some (b3,off3)) nn ac)/\w'.cell? (b3,off3+k*3+1)=some (.string nm)/\OF w' Bg g a):=fun w' e=>by
  exact TcN
 have HS:=aa hS;clear hS;have Rj:Hid (∀W:World,Below w.1.size w W->dN (fun k=>ok k/\k<w.1.size) W g a):=aa fun W hb=>hg.mv ⟨hb.size,fun k hk ho=>⟨⟨ho,hk⟩,hb.block k hk⟩⟩
 have hC:∀W:World,Below w.1.size w W->Calls prog 37 #[.agg (Tad g a),.string nm] W fun e w'=>∃(tp:Option Addr) (tc:Nat) (sp:Option Addr) (sc:Nat) (kk:Int),e=.returned (.tuple #[.agg (Tah x tp tc sp sc),kk])/\decide (kk<0)=!Tz/\aN (fun k=>ok k/\k<w.1.size) w' [.string x.name,.int .u64 x.id,.bool x.hidden,.bool x.ro,.slice tp x.tags.length tc,.slice sp x.Gf.length sc] x/\Below W.1.size W w':=fun W hb=>by
  refine(aj7 g a nm W (dN.F9 (Rj.o W hb)) TW).mono ?_;rintro e w' ⟨u,kk,rfl,hv,OU,hb'⟩;rw[Yh]at hv;rw[N3]at OU;obtain⟨t,u,rfl,ht,hu⟩:=hv;obtain⟨tp,tc,rfl,_,_⟩:=ht.cap;obtain⟨sp,sc,rfl,_,_⟩:=hu.cap;have sA:aN _ w' _ _:=⟨_,_,rfl,ht,hu⟩;exact⟨_,_,_,_,kk,rfl,OU,sA,hb'⟩
 have HC:=aa hC;clear hC Yh N3 hg hgb hs3 hn TW Rj;refine aL (fun w'=>w'.cell? (Tac Bs 3)=some (.slice (some (b3,off3)) nn ac)/\w'.cell? (b3,off3+k*3+1)=some (.string nm)/\OF w' Bg g a) 14 [] Tc3 (HS.o _ (bj _ _).drew) (fun hHeld=>?_);refine cH hQ 0 hHeld ?_;refine cH hQ 1 hHeld ?_;refine cH hQ 2 hHeld ?_;refine cH hQ 3 hHeld ?_;refine cH hQ 4 hHeld ?_;refine cH hQ 5 hHeld ?_;refine cH hQ 6 hHeld ?_;refine mh (i:=7) (j:=11) rfl rfl rfl rfl Tc3 (fun K hK=>?_) (fun K hK=>?_)
 ·go_simp;refine(HC.o _ (bj _ _).drew).mono ?_;rintro e w1 ⟨tp,tc,sp,sc,kk,rfl,OU,hv1,hb1⟩;have HKK:=aa OU;clear OU;have hb1':Below w.1.size w w1:=⟨hb1.os,hb1.tape,hb1.output,hb1.size,hb1.block⟩;refine hK.o _ _ (HS.o _ hb1') ?_;clear hK K hHeld;have hHeld:=HS.o _ hb1';have Zx:=aa hv1;clear hv1 hb1;have cU:=aa hb1';clear hb1';refine cH hQ 8 hHeld ?_;refine cH hQ 9 hHeld ?_;refine cH hQ 10 hHeld ?_;refine lR 11 fun K hK=>?_;go_simp;have hb2:Below w.1.size w (w1.alloc (.cells Tak 68)):=cU.o.alloc cU.o.size _;refine hK.o _ _ (HS.o _ hb2) ?_;clear hK K hHeld;have gh:=b9 w1 (.cells Tak 68);have mA:=cU.o.size;have hv2:aN (fun k=>ok k/\k<w.1.size) (w1.alloc (.cells Tak 68)) [.string x.name,.int .u64 x.id,.bool x.hidden,.bool x.ro,.slice tp x.tags.length tc,.slice sp x.Gf.length sc] x:=aN.moves.mv ⟨Tc2,fun k hk ho=>⟨ho,cj _ _ _ hk⟩⟩ Zx.o;generalize hW2:World.alloc w1 _=W2 at *;generalize hb0:w1.1.size=b0 at *;clear hW2 hb0 Zx cU;have Vn:=aa hv2;clear hv2;obtain⟨zf,z0,z1,z2,z3,z4,z5⟩:=BO gh;obtain⟨sb,sk,so⟩:=zQ gh (.string x.name) (.int .u64 x.id) (.bool x.hidden) (.bool x.ro) (.slice tp x.tags.length tc) (.slice sp x.Gf.length sc) _ rfl;have cJ:=aa (sb _ _ mA hb2);have F2:=aa sk;have QW:=aa so;clear sb sk so gh;refine lR 12 fun K hK=>?_;go_simp;refine hK.o _ _ (HS.o _ cJ.o) ?_;clear hK K;refine lR 13 fun K hK=>?_;go_simp;refine hK.o _ _ (HS.o _ cJ.o) ?_;clear hK K;refine aP Tc3 rfl ?_;simp only[cQ,km,cL];exact HK.o _ _ _ _ kk b0 _ _ _ _ _ _ _ _ _ _ _ _ HKK.o cJ.o mA F2.o (aN.moves.mv ⟨Tdd,fun k hk ho=>⟨ho,QW.o k Ten⟩⟩ Vn.o)
 go_simp;have hb2:Below w.1.size w (w.drew.alloc (.cells Tak 68)):=((bj _ _).drew).alloc (bk _) _;refine hK.o _ _ (HS.o _ hb2) ?_;clear hK K hHeld;have hHeld:=HS.o _ hb2;refine lR 7 fun K hK=>?_;go_simp;refine(HC.o _ hb2).mono ?_;rintro e w1 ⟨tp,tc,sp,sc,kk,rfl,OU,hv1,hb1⟩;have HKK:=aa OU;clear OU;have hb1':Below w.1.size w w1:=hb2.trans (hb1.mono hb2.size);refine hK.o _ _ (HS.o _ hb1') ?_;clear hK K hHeld;have hHeld:=HS.o _ hb1';have gh:=(hb1.block _ Tc2).trans (b9 w.drew (.cells Tak 68));have hv2:=hv1;have mA:w.1.size<=w.1.size:=bk _;have gh:w1.1[w.1.size]?=some (.cells Tak 68 (0,0)):=gh;clear hb2;have hb2:=hb1';clear hv1 hb1 hb1';generalize w1=W2 at *;refine cH hQ 8 hHeld ?_;refine cH hQ 9 hHeld ?_;refine cH hQ 10 hHeld ?_;have Vn:=aa hv2;clear hv2;obtain⟨zf,z0,z1,z2,z3,z4,z5⟩:=BO gh;obtain⟨sb,sk,so⟩:=zQ gh (.string x.name) (.int .u64 x.id) (.bool x.hidden) (.bool x.ro) (.slice tp x.tags.length tc) (.slice sp x.Gf.length sc) _ rfl;have cJ:=aa (sb _ _ mA hb2);have F2:=aa sk;have QW:=aa so;clear sb sk so gh;refine lR 12 fun K hK=>?_;go_simp;refine hK.o _ _ (HS.o _ cJ.o) ?_;clear hK K;refine lR 13 fun K hK=>?_;go_simp;refine hK.o _ _ (HS.o _ cJ.o) ?_;clear hK K;refine aP Tc3 rfl ?_;simp only[cQ,km,cL];exact HK.o _ _ _ _ kk w.1.size _ _ _ _ _ _ _ _ _ _ _ _ HKK.o cJ.o mA F2.o (aN.moves.mv ⟨Tdd,fun k hk ho=>⟨ho,QW.o k Ten⟩⟩ Vn.o)):p:=h
def Jn{ok:Nat->Prop}(Q:Exit->Act->World->Prop){c0 c4 c7 c8 c10:Value}(w:World)(g:af)(a:bN)(Bg Bs b3 off3 k nn ac:Nat)(nm:ByteArray)(hgb:w.1[Bg]?=some (.cells (Tad g a) 31 (0,0)))(gO:Bs<w.1.size)(hs3:w.cell? (Tac Bs 3)=some (.slice (some (b3,off3)) nn ac))(a7:k<nn)(hb3:b3<w.1.size)(hn:w.cell? (b3,off3+k*3+1)=some (.string nm))
  (hg:dN ok w g a) (TW:g.F9.length<=1000000) (x:ay) (Tz:Bool) (Yh:(aM g.F9 nm).getD eY=x) (N3:(aM g.F9 nm).isSome=Tz)
  (HK:Hid (∀(tp:Option Addr) (tc:Nat) (sp:Option Addr) (sc:Nat) (kk:Int) (b:Nat) (W':World) (u21 u22 u23 u24 u25 u26 u27 u28 u29 a5 u31:Value),decide (kk<0)=!Tz->Below w.1.size w W'->w.1.size<=b->W'.1[b]?=some (.cells (Tah x tp tc sp sc) 68 (0,0))->aN (fun k=>ok k/\k<w.1.size) W' [.string x.name,.int .u64 x.id,.bool x.hidden,.bool x.ro,.slice tp x.tags.length tc,.slice sp x.Gf.length sc] x->Q .normal ⟨#[c0,c1,.pointer (some Bg),.pointer (some Bs),c4,.int .i64 (k:Int),.pointer (some b),.int .i64 kk,c8,c9,c10,TO,W0,St,Rr,RE,RK,SO,Se,Sf,To,u21,u22,u23,u24,u25,u26,u27,u28,u29,a5,u31,eS,fs,gE,ff,fi,fb,gn,iS,mx,qS,qe,nF,o4,oE,oR,qk,oS,pe,ph,pr,pt,qv,rl,rm,rn,sd,sh,ta,zd,zp,ad,am,an,ar,ax,b7,b8,ba,be,bf,bn,bo,bp,br,bt,bu,bv,bx,bA,bB,bL,ca,cc,ce,cf,ci,cl,cn,co,cu,cv,cw,cy,cB],[]⟩ W'))
  (hQ:∀c (a:Act) (d:Tmp) (v:Value) w,Q (.panic c) (a.put (some d) v) w->Q (.panic c) a w) :
  (Ai Tryz.f78 4).wp prog Q ⟨#[c0,c1,.pointer (some Bg),.pointer (some Bs),c4,.int .i64 (k:Int),c6,c7,c8,c9,c10,TO,W0,St,Rr,RE,RK,SO,Se,Sf,To,Wg,aE,Wr,ZD,UP,US,ab,ao,fa,dj,dq,eS,fs,gE,ff,fi,fb,gn,iS,mx,qS,qe,nF,o4,oE,oR,qk,oS,pe,ph,pr,pt,qv,rl,rm,rn,sd,sh,ta,zd,zp,ad,am,an,ar,ax,b7,b8,ba,be,bf,bn,bo,bp,br,bt,bu,bv,bx,bA,bB,bL,ca,cc,ce,cf,ci,cl,cn,co,cu,cv,cw,cy,cB],[]⟩ w:=by
 exact TaW
def TaX{p:Prop}(h:p:=by
 conv=>arg 2;whnf
 have vh:=aq hgb;have hS:∀w':World,Below w.1.size w w'->(w'.cell? (Tac Bs 3)=some (.slice (some (b3,off3)) nn ac)/\w'.cell? (b3,off3+k*3+1)=some (.string nm)/\OF w' Bg g a):=fun w' e=>by
  exact TcN
 have HS:=aa hS;clear hS;have Rj:Hid (∀W:World,Below w.1.size w W->dN (fun k=>ok k/\k<w.1.size) W g a):=aa fun W hb=>hg.mv ⟨hb.size,fun k hk ho=>⟨⟨ho,hk⟩,hb.block k hk⟩⟩
 have hC:∀W:World,Below w.1.size w W->Calls prog 95 #[.agg (Tad g a),.string nm] W fun e w'=>∃(tp:Option Addr) (tc:Nat) (kk:Int),e=.returned (.tuple #[.agg (Tai x tp tc),kk])/\decide (kk<0)=!Tz/\aO (fun k=>ok k/\k<w.1.size) w' [.string x.name,.int .u64 x.id,.int .i64 x.first,.int .i64 x.Gc,.bool x.closed,.bool x.missing,.slice tp x.tags.length tc] x/\Below W.1.size W w':=fun W hb=>by
  refine(GK g a nm W (dN.Gb (Rj.o W hb)) TW).mono ?_;rintro e w' ⟨u,kk,rfl,hv,OU,hb'⟩;rw[Yh]at hv;rw[N3]at OU;obtain⟨t,rfl,ht⟩:=hv;obtain⟨tp,tc,rfl,h1,h2⟩:=ht.cap;have sA:aO _ w' _ _:=⟨_,rfl,ht⟩;exact⟨_,_,kk,rfl,OU,sA,hb'⟩
 have HC:=aa hC;clear hC Yh N3 hg hgb hs3 hn TW Rj;refine aL (fun w'=>w'.cell? (Tac Bs 3)=some (.slice (some (b3,off3)) nn ac)/\w'.cell? (b3,off3+k*3+1)=some (.string nm)/\OF w' Bg g a) 14 [] Tc3 (HS.o _ (bj _ _).drew) (fun hHeld=>?_);refine cH hQ 0 hHeld ?_;refine cH hQ 1 hHeld ?_;refine cH hQ 2 hHeld ?_;refine cH hQ 3 hHeld ?_;refine cH hQ 4 hHeld ?_;refine cH hQ 5 hHeld ?_;refine cH hQ 6 hHeld ?_;refine mh (i:=7) (j:=11) rfl rfl rfl rfl Tc3 (fun K hK=>?_) (fun K hK=>?_)
 ·go_simp;refine(HC.o _ (bj _ _).drew).mono ?_;rintro e w1 ⟨tp,tc,kk,rfl,OU,hv1,hb1⟩;have HKK:=aa OU;clear OU;have hb1':Below w.1.size w w1:=⟨hb1.os,hb1.tape,hb1.output,hb1.size,hb1.block⟩;refine hK.o _ _ (HS.o _ hb1') ?_;clear hK K hHeld;have hHeld:=HS.o _ hb1';have Zx:=aa hv1;clear hv1 hb1;have cU:=aa hb1';clear hb1';refine cH hQ 8 hHeld ?_;refine cH hQ 9 hHeld ?_;refine cH hQ 10 hHeld ?_;refine lR 11 fun K hK=>?_;go_simp;have hb2:Below w.1.size w (w1.alloc (.cells Tam 51)):=cU.o.alloc cU.o.size _;refine hK.o _ _ (HS.o _ hb2) ?_;clear hK K hHeld;have gh:=b9 w1 (.cells Tam 51);have mA:=cU.o.size;have hv2:aO (fun k=>ok k/\k<w.1.size) (w1.alloc (.cells Tam 51)) [.string x.name,.int .u64 x.id,.int .i64 x.first,.int .i64 x.Gc,.bool x.closed,.bool x.missing,.slice tp x.tags.length tc] x:=aO.moves.mv ⟨Tc2,fun k hk ho=>⟨ho,cj _ _ _ hk⟩⟩ Zx.o;generalize hW2:World.alloc w1 _=W2 at *;generalize hb0:w1.1.size=b0 at *;clear hW2 hb0 Zx cU;have Vn:=aa hv2;clear hv2;obtain⟨zf,z0,z1,z2,z3,z4,z5,z6⟩:=Gq gh;obtain⟨sb,sk,so⟩:=CR gh (.string x.name) (.int .u64 x.id) (.int .i64 x.first) (.int .i64 x.Gc) (.bool x.closed) (.bool x.missing) (.slice tp x.tags.length tc) _ rfl;have cJ:=aa (sb _ _ mA hb2);have F2:=aa sk;have QW:=aa so;clear sb sk so gh;refine lR 12 fun K hK=>?_;go_simp;refine hK.o _ _ (HS.o _ cJ.o) ?_;clear hK K;refine lR 13 fun K hK=>?_;go_simp;refine hK.o _ _ (HS.o _ cJ.o) ?_;clear hK K;refine aP Tc3 rfl ?_;simp only[cQ,km,cL];exact HK.o _ _ kk b0 _ _ _ _ _ _ _ _ _ _ _ _ HKK.o cJ.o mA F2.o (aO.moves.mv ⟨Tdd,fun k hk ho=>⟨ho,QW.o k Ten⟩⟩ Vn.o)
 go_simp;have hb2:Below w.1.size w (w.drew.alloc (.cells Tam 51)):=((bj _ _).drew).alloc (bk _) _;refine hK.o _ _ (HS.o _ hb2) ?_;clear hK K hHeld;have hHeld:=HS.o _ hb2;refine lR 7 fun K hK=>?_;go_simp;refine(HC.o _ hb2).mono ?_;rintro e w1 ⟨tp,tc,kk,rfl,OU,hv1,hb1⟩;have HKK:=aa OU;clear OU;have hb1':Below w.1.size w w1:=hb2.trans (hb1.mono hb2.size);refine hK.o _ _ (HS.o _ hb1') ?_;clear hK K hHeld;have hHeld:=HS.o _ hb1';have gh:=(hb1.block _ Tc2).trans (b9 w.drew (.cells Tam 51));have hv2:=hv1;have mA:w.1.size<=w.1.size:=bk _;have gh:w1.1[w.1.size]?=some (.cells Tam 51 (0,0)):=gh;clear hb2;have hb2:=hb1';clear hv1 hb1 hb1';generalize w1=W2 at *;refine cH hQ 8 hHeld ?_;refine cH hQ 9 hHeld ?_;refine cH hQ 10 hHeld ?_;have Vn:=aa hv2;clear hv2;obtain⟨zf,z0,z1,z2,z3,z4,z5,z6⟩:=Gq gh;obtain⟨sb,sk,so⟩:=CR gh (.string x.name) (.int .u64 x.id) (.int .i64 x.first) (.int .i64 x.Gc) (.bool x.closed) (.bool x.missing) (.slice tp x.tags.length tc) _ rfl;have cJ:=aa (sb _ _ mA hb2);have F2:=aa sk;have QW:=aa so;clear sb sk so gh;refine lR 12 fun K hK=>?_;go_simp;refine hK.o _ _ (HS.o _ cJ.o) ?_;clear hK K;refine lR 13 fun K hK=>?_;go_simp;refine hK.o _ _ (HS.o _ cJ.o) ?_;clear hK K;refine aP Tc3 rfl ?_;simp only[cQ,km,cL];exact HK.o _ _ kk w.1.size _ _ _ _ _ _ _ _ _ _ _ _ HKK.o cJ.o mA F2.o (aO.moves.mv ⟨Tdd,fun k hk ho=>⟨ho,QW.o k Ten⟩⟩ Vn.o)):p:=h
def Jr{ok:Nat->Prop}(Q:Exit->Act->World->Prop){c0 c4 c7 c8 c10:Value}(w:World)(g:af)(a:bN)(Bg Bs b3 off3 k nn ac:Nat)(nm:ByteArray)(hgb:w.1[Bg]?=some (.cells (Tad g a) 31 (0,0)))(gO:Bs<w.1.size)(hs3:w.cell? (Tac Bs 3)=some (.slice (some (b3,off3)) nn ac))(a5:k<nn)(hb3:b3<w.1.size)(hn:w.cell? (b3,off3+k*3+1)=some (.string nm))
  (hg:dN ok w g a) (TW:g.Gb.length<=1000000) (x:az) (Tz:Bool) (Yh:(bH g.Gb nm).getD gT=x) (N3:(bH g.Gb nm).isSome=Tz)
  (HK:Hid (∀(tp:Option Addr) (tc:Nat) (kk:Int) (b:Nat) (W':World) (u32 u33 u34 u35 u36 u37 u38 u39 u40 u41 u42:Value),decide (kk<0)=!Tz->Below w.1.size w W'->w.1.size<=b->W'.1[b]?=some (.cells (Tai x tp tc) 51 (0,0))->aO (fun k=>ok k/\k<w.1.size) W' [.string x.name,.int .u64 x.id,.int .i64 x.first,.int .i64 x.Gc,.bool x.closed,.bool x.missing,.slice tp x.tags.length tc] x->Q .normal ⟨#[c0,c1,.pointer (some Bg),.pointer (some Bs),c4,.int .i64 (k:Int),c6,c7,.pointer (some b),.int .i64 kk,c10,TO,W0,St,Rr,RE,RK,SO,Se,Sf,To,Wg,aE,Wr,ZD,UP,US,ab,ao,fa,dj,dq,u32,u33,u34,u35,u36,u37,u38,u39,u40,u41,u42,nF,o4,oE,oR,qk,oS,pe,ph,pr,pt,qv,rl,rm,rn,sd,sh,ta,zd,zp,ad,am,an,ar,ax,b7,b8,ba,be,bf,bn,bo,bp,br,bt,bu,bv,bx,bA,bB,bL,ca,cc,ce,cf,ci,cl,cn,co,cu,cv,cw,cy,cB],[]⟩ W'))
  (hQ:∀c (a:Act) (d:Tmp) (v:Value) w,Q (.panic c) (a.put (some d) v) w->Q (.panic c) a w) :
  (Ai Tryz.f78 5).wp prog Q ⟨#[c0,c1,.pointer (some Bg),.pointer (some Bs),c4,.int .i64 (k:Int),c6,c7,c8,c9,c10,TO,W0,St,Rr,RE,RK,SO,Se,Sf,To,Wg,aE,Wr,ZD,UP,US,ab,ao,fa,dj,dq,eS,fs,gE,ff,fi,fb,gn,iS,mx,qS,qe,nF,o4,oE,oR,qk,oS,pe,ph,pr,pt,qv,rl,rm,rn,sd,sh,ta,zd,zp,ad,am,an,ar,ax,b7,b8,ba,be,bf,bn,bo,bp,br,bt,bu,bv,bx,bA,bB,bL,ca,cc,ce,cf,ci,cl,cn,co,cu,cv,cw,cy,cB],[]⟩ w:=by
 exact TaX
def Jk{ok:Nat->Prop}(Q:Exit->Act->World->Prop){c0 c4 c7 c8 c10:Value}(w:World)(g:af)(a:bN)(Bg Bs b3 off3 k nn ac:Nat)(nm:ByteArray)(hgb:w.1[Bg]?=some (.cells (Tad g a) 31 (0,0)))(gO:Bs<w.1.size)(hs3:w.cell? (Tac Bs 3)=some (.slice (some (b3,off3)) nn ac))(a7:k<nn)(hb3:b3<w.1.size)(hn:w.cell? (b3,off3+k*3+1)=some (.string nm))
  (hg:dN ok w g a) (TW:g.Gb.length<=1000000) (x:az) (Tz:Bool) (Yh:(bH g.Gb nm).getD gT=x) (N3:(bH g.Gb nm).isSome=Tz)
  (HK:Hid (∀(tp:Option Addr) (tc:Nat) (kk:Int) (b:Nat) (W':World) (u22 u23 u24 u25 u26 u27 u28 u29 a5 u31 u32:Value),decide (kk<0)=!Tz->Below w.1.size w W'->w.1.size<=b->W'.1[b]?=some (.cells (Tai x tp tc) 51 (0,0))->aO (fun k=>ok k/\k<w.1.size) W' [.string x.name,.int .u64 x.id,.int .i64 x.first,.int .i64 x.Gc,.bool x.closed,.bool x.missing,.slice tp x.tags.length tc] x->Q .normal ⟨#[c0,c1,.pointer (some Bg),.pointer (some Bs),c4,.int .i64 (k:Int),.pointer (some b),.int .i64 kk,c8,c9,c10,TO,W0,St,Rr,RE,RK,SO,Se,Sf,To,Wg,u22,u23,u24,u25,u26,u27,u28,u29,a5,u31,u32,fs,gE,ff,fi,fb,gn,iS,mx,qS,qe,nF,o4,oE,oR,qk,oS,pe,ph,pr,pt,qv,rl,rm,rn,sd],[]⟩ W'))
  (hQ:∀c (a:Act) (d:Tmp) (v:Value) w,Q (.panic c) (a.put (some d) v) w->Q (.panic c) a w) :
  (Ai Tryz.f79 5).wp prog Q ⟨#[c0,c1,.pointer (some Bg),.pointer (some Bs),c4,.int .i64 (k:Int),c6,c7,c8,c9,c10,TO,W0,St,Rr,RE,RK,SO,Se,Sf,To,Wg,aE,Wr,ZD,UP,US,ab,ao,fa,dj,dq,eS,fs,gE,ff,fi,fb,gn,iS,mx,qS,qe,nF,o4,oE,oR,qk,oS,pe,ph,pr,pt,qv,rl,rm,rn,sd],[]⟩ w:=by
 exact TaX
def JX{ok:Nat->Prop}(Q:Exit->Act->World->Prop){c0 c4 c5 c8 c10:Value}(w:World)(g:af)(a:bN)(Bg Bs b3 off3 k nn ac:Nat)(nm:ByteArray)(hgb:w.1[Bg]?=some (.cells (Tad g a) 31 (0,0)))(gO:Bs<w.1.size)(hs3:w.cell? (Tac Bs 3)=some (.slice (some (b3,off3)) nn ac))(a5:k<nn)(hb3:b3<w.1.size)(hn:w.cell? (b3,off3+k*3+1)=some (.string nm))
  (hg:dN ok w g a) (TW:g.F9.length<=1000000) (x:ay) (Tz:Bool) (Yh:(aM g.F9 nm).getD eY=x) (N3:(aM g.F9 nm).isSome=Tz)
  (HK:Hid (∀(tp:Option Addr) (tc:Nat) (sp:Option Addr) (sc:Nat) (kk:Int) (b:Nat) (W':World) (u32 u33 u34 u35 u36 u37 u38 u39 u40 u41 u42:Value),decide (kk<0)=!Tz->Below w.1.size w W'->w.1.size<=b->W'.1[b]?=some (.cells (Tah x tp tc sp sc) 68 (0,0))->aN (fun k=>ok k/\k<w.1.size) W' [.string x.name,.int .u64 x.id,.bool x.hidden,.bool x.ro,.slice tp x.tags.length tc,.slice sp x.Gf.length sc] x->Q .normal ⟨#[c0,c1,.pointer (some Bg),.pointer (some Bs),c4,c5,c6,.int .i64 (k:Int),.pointer (some b),.int .i64 kk,c10,TO,W0,St,Rr,RE,RK,SO,Se,Sf,To,Wg,aE,Wr,ZD,UP,US,ab,ao,fa,dj,dq,u32,u33,u34,u35,u36,u37,u38,u39,u40,u41,u42,nF,o4,oE,oR,qk,oS,pe,ph,pr,pt,qv,rl,rm,rn,sd,sh,ta,zd,zp,ad,am,an,ar,ax,b7,b8,ba,be,bf,bn,bo,bp,br,bt,bu,bv],[]⟩ W'))
  (hQ:∀c (a:Act) (d:Tmp) (v:Value) w,Q (.panic c) (a.put (some d) v) w->Q (.panic c) a w) :
  (Ai Tryz.f81 7).wp prog Q ⟨#[c0,c1,.pointer (some Bg),.pointer (some Bs),c4,c5,c6,.int .i64 (k:Int),c8,c9,c10,TO,W0,St,Rr,RE,RK,SO,Se,Sf,To,Wg,aE,Wr,ZD,UP,US,ab,ao,fa,dj,dq,eS,fs,gE,ff,fi,fb,gn,iS,mx,qS,qe,nF,o4,oE,oR,qk,oS,pe,ph,pr,pt,qv,rl,rm,rn,sd,sh,ta,zd,zp,ad,am,an,ar,ax,b7,b8,ba,be,bf,bn,bo,bp,br,bt,bu,bv],[]⟩ w:=by
 exact TaW
def pq{ok:Nat->Prop}(v:ay)(u:List Value)(w:World)(hv:aN ok w u v)(hl:v.Gf.length<=1000000000) :
  Calls prog 84 #[.agg u.toArray] w fun e w'=>e=.returned (.int .i64 (eZ v))/\Below w.1.size w w':=by
 obtain⟨tv,sv,rfl,ew,fL⟩:=hv;obtain⟨tp,tc,rfl,_,_⟩:=ew.cap;obtain⟨sp,sc,rfl,a5,a7⟩:=fL.cap;replace fL:=aa fL;have HB:=aa (ae w (.cells (Tah v tp tc sp sc) 68));by_cases h1:v.Gf.length=1
 ·obtain⟨s,hs⟩:=aj v.Gf 0 Tc1;have hk:eZ v=s.kind:=by
   exact Tct
  obtain⟨b,off,us,rfl,_,cX,ez,eE,ON⟩:=fL.o.elem hs;obtain⟨a,st,rfl,_,_⟩:=eE;have c2:=(HB.o.cell (p:=⟨b,off+0*11+2,none⟩) cX).trans (ON 2 _ rfl);rw[Nat.zero_mul,fg]at c2;clear ON ez hs;rw[hk];clear hk;have hq:((v.Gf.length:Int) != 1)=false:=by rw[h1];rfl
  have h2:0<v.Gf.length:=by omega
  have H1:=aa h1;clear h1;go_enter func84,ntmps84;exact TcJ
 have hk:eZ v=0:=by
  exact Tcj
 rw[hk];clear hk;have hq:((v.Gf.length:Int) != 1)=true:=bne_iff_ne.2 Tc1;go_enter func84,ntmps84;exact TcJ
def Jp{ok:Nat->Prop}(v:ay)(u:List Value)(w:World)(hv:aN ok w u v)(hl:v.Gf.length<=1000000000) :
  Calls prog 171 #[.agg u.toArray] w fun e w'=>e=.returned (.int .i64 (C8 v))/\Below w.1.size w w':=by
 obtain⟨tv,sv,rfl,ew,fL⟩:=hv;obtain⟨tp,tc,rfl,_,_⟩:=ew.cap;obtain⟨sp,sc,rfl,a7,a8⟩:=fL.cap;replace fL:=aa fL;have HB:=aa (ae w (.cells (Tah v tp tc sp sc) 68));have Fc:=aa (b9 w (.cells (Tah v tp tc sp sc) 68));go_enter func171,ntmps171
 go_upto_region 1 with(fail);generalize AI w _=W1 at *;generalize Qu:w.1.size=Bv at Fc ⊢;go_wp2;go_loopw[3,4] (fun n i wr=>∃k:Nat,k<=v.Gf.length/\i=.int .i64 k/\n=.int .i64 ((v.Gf.take k).foldl (fun n s=>fF n s.length) 0)/\Below W1.1.size W1 wr) (fun _ i _=>v.Gf.length-(intOf i).toNat)
 exact⟨0,cg _,rfl,rfl,bj _ _⟩;obtain⟨k,hk,rfl,rfl,a5⟩:=hrel;have hB:Hid (Below w.1.size w wr):=Zbl HB a5;have x5:=mi ((a5.block _ (aq Fc.o)).trans Fc.o) 5 _ rfl;have pB:=uZ (v.Gf.take k) 0 Tc1 Tc1;by_cases hlt:k<v.Gf.length
 ·obtain⟨s,hs⟩:=aj v.Gf k hlt;obtain⟨b,off,us,rfl,_,cX,ez,eE,ON⟩:=fL.o.elem hs;obtain⟨a,st,rfl,mC,hst⟩:=eE;obtain⟨ap,ac,rfl,_,_⟩:=mC.cap;obtain⟨eN,eR,rfl,_,_⟩:=hst.cap;have cT:wr.1[b]?=w.1[b]?:=hB.o.block b cX;have q1:=ai cT (ON 1 _ rfl);have HF:=aa (vM (fun n s=>fF n (aB.length s)) 0 v.Gf k s hs);have cm:Hid (∀n,Below W1.1.size W1 (wr.drewN n)):=aa fun n=>aT a5 n;generalize (v.Gf.take k).foldl (fun n s=>fF n (aB.length s)) 0=m at *;clear ON ez hs cT mC hst a5;go_wp2;go_roundw
  exact⟨k+1,Tc1,Tc5,by rw[HF.o];rfl,by first|exact cm.o 0|exact cm.o _⟩;simp[intOf];omega
 obtain rfl:k=v.Gf.length:=by omega
 go_wp2;go_ret;exact⟨cz (by rw[jz (bk _)];rfl),hB.o⟩
def Ar{ok:Nat->Prop}(g:af)(a:bN)(nm:ByteArray)(w:World)(hg:ck aN 6 ok w [.slice a.vp g.F9.length a.vc] g.F9)(hz:JT g) :
  Calls prog 129 #[.agg (Tad g a),.string nm] w fun e w'=>e=.returned (.int .i64 (dO g nm))/\Below w.1.size w w':=by
 have hA1:=ae w (.cells (Tad g a) 31);have RW:=b9 w (.cells (Tad g a) 31);have a8:=aa ((ck.moves aN.moves).mv (Mv.of hA1) hg);have cU:=aa hA1;have HS:=aa (Dt hz nm);have HL:Hid (dO g nm=_):=aa (dO.eq_1 g nm);have mb:=hz.vl;clear hg hA1;go_enter func129,ntmps129
 go_upto_region 1 with(fail);generalize AI w _=W1 at *;generalize hE:w.1.size=Bg at RW ⊢;have gL:=mi RW;obtain⟨g0,g1,g2,g3,g4,g5,g6,g7,g8⟩:=xr gL;clear gL;go_wp2_with fail;clear g0 g1 g2 g3 g4 g5 g6 g7 g8;refine(aj7 g a nm W1 a8.o mb).mono ?_;rintro e w2 ⟨u,kk,rfl,hv,-,hb2⟩;generalize (aM g.F9 nm).getD eY=x at *;have HV:=aa hv;obtain⟨tv,sv,rfl,ew,fL⟩:=hv;obtain⟨tp,tc,rfl,_,_⟩:=ew.cap;obtain⟨sp,sc,rfl,_,_⟩:=fL.cap;clear ew fL;have cm:=Zbl cU hb2;have pC:=ae w2 (.cells (Tah x tp tc sp sc) 68);have a5:=aa pC;have F2:=aa (b9 w2 (.cells (Tah x tp tc sp sc) 68));clear hb2 pC RW;go_upto_region 2 with(fail);generalize AI w2 _=W3 at *;generalize Yx:w2.1.size=Bx at F2 ⊢;have xL:=mi F2.o;obtain⟨x0,x1,x2,x3,x4,x5⟩:=sv6 xL;clear xL;go_wp2_with fail;clear x0 x1 x2 x3 x4 x5;refine(Jp x _ W3 (aN.moves.mv (Mv.of a5.o) HV.o) (by have:=HS.o.Gf;omega)).mono ?_;rintro e w4 ⟨rfl,a7⟩;have eI:=aa ((cm.o.trans (a5.o.mono cm.o.size)).trans (a7.mono (cm.o.trans (a5.o.mono cm.o.size)).size));clear a7;go_wp2;go_ret;exact⟨cz HL.o.symm,eI.o⟩
end Go.Proofs.YtaagglbgohjldaaGreatDoor
