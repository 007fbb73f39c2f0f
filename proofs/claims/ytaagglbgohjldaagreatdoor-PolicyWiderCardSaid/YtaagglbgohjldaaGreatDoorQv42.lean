/- Lemmas: RnB, RgA. -/
import Derived.Test.YtaagglbgohjldaaGreatDoorQv41
set_option maxRecDepth 100000
set_option maxHeartbeats 32000000
set_option linter.all false
namespace Go.Proofs.YtaagglbgohjldaaGreatDoor
open Go.Proofs.Tryz
open Go.RowKit Go.Shelf
variable {p l x:List UInt8}
theorem KE:(List.range 256).all (fun n=>(kT vF (UInt8.ofNat n) == DV [95,46,43,45] (UInt8.ofNat n))&&(kT zB (UInt8.ofNat n) == DV [95,46,43,45,47,61,58] (UInt8.ofNat n)))=true:=by kernel_rfl
theorem Jm (c:UInt8):kT vF c=DV [95,46,43,45] c/\kT zB c=DV [95,46,43,45,47,61,58] c:=by
 have h:=List.all_eq_true.1 KE c.toNat (List.mem_range.2 (UInt8.toNat_lt c));rw [UInt8.ofNat_toNat,eh,beq_iff_eq,beq_iff_eq] at h;exact h
theorem JK (a b:UInt8):(a == b)=(a.toNat == b.toNat):=by
 rw [mN,beq_iff_eq,beq_iff_eq,UInt8.toNat_inj]
theorem J9 (s:ByteArray):Ht s ⟨#[95,46,43,45]⟩ ⟨#[45,46]⟩ 40=qA s:=by
 unfold Ht qA wS;have h1:s.data.toList.all (DV (⟨#[95,46,43,45]⟩:ByteArray).data.toList)=s.data.toList.all (kT vF):=by
  congr 1
  funext c
  exact (Jm c).1.symm
 have h2:inL (s.data.toList.headD 0) (⟨#[45,46]⟩:ByteArray).data.toList=((lI s).toNat == 45||(lI s).toNat == 46):=by
  show (((45:UInt8) == lI s)||(((46:UInt8) == lI s)||false))=_;rw [JK,JK,Bool.or_false];congr 1 <;> (rw [mN,beq_iff_eq,beq_iff_eq];exact ⟨fun h=>h.symm,fun h=>h.symm⟩)
 rw [h1,h2];have h3:decide (1<=s.size)=decide (0<s.size):=rfl;have h4:decide ((s.size:Int)<=40)=decide (s.size<=40):=decide_eq_decide.2 TcC;rw [h3,h4];cases (lI s).toNat == 45 <;> cases (lI s).toNat == 46 <;> cases s.data.toList.all (kT vF) <;> simp
theorem KM (s:ByteArray):Ht s ⟨#[95,46,43,45,47,61,58]⟩ ⟨#[45]⟩ 24=mr s:=by
 unfold Ht mr wS;have h1:s.data.toList.all (DV (⟨#[95,46,43,45,47,61,58]⟩:ByteArray).data.toList)=s.data.toList.all (kT zB):=by
  congr 1
  funext c
  exact (Jm c).2.symm
 have h2:inL (s.data.toList.headD 0) (⟨#[45]⟩:ByteArray).data.toList=((lI s).toNat == 45):=by
  show (((45:UInt8) == lI s)||false)=_;rw [JK,Bool.or_false];rw [mN,beq_iff_eq,beq_iff_eq];exact ⟨fun h=>h.symm,fun h=>h.symm⟩
 rw [h1,h2];have h3:decide (1<=s.size)=decide (0<s.size):=rfl;have h4:decide ((s.size:Int)<=24)=decide (s.size<=24):=decide_eq_decide.2 TcC;rw [h3,h4];cases (lI s).toNat == 45 <;> cases s.data.toList.all (kT zB) <;> simp
theorem Tb4 {p:Prop}(h:p:=by
 go_wp2_with fail;refine HC.o.mono ?_;rintro e w' ⟨rfl,rfl⟩;go_wp2;go_ret;exact ⟨rfl,rfl⟩):p:=h
theorem J6 (s:ByteArray)(w:World)(hs:s.size<=9223372036854775807) :
  Calls prog 169 #[.string s] w fun e w'=>e=.returned (.bool (qA s))/\w=w':=by
 have HC:=aa (G9 s ⟨#[95,46,43,45]⟩ ⟨#[45,46]⟩ 40 w hs TcF TcF);rw [J9] at HC;go_enter func169,ntmps169
 exact Tb4
theorem Jz (s:ByteArray)(w:World)(hs:s.size<=9223372036854775807) :
  Calls prog 38 #[.string s] w fun e w'=>e=.returned (.bool (mr s))/\w=w':=by
 have HC:=aa (G9 s ⟨#[95,46,43,45,47,61,58]⟩ ⟨#[45]⟩ 24 w hs TcF TcF);rw [KM] at HC;go_enter func38,ntmps38
 exact Tb4
def JL:List (List UInt8):=[[95,108,101,103,48],[95,108,101,103,49],[95,108,101,103,50],[95,108,101,103,51],[95,108,101,103,52],[95,108,101,103,53],[95,108,101,103,54],[95,108,101,103,55]]
def IM:List (List UInt8):=nV++JL
def KW (l:List UInt8):Option (List UInt8):=(IM.find? fun p=>Lib.hasSuffix l p).map fun p=>l.take (l.length - p.length)
theorem Jy (h:p∈JL):∃ d:UInt8,p=xg++[d]/\48<=d.toNat/\d.toNat<=55:=by
 simp only [JL,dr,cY,dg] at h;rcases h with rfl | rfl | rfl | rfl | rfl | rfl | rfl | rfl <;> exact ⟨_,rfl,TcF,TcF⟩
theorem KR {d:UInt8}(h1:48<=d.toNat)(h2:d.toNat<=55):xg++[d]∈JL:=by
 have h:(List.range 256).all (fun n=>!(decide (48<=n)&&decide (n<=55))||JL.contains (xg++[UInt8.ofNat n]))=true:=by kernel_rfl
 have:=List.all_eq_true.1 h d.toNat (List.mem_range.2 (UInt8.toNat_lt d));rw [UInt8.ofNat_toNat,eA h1,eA h2] at this;simpa using this
theorem Jh (a b:List UInt8)(d x:UInt8):Lib.hasSuffix (b++[x]) (a++[d])=true↔d=x/\Lib.hasSuffix b a=true:=by
 show (a++[d]).isSuffixOf (b++[x])=true↔d=x/\a.isSuffixOf b=true;rw [List.isSuffixOf_iff_suffix,List.isSuffixOf_iff_suffix];constructor
 ·rintro ⟨t,ht⟩;rw [<- cV] at ht;obtain ⟨h1,h2⟩:=List.append_inj' ht rfl;exact ⟨by simpa using h2,t,h1⟩
 rintro ⟨rfl,t,rfl⟩;exact ⟨t,TcD⟩
theorem KY (a:List UInt8)(d:UInt8):Lib.hasSuffix [] (a++[d])=false:=by
 cases h:Lib.hasSuffix [] (a++[d]) with
 | false=>rfl
 | true =>
  obtain ⟨t,ht⟩:=List.isSuffixOf_iff_suffix.1 h;simp at ht
theorem J4 (l:List UInt8):KW l=jr l:=by
 unfold KW jr IM;rw [tD];cases hs:nV.find? fun p=>Lib.hasSuffix l p with
 | some p=>rfl
 | none =>
  rw [Option.none_or];rcases List.eq_nil_or_concat l with rfl | ⟨b,x,rfl⟩
  ·rw [bh TcD,List.find?_eq_none.2 fun p hp=>?_]
   ·rfl
   obtain ⟨d,rfl,-⟩:=Jy hp;rw [KY];decide
  rw [List.concat_eq_append];have e1:(b++[x]).getLastD 0=x:=by simp
  have e2:(b++[x]).dropLast=b:=by simp
  rw [e1,e2];cases hl:JL.find? fun p=>Lib.hasSuffix (b++[x]) p with
  | none =>
   rw [bh]
   ·rfl
   rintro ⟨-,h1,h2,h3⟩;exact absurd ((Jh xg b x x).2 ⟨rfl,h3⟩) (List.find?_eq_none.1 hl _ (KR h1 h2))
  | some p =>
   obtain ⟨d,rfl,h1,h2⟩:=Jy (eV hl);obtain ⟨rfl,h3⟩:=(Jh xg b d x).1 (by simpa using List.find?_some hl);rw [aw ⟨TcD,h1,h2,h3⟩];have h4:4<=b.length:=(List.isSuffixOf_iff_suffix.1 h3).length_le;show some ((b++[d]).take _)=_;rw [List.take_append_of_le_length (by simp [xg])];congr 2
   simp [xg]
theorem KL (h:p∈IM):p.length<=6:=by
 simp only [IM,JL,nV,List.cons_append,List.nil_append,dr,cY,dg] at h;rcases h with rfl | rfl | rfl | rfl | rfl | rfl | rfl | rfl | rfl | rfl | rfl | rfl <;> decide
def K3 (s:ByteArray)(w:World)(e:Ending)(w':World):Prop:=∃ r:List UInt8,e=.returned (.tuple #[.string ⟨r.toArray⟩,.bool (jr s.data.toList).isSome])/\(∀ x,jr s.data.toList=some x->r=x)/\Below w.heap.size w w'
def Taw :Tab #[.string ⟨#[95,108,111,103]⟩,.string ⟨#[95,100,97,116,97]⟩,.string ⟨#[95,109,101,116,97]⟩,.string ⟨#[95,115,112,97,114,101]⟩,.string ⟨#[95,108,101,103,48]⟩,.string ⟨#[95,108,101,103,49]⟩,.string ⟨#[95,108,101,103,50]⟩,.string ⟨#[95,108,101,103,51]⟩,.string ⟨#[95,108,101,103,52]⟩,.string ⟨#[95,108,101,103,53]⟩,.string ⟨#[95,108,101,103,54]⟩,.string ⟨#[95,108,101,103,55]⟩]:=⟨⟩
theorem Iw (s:ByteArray)(w:World)(hs:s.size<=9223372036854775807) :
  Calls prog 168 #[.string s] w (K3 s w):=by
 have hA:=ae w (.cells (IM.map fun p=>Value.string ⟨p.toArray⟩).toArray 9);have hN:=b9 w (.cells (IM.map fun p=>Value.string ⟨p.toArray⟩).toArray 9);have ld:=aa (show (w.alloc (.cells Taw 9)).heap[w.heap.size]?=some (.cells (IM.map fun p=>Value.string ⟨p.toArray⟩).toArray 9 (0,0)) from hN);have HB:=aa (show Below w.heap.size w (w.alloc (.cells Taw 9)) from hA);clear hA hN;go_enter func168,ntmps168;go_wp2;generalize hW1:World.alloc w _=W1 at *;generalize hBs:w.heap.size=Bs at *;clear hW1
 go_loopw [5,6] (fun i _ wr=>∃ k:Nat,k<=12/\i=.int .i64 k/\(∀ j p,j<k->IM[j]?=some p->Lib.hasSuffix s.data.toList p=false)/\Below W1.heap.size W1 wr) (fun i _ _=>12 - (intOf i).toNat)
 exact ⟨0,cg _,rfl,fun j p hj=>by omega,bj _ _⟩;obtain ⟨k,hk,rfl,hno,hb⟩:=hrel;have Ty:=aa hno;clear hno;have fy:=aa (HB.o.trans (hb.mono (by have:=HB.o.size;omega)));have Fc:=aa hb;have HNW:=Zbk hb ld;clear hb;by_cases hlt:k<12
 ·obtain ⟨p,hp⟩:=aj IM k hlt;have hc:wr.cell? (Bs,k)=some (.string ⟨p.toArray⟩):=by
   simp only [World.cell?,HNW.o];simp [hp]
  have hpl:=KL (ct hp);have HP:=aa hp;clear hp;have CH:(⟨p.toArray⟩:ByteArray).size=p.length:=rfl;have aw9:=aa (Lib.hasSuffix_raw s ⟨p.toArray⟩);have hpd:Hid ((⟨p.toArray⟩:ByteArray).data.toList=p):=aa rfl;generalize Un:(⟨p.toArray⟩:ByteArray)=pb at *;clear Un;have hw:IntKind.i64.wrap ((s.size:Int) - (p.length:Int))=(s.size:Int) - (p.length:Int):=dy _ TcC;have al8:Hid (Lib.hasSuffix s.data.toList p=false->∀ j q,j<k+1->IM[j]?=some q->Lib.hasSuffix s.data.toList q=false):=aa fun h j q hj hq=>by
   by_cases hjk:j=k
   ·subst hjk;rw [HP.o] at hq;cases hq
    exact h
   exact Ty.o j q TcC hq
  have aw3:Hid (Lib.hasSuffix s.data.toList p=true->jr s.data.toList=some (s.data.toList.take (s.data.toList.length - p.length))):=aa fun h=>by
   have hf:(IM.find? fun p=>Lib.hasSuffix s.data.toList p)=some p:=by
    rw [List.find?_eq_some_iff_getElem];obtain ⟨hk4,ZU⟩:=List.getElem?_eq_some_iff.1 HP.o;refine ⟨h,k,hk4,ZU,fun j hj=>?_⟩;rw [Ty.o j _ hj (lO TcC)];rfl
   rw [<- J4,KW,hf];rfl
  rw [hpd.o] at aw9;clear hpd;by_cases hle:p.length<=s.size
  ·have hg:decide ((s.size:Int) - (p.length:Int) ≥ 0)=true:=eA TcC;have hx1:((s.size:Int) - (p.length:Int)).toNat=s.size - p.length:=by omega
   have Yh:((s.extract (s.size - p.length) s.size).toList == pb.toList)=Lib.hasSuffix s.data.toList p:=by
    rw [<- aw9.o,CH,eA hle,Bool.true_and]
   cases MO:Lib.hasSuffix s.data.toList p with
   | true =>
    rw [MO] at Yh;have HT:=aa (aw3.o MO);have Ss:=aa (Lib.extract_eq s 0 (s.size - p.length));clear MO aw3 al8;go_upto_region 6 with (fail);go_quiet (fail);clear Yh hg hc;have LX:Hid (∀ n,Below Bs w (wr.drewN n)):=aa fun n=>aT fy.o n;go_wp2;go_ret2;refine ⟨s.data.toList.take (s.data.toList.length - p.length),?_,fun x hx=>?_,?_⟩
    ·rw [HT.o,Ss.o];simp
    ·rw [HT.o] at hx;exact gj hx
    rw [hBs];exact LX.o _
   | false =>
    rw [MO] at Yh;have HT:=aa (al8.o MO);clear MO aw3 al8;go_upto_region 6 with (fail);go_quiet (fail);clear Yh hg hc;have LX:Hid (∀ n,Below W1.heap.size W1 (wr.drewN n)):=aa fun n=>aT Fc.o n;go_wp2;go_roundw
    exact ⟨k+1,TcC,TcG,HT.o,LX.o _⟩;simp [intOf];omega
  have hg:decide ((s.size:Int) - (p.length:Int) ≥ 0)=false:=cN TcC;have HT:=aa (al8.o (by rw [<- aw9.o,CH,cN hle,Bool.false_and]));clear aw3 al8;go_upto_region 6 with (fail);go_quiet (fail);clear hg hc;have LX:Hid (∀ n,Below W1.heap.size W1 (wr.drewN n)):=aa fun n=>aT Fc.o n;go_wp2;go_roundw
  exact ⟨k+1,TcC,TcG,HT.o,LX.o _⟩;simp [intOf];omega
 obtain rfl:k=12:=by omega
 have HT:Hid (jr s.data.toList=none):=aa (by
  rw [<- J4,KW,List.find?_eq_none.2 fun p hp=>?_]
  ·rfl
  obtain ⟨j,hj⟩:=fc hp;rw [Ty.o j p (List.getElem?_eq_some_iff.1 hj).1 hj];decide)
 go_wp2;go_ret2;exact (show K3 s w _ _ from ⟨[],by rw [HT.o];rfl,(fun x hx=>by rw [HT.o] at hx;cases hx),by rw [hBs];exact fy.o⟩)
theorem yh (s:ByteArray)(w:World)(hs:s.size<=9223372036854775807) :
  Calls prog 121 #[.string s] w fun e w'=>e=.returned (.bool (jo s))/\Below w.heap.size w w':=by
 go_enter func121,ntmps121
 go_wp2_with fail;refine (Iw s _ hs).mono ?_;rintro e w1 ⟨r,rfl,_,hb1⟩;have cU:=aa hb1;clear hb1;go_wp2_with fail;refine (J6 s _ hs).mono ?_;rintro e w2 ⟨rfl,rfl⟩;exact Ta5
theorem Jb (h:jr l=none):zH ⟨l.toArray⟩=false:=by
 unfold zH;rw [show (⟨l.toArray⟩:ByteArray).data.toList=l from rfl,yc h];rfl
theorem J7 (h:jr l=some x):jo ⟨l.toArray⟩=false:=by
 unfold jo;rw [show (⟨l.toArray⟩:ByteArray).data.toList=l from rfl,h];simp
theorem Ke (h:jr l=some x):zH ⟨l.toArray⟩=(decide (l.length<=40)&&(jo ⟨x.toArray⟩||zH ⟨x.toArray⟩)):=by
 have hlt:=pU h;have e1:zH ⟨l.toArray⟩=(decide (l.length<=40)&&jo ⟨(gu x).1.toArray⟩):=by
  unfold zH;rw [show (⟨l.toArray⟩:ByteArray).data.toList=l from rfl,zI h,eA TcD,Bool.true_and];rfl
 rw [e1];by_cases h40:l.length<=40
 ·rw [eA h40,Bool.true_and,Bool.true_and]
  cases hx:jr x with
  | none =>
   rw [Jb hx,Bool.or_false,yc hx]
  | some y =>
   rw [J7 hx,nj];unfold zH;rw [show (⟨x.toArray⟩:ByteArray).data.toList=x from rfl,eA (show (⟨x.toArray⟩:ByteArray).size<=40 from (by show x.length<=40;omega)),Bool.and_true,zI hx,eA (show 0<(gu y).2+1 by omega),Bool.true_and]
 rw [cN h40,Bool.false_and,Bool.false_and]
theorem Hm (f:Nat):∀ (l:List UInt8) (w:World),l.length<=f->l.length<=9223372036854775807 ->
  Calls prog 123 #[.string ⟨l.toArray⟩] w fun e w'=>e=.returned (.bool (zH ⟨l.toArray⟩))/\Below w.heap.size w w':=by
 induction f with
 | zero =>
  intro l w hf hs;obtain rfl:=fX (Nat.le_zero.1 hf);go_enter func123,ntmps123
  go_wp2_with fail;refine (Iw ⟨([]:List UInt8).toArray⟩ _ TcF).mono ?_;rintro e w1 ⟨r,rfl,_,hb1⟩;have cU:=aa hb1;clear hb1;have hc:(jr (⟨([]:List UInt8).toArray⟩:ByteArray).data.toList).isSome=false:=by decide
  rw [hc];clear hc;go_wp2;go_ret;exact ⟨rfl,cU.o⟩
 | succ f ih =>
  intro l w hf hs;have IH:=aa ih;clear ih;go_enter func123,ntmps123
  go_wp2_with fail;refine (Iw ⟨l.toArray⟩ _ hs).mono ?_;rintro e w1 ⟨r,rfl,hr,hb1⟩;have cU:=aa hb1;clear hb1;generalize hcb:(jr (⟨l.toArray⟩:ByteArray).data.toList).isSome=cb at *;cases hc:jr l with
  | none =>
   obtain rfl:false=cb:=by rw [<- hcb];show false=(jr l).isSome;rw [hc];rfl
   have HF:=aa (Jb hc);clear hc hcb hr;go_wp2;go_ret;exact ⟨ah HF.o.symm,cU.o⟩
  | some x =>
   obtain rfl:true=cb:=by rw [<- hcb];show true=(jr l).isSome;rw [hc];rfl
   obtain rfl:=hr x hc;have HF:=aa (Ke hc);have hlt:=pU hc;clear hc hcb hr;have hsz:(⟨l.toArray⟩:ByteArray).size=l.length:=rfl;have Qc:Hid (∀ b:Bool,b=zH ⟨l.toArray⟩->Value.bool b=Value.bool (zH ⟨l.toArray⟩)):=aa fun b h=>by rw [h]
   by_cases h40:l.length<=40
   ·rw [eA h40,Bool.true_and] at HF;have hd:decide ((l.length:Int)<=40)=true:=eA TcC;go_wp2_with fail;refine (yh ⟨r.toArray⟩ _ (by show r.length<=_;omega)).mono ?_;rintro e w2 ⟨rfl,hb2⟩;have cm:=Zbl cU hb2;clear hb2;cases hv:jo ⟨r.toArray⟩ with
    | true =>
     rw [hv] at HF;clear hv;go_wp2;go_ret;exact ⟨ah HF.o.symm,cm.o⟩
    | false =>
     rw [hv] at HF;clear hv;go_wp2_with fail;refine (IH.o r _ TcC TcC).mono ?_;rintro e w3 ⟨rfl,hb3⟩;have cJ:=Zbl cm hb3;clear hb3;rw [nj] at HF;rw [<- HF.o];go_wp2;go_ret;exact ⟨rfl,cJ.o⟩
   rw [cN h40] at HF;have hd:decide ((l.length:Int)<=40)=false:=cN TcC;go_wp2;go_ret;exact ⟨ah HF.o.symm,cU.o⟩
def IU (l vd:List UInt8)(ok:Bool):List UInt8 × Int :=
 if jo ⟨l.toArray⟩=false/\zH ⟨l.toArray⟩=false then ([],10) else if ok=false then ([],1) else if 40<l.length+vd.length then ([],4) else (l++vd,0)
theorem TeD {p:Prop}(h:p:=by rw [HX.o];exact fj (fun s=>Ending.returned (.tuple #[.string s,.int .i64 0])) YH.o):p:=h
theorem G7 (l vd:List UInt8)(ok:Bool)(w:World)(hs:l.length<=1000000000)(MO:vd.length<=100) :
  Calls prog 170 #[.string ⟨l.toArray⟩,.string ⟨vd.toArray⟩,.bool ok] w fun e w'=>e=.returned (.tuple #[.string ⟨(IU l vd ok).1.toArray⟩,.int .i64 (IU l vd ok).2])/\Below w.heap.size w w':=by
 have HA:Hid (IU l vd ok=_):=aa (IU.eq_1 l vd ok);have hz1:(⟨l.toArray⟩:ByteArray).size=l.length:=rfl;have hz2:(⟨vd.toArray⟩:ByteArray).size=vd.length:=rfl;have YH:=aa (sQ l vd);have CI:Hid (∀ (K:Prop),¬ (jo ⟨l.toArray⟩=false/\zH ⟨l.toArray⟩=false)->(IU l vd ok=if ok=false then ([],1) else if 40<l.length+vd.length then ([],4) else (l++vd,0))):=aa fun _ h=>by rw [HA.o,bh h]
 go_enter func170,ntmps170
 go_wp2_with fail;refine (yh ⟨l.toArray⟩ _ (by show l.length<=_;omega)).mono ?_;rintro e w1 ⟨rfl,hb1⟩;have cU:=aa hb1;clear hb1;cases hv:jo ⟨l.toArray⟩ with
 | false =>
  go_wp2_with fail;refine (Hm l.length l _ (bk _) TcC).mono ?_;rintro e w2 ⟨rfl,hb2⟩;have cm:=Zbl cU hb2;clear hb2;cases hh:zH ⟨l.toArray⟩ with
  | false =>
   have HX:Hid (IU l vd ok=([],10)):=aa (by rw [HA.o,aw ⟨hv,hh⟩]);clear hv hh;go_wp2;go_ret2;exact ⟨Tdd,cm.o⟩
  | true =>
   have HX:=aa (CI.o True (fun q=>by rw [hh] at q;cases q.2));clear hv hh;cases ok with
   | false =>
    go_wp2;go_ret2;exact ⟨Tdd,cm.o⟩
   | true =>
    rw [bh TcF] at HX;by_cases h40:40<l.length+vd.length
    ·rw [aw h40] at HX;have hd:decide (40<(l.length:Int)+(vd.length:Int))=true:=eA TcC;go_wp2;go_ret2;exact ⟨Tdd,cm.o⟩
    rw [bh h40] at HX;have hd:decide (40<(l.length:Int)+(vd.length:Int))=false:=cN TcC;go_wp2;go_ret2;exact ⟨TeD,cm.o⟩
 | true =>
  have HX:=aa (CI.o True (fun q=>by rw [hv] at q;cases q.1));clear hv;cases ok with
  | false =>
   go_wp2;go_ret2;exact ⟨Tdd,cU.o⟩
  | true =>
   rw [bh TcF] at HX;by_cases h40:40<l.length+vd.length
   ·rw [aw h40] at HX;have hd:decide (40<(l.length:Int)+(vd.length:Int))=true:=eA TcC;go_wp2;go_ret2;exact ⟨Tdd,cU.o⟩
   rw [bh h40] at HX;have hd:decide (40<(l.length:Int)+(vd.length:Int))=false:=cN TcC;go_wp2;go_ret2;exact ⟨TeD,cU.o⟩
theorem I8 (l vd:List UInt8)(h:vd≠[]):IU l vd true=iK l vd:=by
 unfold IU iK;rw [bh (show ¬ true=false by decide),bh h]
theorem IX (l vd:List UInt8):IU l vd false=iK l []:=by
 unfold IU iK;rw [aw (show false=false from rfl),aw rfl]
theorem KZ:∀ i:Nat,i<=7->(⟨#[48,49,50,51,52,53,54,55]⟩:ByteArray).extract i (i+1)=⟨#[UInt8.ofNat (48+i)]⟩
 | 0,_=>rfl
 | 1,_=>rfl
 | 2,_=>rfl
 | 3,_=>rfl
 | 4,_=>rfl
 | 5,_=>rfl
 | 6,_=>rfl
 | 7,_=>rfl
 | n+8,h=>by omega
theorem Tcu {p:Prop}(h:p:=by
 refine HAD.o.mono ?_;rintro e w2 ⟨rfl,hb2⟩;have cm:=aa hb2;clear hb2;go_wp2;go_ret2;exact ⟨rfl,cm.o⟩):p:=h
theorem Tbl {p:Prop}(h:p:=by
 clear h h0;go_enter func127,ntmps127
 go_wp2_with fail
 try rw [YH.o]
 exact Tcu):p:=h
theorem Kw (l:List UInt8)(k:Int)(w:World)(hs:l.length<=1000000000)(hk:-1000000<=k/\k<=1000000) :
  Calls prog 127 #[.string ⟨l.toArray⟩,.int .i64 k] w fun e w'=>e=.returned (.tuple #[.string ⟨(iK l (bq k)).1.toArray⟩,.int .i64 (iK l (bq k)).2])/\Below w.heap.size w w':=by
 by_cases h:0<=k/\k<=7
 ·obtain ⟨i,rfl⟩:∃ i:Nat,k=(i:Int):=⟨k.toNat,TcC⟩
  have hi:i<=7:=by omega
  have HX:=aa (KZ i hi);have U6:bq (i:Int)=xg++[UInt8.ofNat (48+i)]:=by
   unfold bq;rw [aw h];simp
  have HAD:=aa (G7 l (xg++[UInt8.ofNat (48+i)]) true w hs (by simp [xg]));rw [I8 _ _ TcD,<- U6] at HAD;have YH:Hid ((⟨#[95,108,101,103]⟩:ByteArray)++⟨#[UInt8.ofNat (48+i)]⟩=⟨(bq (i:Int)).toArray⟩):=aa (by rw [U6];exact sQ xg [UInt8.ofNat (48+i)]);clear U6;have hx1:((i:Int)+1).toNat=i+1:=by omega
  have hx2:((i:Int)).toNat=i:=by omega
  have hw:IntKind.i64.wrap ((i:Int)+1)=(i:Int)+1:=dy _ TcC;have d1:decide ((0:Int)<=(i:Int))=true:=eA TcC;have d2:decide ((i:Int)<=7)=true:=eA TcC;clear h;go_enter func127,ntmps127
  go_wp2_with fail;rw [HX.o,YH.o];exact Tcu
 have U6:bq k=[]:=by
  unfold bq;rw [bh h]
 rw [U6];have HAD:=aa (G7 l (xg++[48]) false w hs (by simp [xg]));rw [IX] at HAD;have YH:Hid ((⟨#[95,108,101,103]⟩:ByteArray)++⟨#[48]⟩=⟨(xg++[48]).toArray⟩):=aa (sQ xg [48]);clear U6;by_cases h0:0<=k
 ·have d1:decide ((0:Int)<=k)=true:=eA h0;have d2:decide (k<=7)=false:=cN TcC;exact Tbl
 have d1:decide ((0:Int)<=k)=false:=cN h0;exact Tbl
theorem Kz (h:p∈nV):p.length<=100/\p≠[]:=by
 simp only [nV,dr,cY,dg] at h;rcases h with rfl | rfl | rfl | rfl <;> exact ⟨TcF,TcF⟩
def TaO :Tab #[.string ⟨#[95,108,111,103]⟩,.string ⟨#[95,100,97,116,97]⟩,.string ⟨#[95,109,101,116,97]⟩,.string ⟨#[95,115,112,97,114,101]⟩]:=⟨⟩
theorem Tbn {p:Prop}(h:p:=by
 clear h h0 CH;go_enter func128,ntmps128
 go_wp2_with fail;exact Tcu):p:=h
theorem I4 (l:List UInt8)(k:Int)(w:World)(hs:l.length<=1000000000)(hk:-1000000<=k/\k<=1000000) :
  Calls prog 128 #[.string ⟨l.toArray⟩,.int .i64 k] w fun e w'=>e=.returned (.tuple #[.string ⟨(iK l (dH k)).1.toArray⟩,.int .i64 (iK l (dH k)).2])/\Below w.heap.size w w':=by
 by_cases h:1<=k/\k<=4
 ·obtain ⟨i,hi⟩:∃ i:Nat,k.toNat - 1=i:=⟨_,rfl⟩
  obtain ⟨p,hp⟩:=aj nV i (by show i<4;omega);have CH:dH k=p:=by
   unfold dH;rw [aw h,hi];simp [hp]
  rw [CH];have hpl:=Kz (ct hp);have hA:=ae w (.cells (nV.map fun p=>Value.string ⟨p.toArray⟩).toArray 9);have hN:=b9 w (.cells (nV.map fun p=>Value.string ⟨p.toArray⟩).toArray 9);have hc:(w.alloc (.cells TaO 9)).cell? (w.heap.size,i)=some (.string ⟨p.toArray⟩):=by
   show (w.alloc (.cells (nV.map fun p=>Value.string ⟨p.toArray⟩).toArray 9)).cell? (w.heap.size,i)=some (.string ⟨p.toArray⟩);simp only [World.cell?,hN];simp [hp]
  have HB:Hid (Below w.heap.size w (w.alloc (.cells TaO 9))):=aa hA;clear hA hN hp CH;have HAD:=aa fun w=>G7 l p true w hs hpl.1;rw [I8 _ _ hpl.2] at HAD;clear hpl;have hki:k - 1=(i:Int):=by omega
  have hi1:IntKind.i64.wrap (k - 1)=(i:Int):=by rw [hki];exact dy _ TcC
  have d1:decide ((1:Int)<=k)=true:=eA TcC;have d2:decide (k<=4)=true:=eA TcC;have hi4:i<4:=by omega
  clear h hi hki;go_enter func128,ntmps128
  go_wp2_with fail;refine (HAD.o _).mono ?_;rintro e w2 ⟨rfl,hb2⟩;have cm:=Zbl HB hb2;clear hb2;go_wp2;go_ret2;exact ⟨rfl,cm.o⟩
 have CH:dH k=[]:=by
  unfold dH;rw [bh h]
 rw [CH];have HAD:=aa (G7 l [95,108,111,103] false w hs TcF);rw [IX] at HAD;by_cases h0:1<=k
 ·have d1:decide ((1:Int)<=k)=true:=eA h0;have d2:decide (k<=4)=false:=cN TcC;exact Tbn
 have d1:decide ((1:Int)<=k)=false:=cN h0;exact Tbn
open Go.Maps
variable {ok:Nat->Prop}
theorem mi {W:World}{b:Nat}{l:List Value}{t:TypeId}{q:Nat × Nat}(h:W.heap[b]?=some (.cells l.toArray t q))(i:Nat)(z:Value)(hz:l[i]?=some z):W.cell? (b,i)=some z:=by
 exact Tcm
theorem KP:∀ a b:List UInt8,(Op.bytesLess a b||a == b)=!(Op.bytesLess b a)
 | [],[]=>rfl
 | [],_ :: _=>rfl
 | _ :: _,[]=>rfl
 | x :: a,y :: b=>by
  have ih:=KP a b;show ((decide (x<y)||(x == y&&Op.bytesLess a b))||(x == y&&a == b))=!(decide (y<x)||(y == x&&Op.bytesLess b a));by_cases h:x=y
  ·subst h;have h1:decide (x<x)=false:=cN (by rw [UInt8.lt_iff_toNat_lt];omega);rw [h1,beq_self_eq_true,nj,Bool.true_and,Bool.true_and,nj,Bool.true_and];exact ih
  have h1:(x == y)=false:=beq_eq_false_iff_ne.2 h;have h2:(y == x)=false:=beq_eq_false_iff_ne.2 fun e=>h e.symm;rw [h1,h2,Bool.false_and,Bool.false_and,Bool.false_and,Bool.or_false,Bool.or_false,Bool.or_false,<- decide_not];refine decide_eq_decide.2 ?_;have h3:x.toNat≠y.toNat:=fun e=>h (UInt8.toNat_inj.1 e);rw [UInt8.lt_iff_toNat_lt,UInt8.lt_iff_toNat_lt];omega
theorem IZ {s:ByteArray}{b:Bool}(h:mr s=b)(hs:s.size<=9223372036854775807)(w:World):Calls prog 38 #[.string s] w fun e w'=>e=.returned (.bool b)/\w'=w:=by
 subst h;refine (Jz s w hs).mono ?_;rintro e w' ⟨h1,h2⟩;exact ⟨h1,h2.symm⟩
theorem Hl (l:List ByteArray)(v:Value)(w:World)(hr:ck aF 1 ok w [v] l)(hl:l.length<=1000000)(hsz:∀ s∈l,s.size<=9223372036854775807) :
  Calls prog 122 #[v] w fun e w'=>e=.returned (.int .i64 (eP l))/\Below w.heap.size w w':=by
 obtain ⟨p,c,rfl,hc1,hc2⟩:=hr.cap;have HR:=aa hr;clear hr;have Zu:=aa hsz;clear hsz;have HT:Hid (eP l=_):=aa (eP.eq_1 l);go_enter func122,ntmps122
 by_cases h8:8<l.length
 ·exact TbI
 rw [bh h8] at HT;have hd:decide ((8:Int)<(l.length:Int))=false:=by simp;omega
 go_wp2;go_loopw [3] (fun i wr=>∃ k:Nat,k<=l.length/\i=.int .i64 k/\(∀ j,j<k->kV l j=true)/\Below w.heap.size w wr) (fun i _=>l.length - (intOf i).toNat)
 exact ⟨0,cg _,rfl,fun j hj=>by omega,bj _ _⟩;obtain ⟨k,hk,rfl,hall,hB⟩:=hrel;have cE:=aa hall;clear hall;by_cases hlt:k<l.length
 ·obtain ⟨s,hs⟩:=aj l k hlt;obtain ⟨b,off,us,rfl,_,cX,ez,eE,hcv⟩:=HR.o.elem hs;obtain rfl:us=_:=eE;have q0:=(hB.cell (p:=⟨b,off+k*1+0,none⟩) cX).trans (hcv 0 _ rfl);rw [fp,fg] at q0;have HG:Hid (l.getD k ⟨#[]⟩=s):=aa (by simp [hs]);have Ud:=Zu.o s (ct hs);clear hcv ez hs;have Mz:Hid (kV l k=_):=aa (kV.eq_1 l k);rw [HG.o] at Mz;have PZ:Hid (kV l k=false->eP l=2):=aa fun h=>by
   rw [HT.o,bh];intro hh;rw [eL] at hh;rw [hh k (List.mem_range.2 hlt)] at h;cases h
  have kh:Hid (kV l k=true->∀ j,j<k+1->kV l j=true):=aa fun h j hj=>by
   by_cases hjk:j=k
   ·exact hjk ▸ h
   exact cE.o j TcC
  have HBD:=aa fun n=>aT hB n;cases ht:mr s with
  | false =>
   have Up:=aa (IZ ht Ud);have j9:Hid (kV l k=false):=aa (by rw [Mz.o,ht];rfl);clear ht;go_upto_region 6 with (fail);go_quiet ((go_at_call 38;exact po (Up.o _)));go_wp2;go_ret;exact ⟨cz (PZ.o j9.o).symm,HBD.o _⟩
  | true =>
   have Up:=aa (IZ ht Ud);by_cases hk0:k<1
   ·have j9:Hid (kV l k=true):=aa TeU;have hg:decide ((0:Int)<(k:Int))=false:=by simp;omega
    have hg2:decide (0<k)=false:=by simp;omega
    clear ht;go_upto_region 6 with (fail);go_quiet ((go_at_call 38;exact po (Up.o _)));go_wp2;go_roundw
    exact ⟨k+1,TcC,TcG,kh.o j9.o,HBD.o _⟩;simp [intOf];omega
   obtain ⟨r,hr'⟩:=aj l (k - 1) TcC;obtain ⟨b',off',us',e',_,ak8,TE,Tv,hcv'⟩:=HR.o.elem hr';obtain rfl:us'=_:=Tv;injection e' with e';injection e' with eb eo;subst eb;subst eo;have q1:=(hB.cell (p:=⟨b,off+(k - 1)*1+0,none⟩) cX).trans (hcv' 0 _ rfl);rw [fp,fg] at q1;have hgm:l.getD (k - 1) ⟨#[]⟩=r:=by simp [hr']
   rw [hgm] at Mz;clear hgm hcv' TE ak8 hr';have hg:decide ((0:Int)<(k:Int))=true:=by simp;omega
   have hg2:decide (0<k)=true:=by simp;omega
   cases hc:Op.bytesLess r.toList s.toList with
   | true =>
    have j9:Hid (kV l k=true):=aa (by rw [Mz.o,ht,XY,hc];simp);have hle:(Op.bytesLess s.toList r.toList||s.toList == r.toList)=false:=by rw [KP,hc];rfl
    clear ht;go_upto_region 6 with (fail);go_quiet ((go_at_call 38;exact po (Up.o _)));go_wp2;go_roundw
    exact ⟨k+1,TcC,TcG,kh.o j9.o,HBD.o _⟩;simp [intOf];omega
   | false =>
    have hle:(Op.bytesLess s.toList r.toList||s.toList == r.toList)=true:=by rw [KP,hc];rfl
    have j9:Hid (kV l k=false):=aa TeO;clear ht;go_upto_region 6 with (fail);go_quiet ((go_at_call 38;exact po (Up.o _)));go_wp2;go_ret;exact ⟨cz (PZ.o j9.o).symm,HBD.o _⟩
 exact TbE
theorem Kj (g:af)(a:bN)(w:World)(hg:dN ok w g a)(hz:UT g) :
  Calls prog 73 #[.agg (Tad g a)] w fun e w'=>e=.returned (.int .i64 (qX g))/\Below w.heap.size w w':=by
 have HT:=aa hg.tags;have HH:=aa hg.hist;have HZ:=aa hz;have hhl:=hz.hl;have hnz:=hz.name;obtain ⟨vp,vc,sT,ao8,ap0⟩:=hg.hist.cap;injection sT with e1 e2 e3;obtain ⟨p6,c6,h6,h61,h62⟩:=hg.Gb.cap;obtain ⟨p7,c7,h7,h71,h72⟩:=hg.F9.cap;clear hg hz;obtain ⟨ID,gtc,gdp,G3,G4,Ge,Hb,Hc⟩:=a;dsimp only at e1 e2 e3 h6 h7;subst e1;subst e3;clear e2 h6 h7 h61 h62 h71 h72;have HE:Hid (qX g=_):=aa (qX.eq_1 g);have CN:=aa (b9 w (.cells (Tam g ID gtc gdp G3 G4 Ge Hb Hc) 31));have hA:=ae w (.cells (Tam g ID gtc gdp G3 G4 Ge Hb Hc) 31);have cU:=aa hA;have n0:=mi CN.o 0 _ rfl;clear hA;go_enter func73,ntmps73
 go_wp2_with fail;generalize hW1:World.alloc w _=W1 at *;have hBv:w.heap.size=w.heap.size:=rfl;generalize hB0:w.heap.size=B at CN;clear hW1 hBv n0;refine (yh g.name W1 hnz).mono ?_;rintro e w2 ⟨rfl,hb2⟩;have cm:=Zbl cU hb2;have pH:=Zbk hb2 CN;clear hb2 cU CN;have n2:=mi pH.o 2 _ rfl;have n3:=mi pH.o 3 _ rfl;have n4:=mi pH.o 4 _ rfl;have n5:=mi pH.o 5 _ rfl;have n6:=mi pH.o 6 _ rfl;have n7:=mi pH.o 7 _ rfl;have n8:=mi pH.o 8 _ rfl;cases XV:jo g.name with
 | false =>
  rw [aw XV] at HE;clear XV;go_wp2;go_ret;exact ⟨cz HE.o.symm,cm.o⟩
 | true =>
  rw [bh (by rw [XV];decide)] at HE;clear XV;by_cases hr:lm g
  ·rw [bh (fun h=>h hr)] at HE;obtain ⟨r1,r2,r3,r4,r5,r6⟩:=hr;by_cases hl:iR g
   ·rw [bh (fun h=>h hl)] at HE;obtain ⟨l1,l2,l3⟩:=hl;have d6:decide ((8:Int)<(g.Gb.length:Int))=false:=by simp;omega
    have d7:decide ((32:Int)<(g.F9.length:Int))=false:=by simp;omega
    have d8:decide ((32:Int)<(g.history.length:Int))=false:=by simp;omega
    by_cases l5:g.tags.length<=8
    ·have d5:decide ((8:Int)<(g.tags.length:Int))=false:=by simp;omega
     go_wp2_with fail;refine (Hl (ok:=ok) g.tags _ w2 ((ck.moves aF.moves).mv (Mv.of cm.o) HT.o) HZ.o.tags.1 HZ.o.tags.2).mono ?_;rintro e w3 ⟨rfl,hb3⟩;have cJ:=Zbl cm hb3;have LS:=Zbk hb3 pH;clear hb3 cm pH n2 n3 n4 n5 n6 n7 n8 d5 d6 d7 d8 l1 l2 l5 r1 r2 r3 r4 r5 r6;by_cases ht:eP g.tags=0
     ·have Nh:(eP g.tags != 0)=false:=by rw [ht];rfl
      rw [bh (fun h=>h ht)] at HE;clear ht;go_wp2_with fail;go_loopw [4,5] (fun i _ wr=>∃ k:Nat,k<=g.history.length/\i=.int .i64 k/\Below w3.heap.size w3 wr/\(∀ j,j<k->lL (g.history.getD j (⟨#[]⟩,0,0))=true)) (fun i _ _=>g.history.length - (intOf i).toNat)
      exact ⟨0,cg _,rfl,bj _ _,fun j hj=>by omega⟩;obtain ⟨k,hk,rfl,hb4,hall⟩:=hrel;have hB:=cJ.o.trans (hb4.mono cJ.o.size);have n8:=mi ((hb4.block _ (aq LS.o)).trans LS.o) 8 _ rfl;have ax0:=aa hb4;clear hb4;have cE:=aa hall;clear hall;by_cases hlt:k<g.history.length
      ·obtain ⟨h,hh⟩:=aj g.history k hlt;obtain ⟨b,off,us,hbo,gR,cX,ez,eE,hcv⟩:=HH.o.elem hh;subst hbo;obtain rfl:us=_:=eE;obtain ⟨hn,hid,TD⟩:=h;have cT:wr.heap[b]?=w.heap[b]?:=hB.block b cX;obtain ⟨q0,q1,q2⟩:=Mn cT hcv;have aq3:=HZ.o.hist _ (ct hh);have HG:Hid (g.history.getD k (⟨#[]⟩,0,0)=(hn,hid,TD)):=aa (by simp [hh]);have PZ:Hid (lL (hn,hid,TD)=false->qX g=2):=aa fun hb=>by
        rw [HE.o,bh];intro Yr;rw [eL] at Yr;rw [Yr _ (ct hh)] at hb;cases hb
       have kh:Hid (lL (hn,hid,TD)=true->∀ j,j<k+1->lL (g.history.getD j (⟨#[]⟩,0,0))=true):=aa fun hb j hj=>by
        by_cases hjk:j=k
        ·subst hjk;rw [HG.o];exact hb
        exact cE.o j TcC
       have Mz:Hid (lL (hn,hid,TD)=_):=aa (lL.eq_1 (hn,hid,TD));clear hcv ez cT hh HG cE;have hA:=ae wr (.cells #[.string hn,.int .u64 hid,.int .i64 TD] 73);have eI:=aa (hB.trans (hA.mono hB.size));have ax1:=Zbl ax0 hA;have VG:=aa (b9 wr (.cells #[.string hn,.int .u64 hid,.int .i64 TD] 73));have m0:=mi VG.o 0 _ rfl;clear hA ax0;go_wp2_with fail;clear q0 q1 q2 m0;generalize hW4:World.alloc wr _=W4 at *;generalize hB4:wr.heap.size=Bh at *;clear hW4 hB4 hB n8;refine (yh hn W4 aq3).mono ?_;rintro e w5 ⟨rfl,hb5⟩;have eK:=Zbl eI hb5;have aB3:=Zbl ax1 hb5;have m2:=mi ((hb5.block _ (aq VG.o)).trans VG.o) 2 _ rfl;clear hb5 eI VG ax1;cases ag4:jo hn with
       | false =>
        have j9:Hid (lL (hn,hid,TD)=false):=aa (by rw [Mz.o,ag4];rfl);clear ag4;go_wp2;go_ret;exact ⟨cz (PZ.o j9.o).symm,eK.o⟩
       | true =>
        by_cases hr2:0<=TD/\TD<=1048575
        ·have j9:Hid (lL (hn,hid,TD)=true):=aa (by rw [Mz.o,ag4,eA hr2];rfl);obtain ⟨s1,s2⟩:=hr2;clear ag4;go_wp2;go_roundw;exact ⟨k+1,TcC,TcG,aB3.o,kh.o j9.o⟩;simp [intOf];omega
        have j9:Hid (lL (hn,hid,TD)=false):=aa (by rw [Mz.o,ag4,cN hr2];rfl);have hr3:TD<0\/(0<=TD/\1048575<TD):=by omega
        clear ag4 hr2;rcases hr3 with s1 | ⟨s1,s2⟩
        all_goals
         go_wp2;go_ret;exact ⟨cz (PZ.o j9.o).symm,eK.o⟩
      have HR:Hid (qX g=0):=aa (by
       rw [HE.o,aw];rw [eL];intro x hx;obtain ⟨i,hi,rfl⟩:=List.getElem_of_mem hx;have:=cE.o i TcC;simpa [hi] using this)
      go_wp2;go_ret;exact ⟨cz HR.o.symm,hB⟩
     have Nh:(eP g.tags != 0)=true:=by simpa using ht
     rw [aw ht] at HE;clear ht;go_wp2_with fail;go_ret;exact ⟨cz HE.o.symm,cJ.o⟩
    have d5:decide ((8:Int)<(g.tags.length:Int))=true:=by simp;omega
    have ht:eP g.tags=4:=by unfold eP;rw [aw TcC]
    rw [aw (by rw [ht];decide),ht] at HE;clear ht;go_wp2;go_ret;exact ⟨cz HE.o.symm,cm.o⟩
   rw [aw hl] at HE;have hl':8<g.Gb.length\/(g.Gb.length<=8/\32<g.F9.length)\/(g.Gb.length<=8/\g.F9.length<=32/\32<g.history.length):=by unfold iR at hl;omega
   clear hl;rcases hl' with l1 | ⟨l1,l2⟩ | ⟨l1,l2,l3⟩
   ·have d6:decide ((8:Int)<(g.Gb.length:Int))=true:=by simp;omega
    go_wp2;go_ret;exact ⟨cz HE.o.symm,cm.o⟩
   ·have d6:decide ((8:Int)<(g.Gb.length:Int))=false:=by simp;omega
    have d7:decide ((32:Int)<(g.F9.length:Int))=true:=by simp;omega
    go_wp2;go_ret;exact ⟨cz HE.o.symm,cm.o⟩
   have d6:decide ((8:Int)<(g.Gb.length:Int))=false:=by simp;omega
   have d7:decide ((32:Int)<(g.F9.length:Int))=false:=by simp;omega
   have d8:decide ((32:Int)<(g.history.length:Int))=true:=by simp;omega
   go_wp2;go_ret;exact ⟨cz HE.o.symm,cm.o⟩
  rw [aw hr] at HE;have hr':g.seq<0\/(0<=g.seq/\1048575<g.seq)\/(0<=g.seq/\g.seq<=1048575/\g.Gd<1)\/(0<=g.seq/\g.seq<=1048575/\1<=g.Gd/\1024<g.Gd)\/(0<=g.seq/\g.seq<=1048575/\1<=g.Gd/\g.Gd<=1024/\g.next<0)\/(0<=g.seq/\g.seq<=1048575/\1<=g.Gd/\g.Gd<=1024/\0<=g.next/\1073741824<g.next):=by unfold lm at hr;omega
  clear hr;rcases hr' with r1 | ⟨r1,r2⟩ | ⟨r1,r2,r3⟩ | ⟨r1,r2,r3,r4⟩ | ⟨r1,r2,r3,r4,r5⟩ | ⟨r1,r2,r3,r4,r5,r6⟩
  all_goals
   go_wp2;go_ret;exact ⟨cz HE.o.symm,cm.o⟩
end Go.Proofs.YtaagglbgohjldaaGreatDoor
