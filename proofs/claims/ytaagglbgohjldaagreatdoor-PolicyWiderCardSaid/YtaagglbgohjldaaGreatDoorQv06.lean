/- Lemmas: NamC, MkJ. -/
import Derived.Test.YtaagglbgohjldaaGreatDoorQv05
set_option maxRecDepth 100000
set_option maxHeartbeats 32000000
set_option linter.all false
namespace Go.Proofs.YtaagglbgohjldaaGreatDoor
open Go.Proofs.Tryz
open Go.RowKit Go.Shelf
variable {w w' wr w2:World}{l x:List UInt8}{X Y:Nat->Prop}{bs bb N:Nat}{nv vv rK rN:Value}{g g':af}{next next':List Int}{t:TypeId}{cs:List Value}
def nV:List (List UInt8):=[[95,108,111,103],[95,100,97,116,97],[95,109,101,116,97],[95,115,112,97,114,101]]
def xg:List UInt8:=[95,108,101,103]
def jr (l:List UInt8):Option (List UInt8) :=
 match nV.find? (fun p=>Lib.hasSuffix l p) with
 | some p=>some (l.take (l.length - p.length))
 | none=>if 0<l.length/\48<=(l.getLastD 0).toNat/\(l.getLastD 0).toNat<=55/\Lib.hasSuffix l.dropLast xg=true then some (l.dropLast.take (l.dropLast.length - 4)) else none
def AW (w:World):Prop:=0<w.heap.size/\∀ (i:Nat) (l:List UInt8),([] :: nV)[i]?=some l->w.cell? (0,i)=some (.string ⟨l.toArray⟩)
theorem AW.below (h:AW w)(hb:Below w.heap.size w w'):AW w':=⟨cC h.1 hb.size,fun i l hl=>(hb.cell (p:=⟨0,i,none⟩) h.1).trans (h.2 i l hl)⟩
theorem AW.mod {F:Nat->Prop}(h:AW w)(hb:cR F w w')(hF:¬ F 0):AW w':=⟨cC h.1 hb.size,fun i l hl=>(hb.cell (p:=⟨0,i,none⟩) h.1 hF).trans (h.2 i l hl)⟩
def Ep (s:ByteArray)(w:World)(e:Ending)(w':World):Prop:=∃ r:List UInt8,e=.returned (.tuple #[.string ⟨r.toArray⟩,.bool (jr s.data.toList).isSome])/\(∀ x,jr s.data.toList=some x->r=x)/\w=w'
theorem Es (s:ByteArray)(h:0<s.size):s[s.size - 1]'TcC=s.data.toList.getLastD 0:=by
 obtain ⟨⟨l⟩⟩:=s;show l[l.length - 1]'(by show l.length - 1<l.length;have:0<l.length:=h;omega)=_;rw [List.getLastD_eq_getLast?,List.getLast?_eq_getElem?,lO];rfl
theorem Tbu {p:Prop}(h:p:=by
 go_ret2;have hn:=HNo.o (by rw [<- HL.o];omega);refine (show Ep s w _ w from ⟨s.data.toList,by rw [hn];rfl,(fun x hx=>by rw [hn] at hx;cases hx),rfl⟩)):p:=h
theorem Ac (s:ByteArray)(w:World)(hs:s.size<=9223372036854775807)(hS:AW w) :
  Calls prog 173 #[.string s] w (Ep s w):=by
 have HS:=aa hS;clear hS;go_enter func173,ntmps173;go_wp2
 go_loop [11] (fun i=>∃ k:Nat,k<=4/\i=.int .i64 k/\(∀ j p,j<k->nV[j]?=some p->Lib.hasSuffix s.data.toList p=false)) (fun i=>4 - (intOf i).toNat)
 exact ⟨0,cg _,rfl,fun j p hj=>by omega⟩;obtain ⟨k,hk,rfl,hno⟩:=hrel;have Ty:=aa hno;clear hno;by_cases hlt:k<4
 ·obtain ⟨p,hp⟩:=aj nV k hlt;have hc:w.cell? (0,1+k)=some (.string ⟨p.toArray⟩):=HS.o.2 (1+k) p (by rw [Nat.add_comm,List.getElem?_cons_succ];exact hp);have HP:=aa hp;clear hp;go_wp2_with fail;refine (Any.strings_CutSuffix Tryz.lays104 s ⟨p.toArray⟩ _ hs).mono ?_;rintro e w' ⟨rfl,rfl⟩;cases MO:Lib.hasSuffix s.data.toList (⟨p.toArray⟩:ByteArray).data.toList with
  | true =>
   go_wp2;go_ret2;have hf:jr s.data.toList=some (s.data.toList.take (s.data.toList.length - p.length)):=by
    have:nV.find? (fun p=>Lib.hasSuffix s.data.toList p)=some p:=by
     rw [List.find?_eq_some_iff_getElem];obtain ⟨hk4,ZU⟩:=List.getElem?_eq_some_iff.1 HP.o;refine ⟨MO,k,hk4,ZU,fun j hj=>?_⟩;rw [Ty.o j _ hj (lO TcC)];rfl
    simp only [jr,this]
   refine ⟨s.data.toList.take (s.data.toList.length - p.length),?_,fun x hx=>?_,rfl⟩
   ·rw [hf];have:Lib.trimSuffix s.data.toList p=s.data.toList.take (s.data.toList.length - p.length):=by
     unfold Lib.trimSuffix;rw [aw MO]
    rw [<- this];rfl
   rw [hf] at hx;exact gj hx
  | false =>
   go_wp2;go_round
   case rel =>
    refine ⟨k+1,TcC,TcG,fun j q hj hq=>?_⟩;by_cases hjk:j=k
    ·subst hjk;rw [HP.o] at hq;cases hq
     exact MO
    exact Ty.o j q TcC hq
   simp [intOf];omega
 obtain rfl:k=4:=by omega
 have HN:Hid (nV.find? (fun p=>Lib.hasSuffix s.data.toList p)=none):=aa (by
  rw [List.find?_eq_none];intro p hp;obtain ⟨j,hj⟩:=fc hp;rw [Ty.o j p (List.getElem?_eq_some_iff.1 hj).1 hj];simp)
 by_cases h0:0<s.size
 ·have HL:=aa (Es s h0);have hNo:∀ (_:¬ (48<=(s.data.toList.getLastD 0).toNat/\(s.data.toList.getLastD 0).toNat<=55)),jr s.data.toList=none:=fun h=>by
   simp only [jr,HN.o];rw [bh (fun q=>h ⟨q.2.1,q.2.2.1⟩)]
  have HNo:=aa hNo;clear hNo;go_wp2_with fail
  ·have hq:(((s[s.size - 1].toNat:Int))<48)\/55<(s[s.size - 1].toNat:Int):=by
    have:((s.size:Int) - 1<0\/(s[s.size - 1].toNat:Int)<48)\/55<(s[s.size - 1].toNat:Int):=by assumption
    omega
   exact Tbu
  ·have hq:((0:Int)<=(s.size:Int) - 1/\48<=(s[s.size - 1].toNat:Int))/\(s[s.size - 1].toNat:Int)<=55:=by assumption
   have hq1:48<=(s.data.toList.getLastD 0).toNat/\(s.data.toList.getLastD 0).toNat<=55:=by rw [<- HL.o];omega
   clear hq;have HQ:=aa hq1;clear hq1;refine (Any.strings_CutSuffix Tryz.lays104 _ _ _ TcH).mono ?_;rintro e w' ⟨rfl,rfl⟩;go_wp2;go_ret2;cases MO:Lib.hasSuffix s.data.toList.dropLast xg with
   | true =>
    have hf:jr s.data.toList=some (s.data.toList.dropLast.take (s.data.toList.dropLast.length - 4)):=by
     simp only [jr,HN.o];rw [aw ⟨Tdy,HQ.o.1,HQ.o.2,MO⟩]
    refine ⟨s.data.toList.dropLast.take (s.data.toList.dropLast.length - 4),?_,fun x hx=>?_,rfl⟩
    ·rw [hf];have:Lib.trimSuffix s.data.toList.dropLast xg=s.data.toList.dropLast.take (s.data.toList.dropLast.length - 4):=by
      unfold Lib.trimSuffix;rw [aw MO];rfl
     rw [<- this];show Ending.returned (.tuple #[_,.bool (Lib.hasSuffix _ xg)])=_;rw [MO];rfl
    rw [hf] at hx;exact gj hx
   | false =>
    have hf:jr s.data.toList=none:=by
     simp only [jr,HN.o];rw [bh (fun q=>by rw [MO] at q;exact absurd q.2.2.2 TcD)]
    refine ⟨Lib.trimSuffix s.data.toList.dropLast xg,?_,(fun x hx=>by rw [hf] at hx;cases hx),rfl⟩;rw [hf];show Ending.returned (.tuple #[_,.bool (Lib.hasSuffix _ xg)])=_;rw [MO];rfl
  have hq:(s[s.size - 1].toNat:Int)<48:=by assumption
  exact Tbu
 obtain rfl:=oI h0;go_wp2;go_ret2;exact (show Ep ⟨#[]⟩ w _ w from ⟨[],rfl,(fun x hx=>by cases hx),rfl⟩)
def jo (s:ByteArray):Bool:=qA s&&decide (s.size<=24)&&!(jr s.data.toList).isSome
theorem Ta5 {p:Prop}(h:p:=by
 cases hn:qA s with
 | false =>
  go_wp2;go_ret;exact ⟨ah (by simp [jo,hn]),cU.o⟩
 | true =>
  by_cases h24:s.size<=24
  ·cases hc:(jr s.data.toList).isSome with
   | false =>
    go_wp2;go_ret;exact ⟨ah (by simp [jo,hn,h24,hc]),cU.o⟩
   | true =>
    go_wp2;go_ret;exact ⟨ah (by simp [jo,hn,h24,hc]),cU.o⟩
  go_wp2;go_ret;exact ⟨ah (by simp [jo,hn,h24]),cU.o⟩):p:=h
theorem fT (s:ByteArray)(w:World)(hs:s.size<=9223372036854775807)(hS:AW w) :
  Calls prog 136 #[.string s] w fun e w'=>e=.returned (.bool (jo s))/\Below w.heap.size w w':=by
 have HS:=aa hS;clear hS;go_enter func136,ntmps136
 go_wp2_with fail;refine (Ac s _ hs HS.o).mono ?_;rintro e w' ⟨r,rfl,_,rfl⟩;go_wp2_with fail;refine (Du s _ hs).mono ?_;rintro e w1 ⟨rfl,hb1⟩;have cU:=aa hb1;clear hb1;exact Ta5
theorem pU (h:jr l=some x):x.length<l.length:=by
 unfold jr at h;cases hf:nV.find? (fun p=>Lib.hasSuffix l p) with
 | some p =>
  rw [hf] at h;obtain rfl:=gj h;have hp:=eV hf;have hs:=List.find?_some hf;have h1:p.length<=l.length:=(List.isSuffixOf_iff_suffix.1 hs).length_le;have h2:0<p.length:=by
   simp only [nV,dr,cY,dg] at hp;rcases hp with rfl | rfl | rfl | rfl <;> simp
  rw [ey];omega
 | none =>
  rw [hf] at h;by_cases c:0<l.length/\48<=(l.getLastD 0).toNat/\(l.getLastD 0).toNat<=55/\Lib.hasSuffix l.dropLast xg=true
  ·simp only [aw c] at h;obtain rfl:=gj h;rw [ey,List.length_dropLast];omega
  simp only [bh c] at h
  cases h
def lK:Nat->List UInt8->List UInt8 × Nat
 | 0,l=>(l,0)
 | f+1,l=>match jr l with
  | none=>(l,0)
  | some x=>((lK f x).1,(lK f x).2+1)
def gu (l:List UInt8):List UInt8 × Nat:=lK l.length l
theorem mG:∀ (f:Nat) (l:List UInt8),l.length<=f->lK f l=lK l.length l
 | 0,l,h=>by rw [show l.length=0 by omega]
 | f+1,l,h=>by
  cases hl:l.length with
  | zero =>
   have:l=[]:=fX hl;subst this;rfl
  | succ n =>
   unfold lK;cases hc:jr l with
   | none=>rfl
   | some x =>
    have:=pU hc;simp only [];rw [mG f x TcC,mG n x TcC]
theorem yc (h:jr l=none):gu l=(l,0):=by
 unfold gu;cases hl:l.length with
 | zero=>rfl
 | succ n=>simp only [lK,h]
theorem zI (h:jr l=some x):gu l=((gu x).1,(gu x).2+1):=by
 have hx:=pU h;unfold gu;cases hl:l.length with
 | zero=>omega
 | succ n =>
  simp only [lK,h];rw [mG n x TcC]
theorem Cy (l:List UInt8)(w:World)(hs:l.length<=9223372036854775807)(hS:AW w) :
  Calls prog 177 #[.string ⟨l.toArray⟩] w fun e w'=>e=.returned (.tuple #[.string ⟨(gu l).1.toArray⟩,.int .i64 (gu l).2])/\w=w':=by
 have HS:=aa hS;clear hS;go_enter func177,ntmps177;go_wp2
 go_loop [0,4] (fun s n=>∃ (r:List UInt8) (k:Nat),s=.string ⟨r.toArray⟩/\n=.int .i64 k/\r.length+k<=l.length/\(gu l).1=(gu r).1/\(gu l).2=(gu r).2+k) (fun s _=>match s with | .string x=>x.size | _=>0)
 exact ⟨l,0,rfl,rfl,TcC,rfl,rfl⟩;obtain ⟨r,k,rfl,rfl,hrk,h1,h2⟩:=hrel;have H1:=aa h1;clear h1;have H2:=aa h2;clear h2;go_wp2_with fail;refine (Ac ⟨r.toArray⟩ _ (by show r.length<=_;omega) HS.o).mono ?_;rintro e w' ⟨x,rfl,hx,rfl⟩;have HX:=aa hx;clear hx;cases hc:jr (⟨r.toArray⟩:ByteArray).data.toList with
 | none =>
  go_wp2;go_ret2;have:=yc (l:=r) hc;exact ⟨by rw [H1.o,H2.o,this];simp,rfl⟩
 | some y =>
  obtain rfl:=HX.o y hc;have hlt:=pU (l:=r) hc;have HC:=aa (show jr r=some x from hc);go_wp2;go_round
  case rel =>
   have:=zI HC.o;exact ⟨x,k+1,rfl,TcG,TcC,by rw [H1.o,this],by rw [H2.o,this];omega⟩
  simp [ByteArray.size];omega
def zH (s:ByteArray):Bool:=decide (0<(gu s.data.toList).2)&&decide (s.size<=40)&&jo ⟨(gu s.data.toList).1.toArray⟩
theorem bytes_eta (s:ByteArray):s=⟨s.data.toList.toArray⟩:=by
 obtain ⟨⟨l⟩⟩:=s;rfl
theorem uB:∀ (f:Nat) (l:List UInt8),(lK f l).1.length<=l.length
 | 0,l=>bk _
 | f+1,l=>by
  unfold lK;cases hc:jr l with
  | none=>exact bk _
  | some x=>exact cA (uB f x) (Nat.le_of_lt (pU hc))
theorem TdM {p:Prop}(h:p:=by simpa using hs):p:=h
theorem qO (s:ByteArray)(w:World)(hs:s.size<=9223372036854775807)(hS:AW w) :
  Calls prog 142 #[.string s] w fun e w'=>e=.returned (.bool (zH s))/\Below w.heap.size w w':=by
 have HS:=aa hS;clear hS;have hlen:(gu s.data.toList).1.length<=9223372036854775807:=cA (uB _ _) TdM;have pL:=aa (Cy s.data.toList w TdM HS.o);rw [<- bytes_eta] at pL;go_enter func142,ntmps142
 go_wp2_with fail;refine pL.o.mono ?_;clear pL;rintro e w' ⟨rfl,rfl⟩;have HH:Hid (zH s=(decide (0<(gu s.data.toList).2)&&decide (s.size<=40)&&jo ⟨(gu s.data.toList).1.toArray⟩)):=aa rfl;generalize hb:(gu s.data.toList).1=b at *;generalize hk:(gu s.data.toList).2=k at *;clear hb hk;by_cases h0:0<k
 ·by_cases h40:s.size<=40
  ·go_wp2_with fail;refine (fT ⟨b.toArray⟩ _ hlen HS.o).mono ?_;rintro e w1 ⟨rfl,hb1⟩;have cU:=aa hb1;clear hb1;go_wp2;go_ret;exact ⟨ah (by rw [HH.o];simp [h0,h40]),cU.o⟩
  go_wp2;go_ret;exact ⟨ah (by rw [HH.o];simp [h40]),bj _ _⟩
 go_wp2;go_ret;exact ⟨ah (by rw [HH.o];simp [h0]),bj _ _⟩
theorem sQ (a b:List UInt8):(⟨a.toArray⟩:ByteArray)++(⟨b.toArray⟩:ByteArray)=⟨(a++b).toArray⟩:=by
 apply ByteArray.ext;simp
def iK (l vd:List UInt8):List UInt8 × Int :=
 if jo ⟨l.toArray⟩=false/\zH ⟨l.toArray⟩=false then ([],10) else if vd=[] then ([],1) else if 40<l.length+vd.length then ([],4) else (l++vd,0)
theorem TeC {p:Prop}(h:p:=by rw [HX.o];exact fj (fun b=>Ending.returned (.tuple #[.string b,.int .i64 0])) (sQ l vd)):p:=h
theorem Tdd {p:Prop}(h:p:=by rw [HX.o];rfl):p:=h
theorem TcK {p:Prop}(h:p:=by rw [HR.o];rfl):p:=h
theorem dR (l vd:List UInt8)(w:World)(hs:l.length<=1000000000)(hs2:vd.length<=100)(hS:AW w) :
  Calls prog 192 #[.string ⟨l.toArray⟩,.string ⟨vd.toArray⟩] w fun e w'=>e=.returned (.tuple #[.string ⟨(iK l vd).1.toArray⟩,.int .i64 (iK l vd).2])/\Below w.heap.size w w':=by
 have HS:=aa hS;clear hS;have hz:(⟨l.toArray⟩:ByteArray).size=l.length:=rfl;have hz2:(⟨vd.toArray⟩:ByteArray).size=vd.length:=rfl;have HW:=aa (iK.eq_1 l vd);go_enter func192,ntmps192
 go_wp2_with fail;refine (fT ⟨l.toArray⟩ _ TcC HS.o).mono ?_;rintro e w1 ⟨rfl,hb1⟩;have HS1:=aa (HS.o.below hb1);have cU:=aa hb1;clear hb1;have rest:∀ w2:World,Below w.heap.size w w2->(jo ⟨l.toArray⟩=true\/zH ⟨l.toArray⟩=true)->iK l vd=if vd=[] then ([],1) else if 40<l.length+vd.length then ([],4) else (l++vd,0):=fun w2 _ h=>by
  rw [HW.o,bh];rintro ⟨a,b⟩;rcases h with h | h
  ·rw [a] at h;cases h
  rw [b] at h;cases h
 cases hv:jo ⟨l.toArray⟩ with
 | true =>
  have HR:=aa (rest w (bj _ _) (.inl hv));clear rest HW;by_cases ao2:vd=[]
  ·subst ao2;go_wp2;go_ret2;exact ⟨TcK,cU.o⟩
  have OQ:vd.isEmpty=false:=by simpa using ao2
  by_cases h40:40<l.length+vd.length
  ·have HX:Hid (iK l vd=([],4)):=aa (by rw [HR.o,bh ao2,aw h40]);go_wp2;go_ret2;exact ⟨Tdd,cU.o⟩
  have HX:Hid (iK l vd=(l++vd,0)):=aa (by rw [HR.o,bh ao2,bh h40]);go_wp2;go_ret2;exact ⟨TeC,cU.o⟩
 | false =>
  go_wp2_with fail;refine (qO ⟨l.toArray⟩ _ TcC HS1.o).mono ?_;rintro e w2 ⟨rfl,hb2⟩;have cm:=Zbl cU hb2;clear hb2;cases hh:zH ⟨l.toArray⟩ with
  | true =>
   have HR:=aa (rest w (bj _ _) (.inr hh));clear rest HW;by_cases ao2:vd=[]
   ·subst ao2;go_wp2;go_ret2;exact ⟨TcK,cm.o⟩
   have OQ:vd.isEmpty=false:=by simpa using ao2
   by_cases h40:40<l.length+vd.length
   ·have HX:Hid (iK l vd=([],4)):=aa (by rw [HR.o,bh ao2,aw h40]);go_wp2;go_ret2;exact ⟨Tdd,cm.o⟩
   have HX:Hid (iK l vd=(l++vd,0)):=aa (by rw [HR.o,bh ao2,bh h40]);go_wp2;go_ret2;exact ⟨TeC,cm.o⟩
  | false =>
   have HX:Hid (iK l vd=([],10)):=aa (by rw [HW.o,aw ⟨hv,hh⟩]);clear rest HW;go_wp2;go_ret2;exact ⟨Tdd,cm.o⟩
def bq (k:Int):List UInt8:=if 0<=k/\k<=7 then xg++[UInt8.ofNat (48+k.toNat)] else []
def dH (k:Int):List UInt8:=if 1<=k/\k<=4 then nV.getD (k.toNat - 1) [] else []
theorem Tcy {p:Prop}(h:p:=by
 rintro e w1 ⟨rfl,hb1⟩;have cU:=aa hb1;clear hb1;go_wp2;go_ret2;exact ⟨rfl,cU.o⟩):p:=h
theorem Tbx {p:Prop}(h:p:=by
 go_wp2_with fail;refine (dR l [] _ hs TcD HS.o).mono ?_;exact Tcy):p:=h
theorem Tcd {p:Prop}(h:p:=by
 exact Tcy):p:=h
theorem wC (l:List UInt8)(k:Int)(w:World)(hs:l.length<=1000000000)(hS:AW w) :
  Calls prog 184 #[.string ⟨l.toArray⟩,.int .i64 k] w fun e w'=>e=.returned (.tuple #[.string ⟨(iK l (dH k)).1.toArray⟩,.int .i64 (iK l (dH k)).2])/\Below w.heap.size w w':=by
 have HS:=aa hS;clear hS;by_cases h1:1<=k/\k<=4
 ·obtain ⟨i,hi⟩:∃ i:Nat,k=((i+1:Nat):Int):=⟨k.toNat - 1,TcC⟩
  subst hi;obtain ⟨p,hp⟩:=aj nV i (by show i<4;omega);have hc:w.cell? (0,i+1)=some (.string ⟨p.toArray⟩):=HS.o.2 (i+1) p (by rw [List.getElem?_cons_succ];exact hp);have CH:dH ((i+1:Nat):Int)=p:=by
   unfold dH;rw [aw h1];simp [hp]
  rw [CH];have hpl:p.length<=100:=by
   have:=ct hp;simp only [nV,dr,cY,dg] at this;rcases this with rfl | rfl | rfl | rfl <;> simp
  clear CH hp;have hi5:i<4:=by omega
  go_enter func184,ntmps184
  go_wp2_with fail;refine (dR l p _ hs hpl HS.o).mono ?_;exact Tcd
 have CH:dH k=[]:=by unfold dH;rw [bh h1]
 rw [CH];clear CH;go_enter func184,ntmps184
 by_cases h2:0<=k - 1
 ·have h3:¬ k<=4:=by omega
  have h4:1<=k:=by omega
  exact Tbx
 have h4:¬ 1<=k:=by omega
 exact Tbx
theorem Ea (l:List UInt8)(k:Int)(w:World)(hs:l.length<=1000000000)(hS:AW w) :
  Calls prog 183 #[.string ⟨l.toArray⟩,.int .i64 k] w fun e w'=>e=.returned (.tuple #[.string ⟨(iK l (bq k)).1.toArray⟩,.int .i64 (iK l (bq k)).2])/\Below w.heap.size w w':=by
 have HS:=aa hS;clear hS;by_cases h1:0<=k/\k<=7
 ·have h2:k=0\/k=1\/k=2\/k=3\/k=4\/k=5\/k=6\/k=7:=by omega
  go_enter func183,ntmps183;clear h1;rcases h2 with rfl | rfl | rfl | rfl | rfl | rfl | rfl | rfl
  ·have E:(⟨#[95,108,101,103]⟩:ByteArray)++Utf8.encode 48=⟨(bq 0).toArray⟩:=by kernel_rfl
   have hl:(bq 0).length<=100:=by decide
   go_wp2_with fail;refine (dR l (bq 0) _ hs hl HS.o).mono ?_;exact Tcd
  ·have E:(⟨#[95,108,101,103]⟩:ByteArray)++Utf8.encode 49=⟨(bq 1).toArray⟩:=by kernel_rfl
   have hl:(bq 1).length<=100:=by decide
   go_wp2_with fail;refine (dR l (bq 1) _ hs hl HS.o).mono ?_;exact Tcd
  ·have E:(⟨#[95,108,101,103]⟩:ByteArray)++Utf8.encode 50=⟨(bq 2).toArray⟩:=by kernel_rfl
   have hl:(bq 2).length<=100:=by decide
   go_wp2_with fail;refine (dR l (bq 2) _ hs hl HS.o).mono ?_;exact Tcd
  ·have E:(⟨#[95,108,101,103]⟩:ByteArray)++Utf8.encode 51=⟨(bq 3).toArray⟩:=by kernel_rfl
   have hl:(bq 3).length<=100:=by decide
   go_wp2_with fail;refine (dR l (bq 3) _ hs hl HS.o).mono ?_;exact Tcd
  ·have E:(⟨#[95,108,101,103]⟩:ByteArray)++Utf8.encode 52=⟨(bq 4).toArray⟩:=by kernel_rfl
   have hl:(bq 4).length<=100:=by decide
   go_wp2_with fail;refine (dR l (bq 4) _ hs hl HS.o).mono ?_;exact Tcd
  ·have E:(⟨#[95,108,101,103]⟩:ByteArray)++Utf8.encode 53=⟨(bq 5).toArray⟩:=by kernel_rfl
   have hl:(bq 5).length<=100:=by decide
   go_wp2_with fail;refine (dR l (bq 5) _ hs hl HS.o).mono ?_;exact Tcd
  ·have E:(⟨#[95,108,101,103]⟩:ByteArray)++Utf8.encode 54=⟨(bq 6).toArray⟩:=by kernel_rfl
   have hl:(bq 6).length<=100:=by decide
   go_wp2_with fail;refine (dR l (bq 6) _ hs hl HS.o).mono ?_;exact Tcd
  have E:(⟨#[95,108,101,103]⟩:ByteArray)++Utf8.encode 55=⟨(bq 7).toArray⟩:=by kernel_rfl
  have hl:(bq 7).length<=100:=by decide
  go_wp2_with fail;refine (dR l (bq 7) _ hs hl HS.o).mono ?_;exact Tcd
 have CH:bq k=[]:=by unfold bq;rw [bh h1]
 rw [CH];clear CH;go_enter func183,ntmps183
 by_cases h2:0<=k
 ·have h3:¬ k<=7:=by omega
  exact Tbx
 exact Tbx
def ic (k n:Int)(al:List aR):aB:=⟨0,k*n,2,al,1,[],es,es,0,0,0⟩
def mf (name:ByteArray)(id k n:Int)(al:List aR):ay:=⟨name,id,false,false,[],[ic k n al]⟩
def UO (n:Int)(al:List aR):List (ByteArray × Int × Int):=al.map fun a=>(a.on,a.start,n)
def F6 (X:Nat->Prop)(bs bb:Nat)(nv vv:Value)(g:af)(next:List Int)(name:ByteArray)(w:World)(w':World):Prop :=
 (∃ ps next',fZ g.Gb next ps next'/\aH X bs bb nv vv w w' nv vv g next') \/
 ∃ (k n:Int) (al:List aR) (next':List Int) (pA:Value),2<=k/\k<=3/\1<=n/\n<=2/\(al.length:Int)=k/\(∀ a∈al,a.vol=false)/\fZ g.Gb next (UO n al) next' /\
  aH X bs bb nv vv w w' nv pA { g with next:=g.next+1,F9:=g.F9++[mf name (oX g.id (g.next+1)) k n al] } next'
theorem eW.c0 (h:eW X w bs bb nv vv g next):w.cell? bb=some (.pointer (some bs)):=by
 exact Tcj
def dS (N:Nat)(t:TypeId)(cs:List Value)(b:Nat)(w:World):Prop:=N<=b/\w.heap[b]?=some (.cells cs.toArray t (0,0))
def rS (N:Nat)(w w':World):Prop:=w.heap.size<=w'.heap.size/\∀ k,N<=k->k<w.heap.size->w'.heap[k]?=w.heap[k]?
theorem dS.ev {b:Nat}(h:dS N t cs b w)(he:rS N w w'):dS N t cs b w':=⟨h.1,(he.2 b h.1 (aq h.2)).trans h.2⟩
theorem dS.new (h:N<=w.heap.size):dS N t cs w.heap.size (w.alloc (.cells cs.toArray t)):=⟨h,b9 w _⟩
theorem rS.alloc (N:Nat)(w:World)(o:Obj):rS N w (w.alloc o):=⟨TcD,fun k _ h=>cj _ _ _ h⟩
theorem rS.refl (N:Nat)(w:World):rS N w w:=⟨bk _,fun _ _ _=>rfl⟩
structure CS (Y:Nat->Prop)(bs bb:Nat)(rK rN nv vv:Value)(w wr:World)(g:af)(next:List Int)(w':World):Prop where
 post:aH Y bs bb rK rN w w' nv vv g next
 size:wr.heap.size<=w'.heap.size
 same:∀ k,Y k->w'.heap[k]?=wr.heap[k]?
 oks:∀ k,k<wr.heap.size->okB Y bb nv vv k->w'.heap[k]?=wr.heap[k]?
theorem CS.alloc (h:CS Y bs bb rK rN nv vv w wr g next w')(o:Obj):CS Y bs bb rK rN nv vv w wr g next (w'.alloc o) :=
 ⟨h.post.after (ae _ _),cA h.size TcD,fun k hk=>(cj _ _ _ (h.post.bld.xlt k hk).2).trans (h.same k hk),fun k hk ho=>(cj _ _ _ (cC hk h.size)).trans (h.oks k hk ho)⟩
theorem CS.step (h:CS Y bs bb rK rN nv vv w wr g next w')(q:aH Y bs bb nv vv w' w2 nv vv g' next'):CS Y bs bb rK rN nv vv w wr g' next' w2 :=
 ⟨h.post.trans q,cA h.size q.mod.size,fun k hk=>(q.loc h.post.bld hk).trans (h.same k hk),fun k hk ho=>(q.loc' h.post.bld ho (cC hk h.size)).trans (h.oks k hk ho)⟩
theorem CS.ev (h:eW Y wr bs bb nv vv g next)(q:aH Y bs bb nv vv w' w2 nv vv g' next'):rS wr.heap.size w' w2 :=
 ⟨q.mod.size,fun k h1 h2=>q.mod.block k h2 (h.nfp h1)⟩
def rZ (X:Nat->Prop)(L:Nat)(av:Value):Nat->Prop:=fun k=>X k\/k=L\/av.ownBlock=some k
theorem aH.pushOwn {α:Type}{V:jx α}{sz:Nat}{ok:Nat->Prop}{w1:World}{L i B gb cap:Nat}{av:Value}{l:List α}{p:α}{u:List Value}(h:aH (rZ X L av) bs bb rK rN w w1 nv vv g next)
  (hL:w.heap.size<=L) (MM:L<w1.heap.size) (hB:L<B) (B4:∀ b,av.ownBlock=some b->B<=b) (hp:jN V sz t B ok w1 av l p u gb cap w2) :
  aH (rZ X L (.slice (some gb) (l.length+1) cap)) bs bb rK rN w (w2.setCell (L,i) (.slice (some gb) (l.length+1) cap)) nv vv g next/\w2.heap[L]?=w1.heap[L]?/\gb≠L/\B<=gb:=by
 have hgb:B<=gb/\gb<w2.heap.size:=by
  obtain ⟨cs,ho,_⟩:=hp.own;exact ho.lt gb rfl
 refine ⟨h.move (((cR.mk hp.grown.os hp.grown.tape hp.grown.output hp.grown.size fun k hk hn=>hp.grown.block k hk fun e=>hn ⟨.inr (.inr e.symm),?_⟩:cR (fun k=>rZ X L av k/\w.heap.size<=k) w1 w2)).setCell (p:=⟨L,i,none⟩) (.inl ⟨.inr (.inl rfl),hL⟩) _) (fun k hk=>?_),hp.grown.block L MM (fun e=>by have:=B4 L e.symm;omega),TcC,hgb.1⟩
 ·have:=B4 k e.symm;omega
 rcases hk with q | q | q
 ·exact .inl (.inl q)
 ·exact .inl (.inr (.inl q))
 obtain rfl:gb=k:=by injection q
 rcases hp.at' with q | q
 ·exact .inl (.inr (.inr q))
 exact .inr ⟨TcC,by simp [World.setCell];omega⟩
def TaL (x0:ByteArray)(x1:Int)(x2:Option Addr):Tab #[.string x0,.int .u64 x1,.bool false,.bool false,.slice none 0 0,.slice x2 1 1]:=⟨⟩
theorem vX (X:Nat->Prop)(bs bb:Nat)(nv vv:Value)(g:af)(next:List Int)(w:World)(h:eW X w bs bb nv vv g next)(hk:Ld g next)(name:ByteArray) :
  Calls prog 21 #[.pointer (some bb),.string name] w (fun e w'=>e=.returned (.tuple #[])/\F6 X bs bb nv vv g next name w w'):=by
 have k0:=hk.n0;have k1:=hk.n1;have k2:=hk.dk.pos;have k3:=hk.dk.le;have k4:=hk.vl;have c0:=h.c0;have cX:=h.Gj;have gO:=h.lt;have sy:¬ bb=bs:=by omega
 go_enter func21,ntmps21;go_wp2;refine aL (fun w'=>w'.cell? bb=some (.pointer (some bs))) 10 [0,1,2,5,6,7] TcE c0 (fun hHeld=>?_);refine fz 0 ?_;refine fz 1 ?_;refine fz 2 ?_;refine fz 5 ?_;refine fz 6 ?_;refine fz 7 ?_;refine fS 3 hHeld ?_;refine fS 8 hHeld ?_;refine lR 4 fun K hK=>?_;go_simp;refine (bO bs 2 3 _ TcC TcC TcC (h.below ((bj _ _).drew)).src).mono ?_;rintro e w1 ⟨v,rfl,hv1,hv2,hs,hm⟩;refine hK.o _ _ ((hm.cell (p:=bb) cX sy).trans c0) ?_;clear hK K;refine lR 9 fun K hK=>?_;go_simp;have OS:bb<w1.heap.size:=cC cX hm.size;refine (bO bs 1 2 _ TcC TcC TcC hs).mono ?_;rintro e w2 ⟨n,rfl,hn1,hn2,hs2,hm2⟩;refine hK.o _ _ ((hm2.cell (p:=bb) OS sy).trans ((hm.cell (p:=bb) cX sy).trans c0)) ?_;clear hK K;refine aP TcE rfl ?_;simp only [cQ,cL];have P2:aH X bs bb nv vv w w2 nv vv g next:=((aH.refl h).drewN 1).read hs hm |>.read hs2 hm2;clear hm hm2 hs hs2;obtain ⟨v,rfl⟩:∃ u:Nat,v=u:=⟨v.toNat,TcC⟩;have hb1:0<=(v:Int)*n/\(v:Int)*n<=6:=by rcases (show n=1\/n=2 by omega) with rfl | rfl <;> omega
 have hb2:=hb1.1;have hb3:=hb1.2;clear hb1;go_wp2;have TP:w.heap.size<=w2.heap.size:=P2.mod.size;have P3:=P2.fresh (Y:=rZ X w2.heap.size (.slice none 0 0)) (ae w2 (.cells #[.int .i64 0,.int .i64 (v*n),.int .i64 2,.slice none 0 0,.int .i64 1,.slice none 0 0,.string es,.string es,.int .i64 0,.int .i64 0,.int .i64 0] 114)) (by
  rintro k (q | rfl | q)
  ·exact .inl q
  ·exact .inr ⟨bk _,TcD⟩
  cases q)
 have HL:=aa (b9 w2 (.cells #[.int .i64 0,.int .i64 (v*n),.int .i64 2,.slice none 0 0,.int .i64 1,.slice none 0 0,.string es,.string es,.int .i64 0,.int .i64 0,.int .i64 0] 114));generalize hL:w2.heap.size=L at *;have ZM:=aa hL;clear hL;go_loopw [7] (fun i wr=>∃ (k:Nat) (av:Value) (al:List aR) (next':List Int),k<=v/\i=.int .i64 k/\al.length=k/\(∀ a∈al,a.vol=false)/\fZ g.Gb next (UO n al) next'/\aH (rZ X L av) bs bb nv vv w wr nv vv g next'/\bF aQ 3 53 (L+1) (fun _=>False) wr av al /\
   wr.heap[L]?=some (.cells #[.int .i64 0,.int .i64 (v*n),.int .i64 2,av,.int .i64 1,.slice none 0 0,.string es,.string es,.int .i64 0,.int .i64 0,.int .i64 0] 114 (0,0))) (fun i _=>v - (intOf i).toNat)
 case atStart=>exact ⟨0,_,[],_,TcC,rfl,rfl,TcD,.nil _,P3,⟨[],gS _ _ _ 3,rfl⟩,HL.o⟩
 obtain ⟨k,av,al,next',hkl,rfl,hal,pS,DB,P,B4,K0⟩:=hrel;have NQ:=aa K0;clear K0;have HV:=aa pS;clear pS;have Qb:=aa hal;clear hal;have dk:=DB.ok hk.dk;obtain ⟨dp,ir,c7,l1,l2⟩:=P.bld.c7;by_cases hlt:k<v
 ·have oY:(k:Int) % (g.Gb.length:Int)=((k % g.Gb.length:Nat):Int):=by simp
  have CD:k % g.Gb.length<g.Gb.length:=Nat.mod_lt _ k2;generalize hd:k % g.Gb.length=d at *;have ZN:=aa hd;clear hd;obtain ⟨D,hD⟩:=aj g.Gb d CD;obtain ⟨m,hm⟩:=aj next' d (by rw [dk.len];exact CD);have QK:=dk.nx d m hm;have HD:=aa hD;clear hD;have HM:=aa hm;clear hm;go_wp2_with fail;refine (qR (rZ X L av) bs bb nv vv _ next' _ P.bld d D m n HD.o HM.o QK.1 TcC TcC TcC).mono ?_;rintro e w3 (⟨rfl,Q,_⟩ | ⟨s,hs1,hs2,rfl,Q,_⟩)
  ·go_wp2;refine eC (results_none rfl _ _ _) rfl ⟨rfl,.inl ⟨_,_,DB,((P.trans Q).after (ae _ _)).fewer (fun k hk=>.inl hk)⟩⟩
  have R3:=P.trans Q;have QP:=aa ((Q.loc P.bld (.inr (.inl rfl))).trans NQ.o);have QQ:bF aQ 3 53 (L+1) (fun _=>False) w3 av al:=by
   obtain ⟨cs,ho,hf⟩:=B4;exact ⟨cs,aC ho fun b e=>Q.loc P.bld (.inr (.inr e)),Flat.moves aQ.moves ⟨Q.mod.size,fun _ _ f=>f.elim⟩ _ _ hf⟩
  have MM:L<w3.heap.size:=aq QP.o;have ZV:∀ o,(w3.alloc o).cell? (Tac L 3)=some av:=fun o=>by simp [World.cell?,cj _ _ _ MM,QP.o]
  obtain ⟨i0,hi,hz0,hz1,hz2⟩:=cy kL;have HI:=aa hi;clear hi;have H0:=aa hz0;clear hz0;have H1:=aa hz1;clear hz1;have H2:=aa hz2;clear hz2;have hll:al.length<=1000000:=by have:=Qb.o;omega
  have Lg:Below w3.heap.size w3 ((w3.alloc (.cells (Tas D.name s) 53)).alloc (.cells (Tas D.name s) 53)):=((bj _ _).alloc (bk _) _).alloc TcD _;go_wp2_with (at_builtin;refine dX aQ.moves underlying49 HI.o H0.o H1.o H2.o rfl TcF TcF rfl _ _ rfl (L+1) (fun _=>False) av al ⟨false,D.name,s⟩ rfl ?c1 (w3.heap.size+1) 1 [.bool false,.string D.name,.int .i64 s] rfl rfl rfl ?c2 ?c3 hll ?c4 (fun _ _ f=>f) ?_)
  case c1 =>
   obtain ⟨cs,ho,hf⟩:=QQ;exact ⟨cs,eF ho fun i h1 h2=>Lg.block i h2,Flat.moves aQ.moves ⟨Lg.size,fun _ _ f=>f.elim⟩ _ _ hf⟩
  case c2=>simp [Value.oneCell']
  case c3 =>
   intro j y hy;exact aD TcD TcX
  case c4=>simp;omega
  intro gb cap w4 hp;obtain ⟨R5,e4,K2,TR⟩:=(R3.after Lg).pushOwn (i:=3) TP (by have:=Lg.size;omega) (Nat.lt_succ_self L) (fun b e=>by
   obtain ⟨cs,ho,_⟩:=QQ;exact (ho.lt b e).1) hp
  have e5:=e4.trans (Lg.block L MM);have y3:=(cd (w:=w3) (w':=w4) (a:=⟨L,3,none⟩) e5).trans (show w3.cell? (Tac L 3)=some av by simp [World.cell?,QP.o]);have yf:=(rh (w:=w3) (w':=w4) (a:=⟨L,3,none⟩) e5).trans (show w3.frozen? (Tac L 3)=false by simp [World.frozen?,QP.o]);have ZW:=aa (e5.trans QP.o);have HP:=aa hp;clear hp e4 e5 ZV;go_wp2;go_roundw
  case rel =>
   refine ⟨k+1,_,al++[⟨false,D.name,s⟩],_,TcC,TcG,by rw [cD,Qb.o];rfl,fun a ha=>?_,?_,R5,?_,?_⟩
   ·rcases List.mem_append.1 ha with q | q
    ·exact HV.o a q
    simp at q;rw [q]
   ·rw [UO,gl];exact .snoc DB HD.o HM.o hs1 hs2 hn1
   ·obtain ⟨cs,ho,hf⟩:=HP.o.own;refine ⟨cs,aC ho fun b e=>?_,Flat.moves aQ.moves ⟨TcR,fun _ _ f=>f.elim⟩ _ _ hf⟩;obtain rfl:gb=b:=by injection e
    exact bw _ _ _ _ K2
   exact block_setCell (cs:=#[_,_,_,_,_,_,_,_,_,_,_]) (i:=3) _ ZW.o
  simp [intOf];omega
 obtain rfl:k=v:=by omega
 have c8:=P.bld.c8;have MM:L<wr.heap.size:=aq NQ.o;have qL:=cr NQ.o;obtain ⟨q0,q1,q2,q3,q4,q5,q6,q7,q8,q9,q10⟩:=IC qL;have ZQ:=aa qL;clear qL;go_wp2;refine aL (fun w'=>w'.cell? (Tac bb 8)=some vv/\w'.cell? L=some (.int .i64 0)/\w'.cell? (Tac L 1)=some (.int .i64 (k*n))/\w'.cell? (Tac L 2)=some (.int .i64 2)/\w'.cell? (Tac L 3)=some av/\w'.cell? (Tac L 4)=some (.int .i64 1)/\w'.cell? (Tac L 5)=some (.slice none 0 0)/\w'.cell? (Tac L 6)=some (.string es)/\w'.cell? (Tac L 7)=some (.string es)/\w'.cell? (Tac L 8)=some (.int .i64 0)/\w'.cell? (Tac L 9)=some (.int .i64 0)/\w'.cell? (Tac L 10)=some (.int .i64 0)) 13 [0,1,2,3,4,6,7] TcE (by simp [c8,q0,q1,q2,q3,q4,q5,q6,q7,q8,q9,q10]) (fun hHeld=>?_);refine fz 0 ?_;refine fz 1 ?_;refine fz 2 ?_;refine fz 3 ?_;refine fz 4 ?_;refine fz 6 ?_;refine fz 7 ?_;refine fS 5 hHeld ?_;refine fS 9 hHeld ?_;generalize Lh:oX g.id (g.next+1)=mz;have Mp:=aa Lh;clear Lh;clear q0 q1 q2 q3 q4 q5 q6 q7 q8 q9 q10 c8 c7;have HC0:CS (rZ X L av) bs bb nv vv nv vv w wr.drew g next' wr.drew:=⟨P.drewN 1,bk _,fun _ _=>rfl,fun _ _ _=>rfl⟩
 have U4:bF aQ 3 53 (L+1) (fun _=>False) wr.drew av al:=by
  obtain ⟨cs,ho,hf⟩:=B4;exact ⟨cs,ho,Flat.moves (ok:=fun _=>False) (w:=wr) (w':=wr.drew) aQ.moves ⟨bk _,fun _ _ f=>f.elim⟩ _ _ hf⟩
 generalize hwr:wr.drew=wd at *;have pB:eW (rZ X L av) wd bs bb nv vv g next':=HC0.post.bld;have ZX:Hid (wd.heap[L]?=some (.cells #[.int .i64 0,.int .i64 (k*n),.int .i64 2,av,.int .i64 1,.slice none 0 0,.string es,.string es,.int .i64 0,.int .i64 0,.int .i64 0] 114 (0,0))):=by
  rw [<- hwr];exact NQ.o
 clear hwr;refine fE (idx:=[(8,59),(10,61),(11,62),(12,63)])
  (fun i=>[i]) (fun i vs w'=>match i with
   | 8=>vs 8=.int .u64 mz
   | 10=>∃ b,vs 10=.slice (some ⟨b,0,none⟩) 1 1/\dS wd.heap.size 114 [.int .i64 0,.int .i64 (k*n),.int .i64 2,av,.int .i64 1,.slice none 0 0,.string es,.string es,.int .i64 0,.int .i64 0,.int .i64 0] b w'
   | 11=>∃ b,vs 11=.agg (TaL name mz (some ⟨b,0,none⟩))/\dS wd.heap.size 114 [.int .i64 0,.int .i64 (k*n),.int .i64 2,av,.int .i64 1,.slice none 0 0,.string es,.string es,.int .i64 0,.int .i64 0,.int .i64 0] b w'
   | 12=>∃ c b,vs 12=.slice (some ⟨c,0,none⟩) 1 1/\dS wd.heap.size 68 [.string name,.int .u64 mz,.bool false,.bool false,.slice none 0 0,.slice (some ⟨b,0,none⟩) 1 1] c w'/\dS wd.heap.size 114 [.int .i64 0,.int .i64 (k*n),.int .i64 2,av,.int .i64 1,.slice none 0 0,.string es,.string es,.int .i64 0,.int .i64 0,.int .i64 0] b w'
   | _=>True)
  (fun d w'=>CS (rZ X L av) bs bb nv vv nv vv w wd { g with next:=if d 8=true then g.next+1 else g.next } next' w') (fun _=>rS wd.heap.size) TcE rfl ?cs ?st (fun _ _ _ _ h=>h) ?c0 ?ob ?fin
 case c0=>exact HC0
 case cs =>
  intro d w' hC;have e:=(hC.same L (.inr (.inl rfl))).trans ZX.o;refine ⟨hC.post.bld.c8,?_⟩;simp [World.cell?,e]
 case st =>
  intro p hp q _ _ vs us w1 w2 ha hF he;simp only [dr,cY,dg] at hp;rcases hp with rfl | rfl | rfl | rfl
  ·exact (ha 8 (cG ..)).trans hF
  ·obtain ⟨b,e,hb⟩:=hF;exact ⟨b,(ha 10 (cG ..)).trans e,hb.ev he⟩
  ·obtain ⟨b,e,hb⟩:=hF;exact ⟨b,(ha 11 (cG ..)).trans e,hb.ev he⟩
  obtain ⟨c,b,e,hc,hb⟩:=hF;exact ⟨c,b,(ha 12 (cG ..)).trans e,hc.ev he,hb.ev he⟩
 case ob =>
  refine kA.cons (deps:=[]) rfl rfl TcE (fun vs d w' h0 hC hF K hK=>?_) ?_
  ·clear hF;simp only at h0;simp only [h0,pj,fY] at hC;have hb:=hC.post.bld;simp only [over,cq,Act.put];go_simp;refine (vS (rZ X L av) bs bb nv vv g next' w' hb TcC TcC).mono ?_;rintro e w2 ⟨rfl,q⟩;refine hK.o (.int .u64 (oX g.id (g.next+1))) w2 ?_ (CS.ev pB q) ((aw rfl).trans (fj (Value.int .u64) Mp.o)) _ ?_
   ·simp only [h0,nj,BEq.rfl,ej];exact hC.step q
   simp only [over,cq,aS]
  refine kA.cons (deps:=[]) rfl rfl TcE (fun vs d w' h0 hC hF K hK=>?_) ?_
  ·clear hF;simp only [over,cq,Act.put];go_simp;refine hK.o (.slice (some w'.heap.size) 1 1) _ ?_ (rS.alloc _ _ _) ⟨_,aw rfl,dS.new hC.size⟩ _ ?_
   ·simp only [show (d 8||(8:Nat) == 10)=d 8 from by simp];exact hC.alloc _
   simp only [over,cq,aS]
  refine kA.cons (deps:=[(8,59),(10,61)]) rfl rfl TcE (fun vs d w' h0 hC hF K hK=>?_) ?_
  ·have f8:=(hF (8,59) TcD).2;have f10:=(hF (10,61) TcD).2;clear hF;simp only [over,cq,cF,aS] at f8 f10 ⊢;obtain ⟨b,e10,hb⟩:=f10;rw [f8,e10] at ⊢;go_simp;refine hK.o (.agg (TaL name mz (some ⟨b,0,none⟩))) _ ?_ (rS.refl _ _) ⟨_,aw rfl,hb⟩ _ ?_
   ·simp only [show (d 8||(8:Nat) == 11)=d 8 from by simp];exact hC
   simp only [over,cq,cF,aS,f8,e10]
  refine kA.cons (deps:=[(11,62)]) rfl rfl TcE (fun vs d w' h0 hC hF K hK=>?_) trivial;have f11:=(hF (11,62) TcD).2;clear hF;simp only [over,cq,cF,aS] at f11 ⊢;obtain ⟨b,e11,hb⟩:=f11;rw [e11] at ⊢;go_simp;refine hK.o (.slice (some w'.heap.size) 1 1) _ ?_ (rS.alloc _ _ _) ⟨_,b,aw rfl,dS.new hC.size,hb.ev (rS.alloc _ _ _)⟩ _ ?_
  ·simp only [show (d 8||(8:Nat) == 12)=d 8 from by simp];exact hC.alloc _
  simp only [over,cq,cF,aS,e11]
 case fin =>
  intro vs d w' hC hF;have f8:=(hF (8,59) TcD).2;have f10:=(hF (10,61) TcD).2;have f11:=(hF (11,62) TcD).2;have f12:=(hF (12,63) TcD).2;have hd8:=(hF (8,59) TcD).1;clear hF;simp only [over,cq,cF,aS,cQ,cL] at f8 f10 f11 f12 hd8 ⊢;obtain ⟨c,b,e12,hc,hb⟩:=f12;rw [e12];simp only [hd8,ej] at hC;generalize vs 8=v8;generalize vs 10=v10;generalize vs 11=v11;clear f8 f10 f11 hd8 e12;have P':aH X bs bb nv vv w w' nv vv { g with next:=g.next+1 } next':=hC.post.fewer fun k hk=>.inl hk
  have TS:eW X wd bs bb nv vv g next':=pB.fewer fun k hk=>.inl hk;have hbl:=P'.bld.Gj
  have RA:ck aQ 3 (okB X bb nv vv) w' [av] al:=by
   have ha:bF aQ 3 53 (L+1) (fun _=>False) w' av al:=by
    obtain ⟨cs,ho,hf⟩:=U4;exact ⟨cs,aC ho fun b e=>hC.same b (.inr (.inr e)),Flat.moves aQ.moves ⟨hC.size,fun _ _ f=>f.elim⟩ _ _ hf⟩
   refine ha.rd aQ.moves TcF (fun _ _ f=>f.elim) (fun b e=>⟨(pB.xlt b (.inr (.inr e))).1,fun q=>pB.xn b q (.inr (.inr e)),fun q=>pB.xv b q (.inr (.inr e)),fun hx=>?_⟩);obtain ⟨cs,ho,_⟩:=ha;have:=(ho.lt b e).1;have:=(h.xlt b hx).2;omega
  have RV:aN (okB X bb nv vv) w' [.string name,.int .u64 mz,.bool false,.bool false,.slice none 0 0,.slice (some b) 1 1] (mf name mz k n al) :=
   ⟨_,_,rfl,ck.nil,ck.one hb.2 (TS.okNew hb.1) rfl ⟨_,_,rfl,RA,ck.nil⟩⟩
  have kf:=P'.bld.ready RV w' (bj _ _);obtain ⟨i0,hi,hz0,hz1,hz2⟩:=cy zT;refine dX aN.moves underlying28 hi hz0 hz1 hz2 rfl TcF TcF rfl _ _ TcI (bb+1) (fun b=>okB X bb nv vv b/\b<w'.heap.size) vv g.F9 (mf name mz k n al) TcI kf.1 c 1 [.string name,.int .u64 mz,.bool false,.bool false,.slice none 0 0,.slice (some ⟨b,0,none⟩) 1 1] TcI TcI kf.2 TcQ (fun j y hy=>?_) TcC TcC H8 (fun gb cap w3 hp=>?_)
  ·simp only [World.cell?,hc.2];simpa using hy
  obtain ⟨hx1,hx2⟩:=P'.bld.pushKeeps (bj _ _) hp;have y8:=(cd (w:=w') (w':=w3) (a:=⟨bb,8,none⟩) hx1).trans P'.bld.c8;have yf:=(rh (w:=w') (w':=w3) (a:=⟨bb,8,none⟩) hx1).trans (P'.bld.bfr 8);have R5:=P'.push (bj _ _) hp (bk _);clear hp hx1 hx2 kf RV RA hC hc hb hi hz0 hz1 hz2;simp only [aS];go_wp2;go_end0
  have hv:=Mp.o;subst hv;exact ⟨rfl,.inr ⟨k,n,al,next',_,hv1,hv2,hn1,hn2,by rw [Qb.o],HV.o,DB,R5⟩⟩
end Go.Proofs.YtaagglbgohjldaaGreatDoor
