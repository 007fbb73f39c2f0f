/- Lemmas: NamC. -/
import Derived.Test.YtjdfihglehfelaaGreatDoorPf06
set_option maxRecDepth 100000
set_option maxHeartbeats 32000000
set_option linter.all false
namespace Go.Proofs.YtjdfihglehfelaaGreatDoor
open Go.Proofs.Tryz
open Go.RowKit Go.Shelf
def nV:List (List UInt8):=[[95,108,111,103],[95,100,97,116,97],[95,109,101,116,97],[95,115,112,97,114,101]]
def xg:List UInt8:=[95,108,101,103]
def jr (l:List UInt8):Option (List UInt8) :=
 match nV.find? (fun p=>Lib.hasSuffix l p) with
 | some p=>some (l.take (l.length - p.length))
 | none=>if 0<l.length/\48<=(l.getLastD 0).toNat/\(l.getLastD 0).toNat<=55/\Lib.hasSuffix l.dropLast xg=true then some (l.dropLast.take (l.dropLast.length - 4)) else none
def AW (w:World):Prop:=0<w.heap.size/\∀ (i:Nat) (l:List UInt8),([] :: nV)[i]?=some l->w.cell? ⟨0,i,none⟩=some (.string ⟨l.toArray⟩)
theorem AW.below {w w':World}(h:AW w)(hb:Below w.heap.size w w'):AW w':=⟨cC h.1 hb.size,fun i l hl=>(hb.cell (p:=⟨0,i,none⟩) h.1).trans (h.2 i l hl)⟩
theorem AW.mod {F:Nat->Prop}{w w':World}(h:AW w)(hb:cR F w w')(hF:¬ F 0):AW w':=⟨cC h.1 hb.size,fun i l hl=>(hb.cell (p:=⟨0,i,none⟩) h.1 hF).trans (h.2 i l hl)⟩
def Ep (s:ByteArray)(w:World)(e:Ending)(w':World):Prop:=∃ r:List UInt8,e=.returned (.tuple #[.string ⟨r.toArray⟩,.bool (jr s.data.toList).isSome])/\(∀ x,jr s.data.toList=some x->r=x)/\w=w'
theorem Es (s:ByteArray)(h:0<s.size):s[s.size - 1]'(by omega)=s.data.toList.getLastD 0:=by
 obtain ⟨⟨l⟩⟩:=s;show l[l.length - 1]'(by show l.length - 1<l.length;have:0<l.length:=h;omega)=_;rw [List.getLastD_eq_getLast?,List.getLast?_eq_getElem?,lO];rfl
theorem Ac (s:ByteArray)(w:World)(hs:s.size<=9223372036854775807)(hS:AW w) :
  Calls prog 183 #[.string s] w (Ep s w):=by
 have HS:=aa hS;clear hS;go_enter func183,ntmps183;go_wp2
 go_loop [11] (fun i=>∃ k:Nat,k<=4/\i=.int .i64 k/\(∀ j p,j<k->nV[j]?=some p->Lib.hasSuffix s.data.toList p=false)) (fun i=>4 - (intOf i).toNat)
 case atStart=>exact ⟨0,cg _,rfl,fun j p hj=>by omega⟩
 case round =>
  obtain ⟨k,hk,rfl,hno⟩:=hrel;have IW:=aa hno;clear hno
  by_cases hlt:k<4
  ·obtain ⟨p,hp⟩:=aj nV k hlt
   have hc:w.cell? ⟨0,1+k,none⟩=some (.string ⟨p.toArray⟩):=HS.o.2 (1+k) p (by rw [Nat.add_comm,List.getElem?_cons_succ];exact hp);have HP:=aa hp;clear hp
   go_wp2_with fail
   refine (Any.strings_CutSuffix Tryz.lays104 s ⟨p.toArray⟩ _ hs).mono ?_;rintro e w' ⟨rfl,rfl⟩;cases MO:Lib.hasSuffix s.data.toList (⟨p.toArray⟩:ByteArray).data.toList with
   | true =>
    go_wp2;go_ret2
    have hf:jr s.data.toList=some (s.data.toList.take (s.data.toList.length - p.length)):=by
     have:nV.find? (fun p=>Lib.hasSuffix s.data.toList p)=some p:=by
      rw [List.find?_eq_some_iff_getElem];obtain ⟨hk4,ZU⟩:=List.getElem?_eq_some_iff.1 HP.o;refine ⟨MO,k,hk4,ZU,fun j hj=>?_⟩;rw [IW.o j _ hj (lO (by omega))];rfl
     simp only [jr,this]
    refine ⟨s.data.toList.take (s.data.toList.length - p.length),?_,fun x hx=>?_,rfl⟩
    ·rw [hf]
     have:Lib.trimSuffix s.data.toList p=s.data.toList.take (s.data.toList.length - p.length):=by
      unfold Lib.trimSuffix;rw [aw MO]
     rw [<- this];rfl
    ·rw [hf] at hx
     exact gj hx
   | false =>
    go_wp2;go_round
    case rel =>
     refine ⟨k+1,by omega,by go_num,fun j q hj hq=>?_⟩
     by_cases hjk:j=k
     ·subst hjk
      rw [HP.o] at hq;cases hq
      exact MO
     ·exact IW.o j q (by omega) hq
    case measure=>simp [intOf];omega
  ·obtain rfl:k=4:=by omega
   have HN:Hid (nV.find? (fun p=>Lib.hasSuffix s.data.toList p)=none):=aa (by
    rw [List.find?_eq_none];intro p hp;obtain ⟨j,hj⟩:=fc hp;rw [IW.o j p (List.getElem?_eq_some_iff.1 hj).1 hj]
    simp)
   by_cases h0:0<s.size
   ·have HL:=aa (Es s h0)
    have X5:∀ (_:¬ (48<=(s.data.toList.getLastD 0).toNat/\(s.data.toList.getLastD 0).toNat<=55)),jr s.data.toList=none:=fun h=>by
     simp only [jr,HN.o];rw [bh (fun q=>h ⟨q.2.1,q.2.2.1⟩)]
    have X6:=aa X5;clear X5
    go_wp2_with fail
    ·have hq:(((s[s.size - 1].toNat:Int))<48)\/55<(s[s.size - 1].toNat:Int):=by
      have:((s.size:Int) - 1<0\/(s[s.size - 1].toNat:Int)<48)\/55<(s[s.size - 1].toNat:Int):=by assumption
      omega
     go_ret2;have hn:=X6.o (by rw [<- HL.o];omega);refine (show Ep s w _ w from ⟨s.data.toList,by rw [hn];rfl,(fun x hx=>by rw [hn] at hx;cases hx),rfl⟩)
    ·have hq:((0:Int)<=(s.size:Int) - 1/\48<=(s[s.size - 1].toNat:Int))/\(s[s.size - 1].toNat:Int)<=55:=by assumption
     have hq1:48<=(s.data.toList.getLastD 0).toNat/\(s.data.toList.getLastD 0).toNat<=55:=by rw [<- HL.o];omega
     clear hq;have HQ:=aa hq1;clear hq1;refine (Any.strings_CutSuffix Tryz.lays104 _ _ _ (by simp;omega)).mono ?_;rintro e w' ⟨rfl,rfl⟩;go_wp2;go_ret2;cases MO:Lib.hasSuffix s.data.toList.dropLast xg with
     | true =>
      have hf:jr s.data.toList=some (s.data.toList.dropLast.take (s.data.toList.dropLast.length - 4)):=by
       simp only [jr,HN.o];rw [aw ⟨by simpa using h0,HQ.o.1,HQ.o.2,MO⟩]
      refine ⟨s.data.toList.dropLast.take (s.data.toList.dropLast.length - 4),?_,fun x hx=>?_,rfl⟩
      ·rw [hf]
       have:Lib.trimSuffix s.data.toList.dropLast xg=s.data.toList.dropLast.take (s.data.toList.dropLast.length - 4):=by
        unfold Lib.trimSuffix;rw [aw MO];rfl
       rw [<- this];show Ending.returned (.tuple #[_,.bool (Lib.hasSuffix _ xg)])=_;rw [MO];rfl
      ·rw [hf] at hx
       exact gj hx
     | false =>
      have hf:jr s.data.toList=none:=by
       simp only [jr,HN.o];rw [bh (fun q=>by rw [MO] at q;exact absurd q.2.2.2 (by simp))]
      refine ⟨Lib.trimSuffix s.data.toList.dropLast xg,?_,(fun x hx=>by rw [hf] at hx;cases hx),rfl⟩
      rw [hf];show Ending.returned (.tuple #[_,.bool (Lib.hasSuffix _ xg)])=_;rw [MO];rfl
    ·have hq:(s[s.size - 1].toNat:Int)<48:=by assumption
     go_ret2;have hn:=X6.o (by rw [<- HL.o];omega);refine (show Ep s w _ w from ⟨s.data.toList,by rw [hn];rfl,(fun x hx=>by rw [hn] at hx;cases hx),rfl⟩)
   ·obtain rfl:=oI h0
    go_wp2;go_ret2;exact (show Ep ⟨#[]⟩ w _ w from ⟨[],rfl,(fun x hx=>by cases hx),rfl⟩)
def jo (s:ByteArray):Bool:=qA s&&decide (s.size<=24)&&!(jr s.data.toList).isSome
theorem fT (s:ByteArray)(w:World)(hs:s.size<=9223372036854775807)(hS:AW w) :
  Calls prog 133 #[.string s] w fun e w'=>e=.returned (.bool (jo s))/\Below w.heap.size w w':=by
 have HS:=aa hS;clear hS;go_enter func133,ntmps133
 go_wp2_with fail
 refine (Ac s _ hs HS.o).mono ?_;rintro e w' ⟨r,rfl,_,rfl⟩
 go_wp2_with fail
 refine (Du s _ hs).mono ?_;rintro e w1 ⟨rfl,hb1⟩;have cU:=aa hb1;clear hb1;cases hn:qA s with
 | false =>
  go_wp2;go_ret;exact ⟨ah (by simp [jo,hn]),cU.o⟩
 | true =>
  by_cases h24:s.size<=24
  ·cases hc:(jr s.data.toList).isSome with
   | false =>
    go_wp2;go_ret;exact ⟨ah (by simp [jo,hn,h24,hc]),cU.o⟩
   | true =>
    go_wp2;go_ret;exact ⟨ah (by simp [jo,hn,h24,hc]),cU.o⟩
  ·go_wp2
   go_ret;exact ⟨ah (by simp [jo,hn,h24]),cU.o⟩
theorem pU {l x:List UInt8}(h:jr l=some x):x.length<l.length:=by
 unfold jr at h;cases hf:nV.find? (fun p=>Lib.hasSuffix l p) with
 | some p =>
  rw [hf] at h;obtain rfl:=gj h;have hp:=eV hf;have hs:=List.find?_some hf;have h1:p.length<=l.length:=(List.isSuffixOf_iff_suffix.1 hs).length_le
  have h2:0<p.length:=by
   simp only [nV,dr,cY,dg] at hp;rcases hp with rfl | rfl | rfl | rfl <;> simp
  rw [ey];omega
 | none =>
  rw [hf] at h
  by_cases c:0<l.length/\48<=(l.getLastD 0).toNat/\(l.getLastD 0).toNat<=55/\Lib.hasSuffix l.dropLast xg=true
  ·simp only [aw c] at h
   obtain rfl:=gj h;rw [ey,List.length_dropLast];omega
  ·simp only [bh c] at h
   cases h
def lK:Nat->List UInt8->List UInt8 × Nat
 | 0,l=>(l,0)
 | f+1,l=>match jr l with
  | none=>(l,0)
  | some x=>((lK f x).1,(lK f x).2+1)
def gu (l:List UInt8):List UInt8 × Nat:=lK l.length l
theorem mG:∀ (f:Nat) (l:List UInt8),l.length<=f->lK f l=lK l.length l
 | 0,l,h=>by rw [show l.length=0 by omega]
 | f+1,l,h=>by
  cases hl:l.length with
  | zero =>
   have:l=[]:=fX hl;subst this;rfl
  | succ n =>
   unfold lK;cases hc:jr l with
   | none=>rfl
   | some x =>
    have:=pU hc;simp only [];rw [mG f x (by omega),mG n x (by omega)]
theorem yc {l:List UInt8}(h:jr l=none):gu l=(l,0):=by
 unfold gu;cases hl:l.length with
 | zero=>rfl
 | succ n=>simp only [lK,h]
theorem zI {l x:List UInt8}(h:jr l=some x):gu l=((gu x).1,(gu x).2+1):=by
 have hx:=pU h;unfold gu;cases hl:l.length with
 | zero=>omega
 | succ n =>
  simp only [lK,h];rw [mG n x (by omega)]
theorem Cy (l:List UInt8)(w:World)(hs:l.length<=9223372036854775807)(hS:AW w) :
  Calls prog 187 #[.string ⟨l.toArray⟩] w fun e w'=>e=.returned (.tuple #[.string ⟨(gu l).1.toArray⟩,.int .i64 (gu l).2])/\w=w':=by
 have HS:=aa hS;clear hS;go_enter func187,ntmps187;go_wp2
 go_loop [0,4] (fun s n=>∃ (r:List UInt8) (k:Nat),s=.string ⟨r.toArray⟩/\n=.int .i64 k/\r.length+k<=l.length/\(gu l).1=(gu r).1/\(gu l).2=(gu r).2+k) (fun s _=>match s with | .string x=>x.size | _=>0)
 case atStart=>exact ⟨l,0,rfl,rfl,by omega,rfl,rfl⟩
 case round =>
  obtain ⟨r,k,rfl,rfl,hrk,h1,h2⟩:=hrel;have H1:=aa h1;clear h1;have H2:=aa h2;clear h2
  go_wp2_with fail
  refine (Ac ⟨r.toArray⟩ _ (by show r.length<=_;omega) HS.o).mono ?_;rintro e w' ⟨x,rfl,hx,rfl⟩;have HX:=aa hx;clear hx;cases hc:jr (⟨r.toArray⟩:ByteArray).data.toList with
  | none =>
   go_wp2;go_ret2;have:=yc (l:=r) hc;exact ⟨by rw [H1.o,H2.o,this];simp,rfl⟩
  | some y =>
   obtain rfl:=HX.o y hc;have hlt:=pU (l:=r) hc;have HC:=aa (show jr r=some x from hc);go_wp2;go_round
   case rel =>
    have:=zI HC.o;exact ⟨x,k+1,rfl,by go_num,by omega,by rw [H1.o,this],by rw [H2.o,this];omega⟩
   case measure=>simp [ByteArray.size];omega
def zH (s:ByteArray):Bool:=decide (0<(gu s.data.toList).2)&&decide (s.size<=40)&&jo ⟨(gu s.data.toList).1.toArray⟩
theorem bytes_eta (s:ByteArray):s=⟨s.data.toList.toArray⟩:=by
 obtain ⟨⟨l⟩⟩:=s;rfl
theorem uB:∀ (f:Nat) (l:List UInt8),(lK f l).1.length<=l.length
 | 0,l=>bk _
 | f+1,l=>by
  unfold lK;cases hc:jr l with
  | none=>exact bk _
  | some x=>exact cA (uB f x) (Nat.le_of_lt (pU hc))
theorem qO (s:ByteArray)(w:World)(hs:s.size<=9223372036854775807)(hS:AW w) :
  Calls prog 139 #[.string s] w fun e w'=>e=.returned (.bool (zH s))/\Below w.heap.size w w':=by
 have HS:=aa hS;clear hS;have hlen:(gu s.data.toList).1.length<=9223372036854775807:=cA (uB _ _) (by simpa using hs);have pL:=aa (Cy s.data.toList w (by simpa using hs) HS.o);rw [<- bytes_eta] at pL;go_enter func139,ntmps139
 go_wp2_with fail
 refine pL.o.mono ?_;clear pL;rintro e w' ⟨rfl,rfl⟩;have HH:Hid (zH s=(decide (0<(gu s.data.toList).2)&&decide (s.size<=40)&&jo ⟨(gu s.data.toList).1.toArray⟩)):=aa rfl;generalize hb:(gu s.data.toList).1=b at *;generalize hk:(gu s.data.toList).2=k at *;clear hb hk
 by_cases h0:0<k
 ·by_cases h40:s.size<=40
  ·go_wp2_with fail
   refine (fT ⟨b.toArray⟩ _ hlen HS.o).mono ?_;rintro e w1 ⟨rfl,hb1⟩;have cU:=aa hb1;clear hb1;go_wp2;go_ret;exact ⟨ah (by rw [HH.o];simp [h0,h40]),cU.o⟩
  ·go_wp2
   go_ret;exact ⟨ah (by rw [HH.o];simp [h40]),bj _ _⟩
 ·go_wp2
  go_ret;exact ⟨ah (by rw [HH.o];simp [h0]),bj _ _⟩
theorem sQ (a b:List UInt8):(⟨a.toArray⟩:ByteArray)++(⟨b.toArray⟩:ByteArray)=⟨(a++b).toArray⟩:=by
 apply ByteArray.ext;simp
def iK (l vd:List UInt8):List UInt8 × Int :=
 if jo ⟨l.toArray⟩=false/\zH ⟨l.toArray⟩=false then ([],10) else if vd=[] then ([],1) else if 40<l.length+vd.length then ([],4) else (l++vd,0)
theorem dR (l vd:List UInt8)(w:World)(hs:l.length<=1000000000)(hs2:vd.length<=100)(hS:AW w) :
  Calls prog 213 #[.string ⟨l.toArray⟩,.string ⟨vd.toArray⟩] w fun e w'=>e=.returned (.tuple #[.string ⟨(iK l vd).1.toArray⟩,.int .i64 (iK l vd).2])/\Below w.heap.size w w':=by
 have HS:=aa hS;clear hS;have hz:(⟨l.toArray⟩:ByteArray).size=l.length:=rfl;have hz2:(⟨vd.toArray⟩:ByteArray).size=vd.length:=rfl;have HW:=aa (iK.eq_1 l vd);go_enter func213,ntmps213
 go_wp2_with fail
 refine (fT ⟨l.toArray⟩ _ (by omega) HS.o).mono ?_;rintro e w1 ⟨rfl,hb1⟩;have HS1:=aa (HS.o.below hb1);have cU:=aa hb1;clear hb1
 have rest:∀ w2:World,Below w.heap.size w w2->(jo ⟨l.toArray⟩=true\/zH ⟨l.toArray⟩=true)->iK l vd=if vd=[] then ([],1) else if 40<l.length+vd.length then ([],4) else (l++vd,0):=fun w2 _ h=>by
  rw [HW.o,bh];rintro ⟨a,b⟩;rcases h with h | h
  ·rw [a] at h;cases h
  ·rw [b] at h;cases h
 cases hv:jo ⟨l.toArray⟩ with
 | true =>
  have HR:=aa (rest w (bj _ _) (.inl hv));clear rest HW
  by_cases IX:vd=[]
  ·subst IX
   go_wp2;go_ret2;exact ⟨by rw [HR.o];rfl,cU.o⟩
  ·have OQ:vd.isEmpty=false:=by simpa using IX
   by_cases h40:40<l.length+vd.length
   ·have HX:Hid (iK l vd=([],4)):=aa (by rw [HR.o,bh IX,aw h40])
    go_wp2;go_ret2;exact ⟨by rw [HX.o];rfl,cU.o⟩
   ·have HX:Hid (iK l vd=(l++vd,0)):=aa (by rw [HR.o,bh IX,bh h40])
    go_wp2;go_ret2;exact ⟨by rw [HX.o];exact fj (fun b=>Ending.returned (.tuple #[.string b,.int .i64 0])) (sQ l vd),cU.o⟩
 | false =>
  go_wp2_with fail
  refine (qO ⟨l.toArray⟩ _ (by omega) HS1.o).mono ?_;rintro e w2 ⟨rfl,hb2⟩;have cm:=aa (cU.o.trans (hb2.mono cU.o.size));clear hb2;cases hh:zH ⟨l.toArray⟩ with
  | true =>
   have HR:=aa (rest w (bj _ _) (.inr hh));clear rest HW
   by_cases IX:vd=[]
   ·subst IX
    go_wp2;go_ret2;exact ⟨by rw [HR.o];rfl,cm.o⟩
   ·have OQ:vd.isEmpty=false:=by simpa using IX
    by_cases h40:40<l.length+vd.length
    ·have HX:Hid (iK l vd=([],4)):=aa (by rw [HR.o,bh IX,aw h40])
     go_wp2;go_ret2;exact ⟨by rw [HX.o];rfl,cm.o⟩
    ·have HX:Hid (iK l vd=(l++vd,0)):=aa (by rw [HR.o,bh IX,bh h40])
     go_wp2;go_ret2;exact ⟨by rw [HX.o];exact fj (fun b=>Ending.returned (.tuple #[.string b,.int .i64 0])) (sQ l vd),cm.o⟩
  | false =>
   have HX:Hid (iK l vd=([],10)):=aa (by rw [HW.o,aw ⟨hv,hh⟩]);clear rest HW;go_wp2;go_ret2;exact ⟨by rw [HX.o];rfl,cm.o⟩
def bq (k:Int):List UInt8:=if 0<=k/\k<=7 then xg++[UInt8.ofNat (48+k.toNat)] else []
def dH (k:Int):List UInt8:=if 1<=k/\k<=4 then nV.getD (k.toNat - 1) [] else []
theorem wC (l:List UInt8)(k:Int)(w:World)(hs:l.length<=1000000000)(hS:AW w) :
  Calls prog 194 #[.string ⟨l.toArray⟩,.int .i64 k] w fun e w'=>e=.returned (.tuple #[.string ⟨(iK l (dH k)).1.toArray⟩,.int .i64 (iK l (dH k)).2])/\Below w.heap.size w w':=by
 have HS:=aa hS;clear hS
 by_cases h1:1<=k/\k<=4
 ·obtain ⟨i,hi⟩:∃ i:Nat,k=((i+1:Nat):Int):=⟨k.toNat - 1,by omega⟩
  subst hi;obtain ⟨p,hp⟩:=aj nV i (by show i<4;omega);have hc:w.cell? ⟨0,i+1,none⟩=some (.string ⟨p.toArray⟩):=HS.o.2 (i+1) p (by rw [List.getElem?_cons_succ];exact hp)
  have CH:dH ((i+1:Nat):Int)=p:=by
   unfold dH;rw [aw h1];simp [hp]
  rw [CH]
  have hpl:p.length<=100:=by
   have:=ct hp;simp only [nV,dr,cY,dg] at this;rcases this with rfl | rfl | rfl | rfl <;> simp
  clear CH hp;have hi5:i<4:=by omega
  go_enter func194,ntmps194
  go_wp2_with fail
  refine (dR l p _ hs hpl HS.o).mono ?_;rintro e w1 ⟨rfl,hb1⟩;have cU:=aa hb1;clear hb1;go_wp2;go_ret2;exact ⟨rfl,cU.o⟩
 ·have CH:dH k=[]:=by unfold dH;rw [bh h1]
  rw [CH];clear CH;go_enter func194,ntmps194
  by_cases h2:0<=k - 1
  ·have h3:¬ k<=4:=by omega
   have h4:1<=k:=by omega
   go_wp2_with fail
   refine (dR l [] _ hs (by simp) HS.o).mono ?_;rintro e w1 ⟨rfl,hb1⟩;have cU:=aa hb1;clear hb1;go_wp2;go_ret2;exact ⟨rfl,cU.o⟩
  ·have h4:¬ 1<=k:=by omega
   go_wp2_with fail
   refine (dR l [] _ hs (by simp) HS.o).mono ?_;rintro e w1 ⟨rfl,hb1⟩;have cU:=aa hb1;clear hb1;go_wp2;go_ret2;exact ⟨rfl,cU.o⟩
theorem Ea (l:List UInt8)(k:Int)(w:World)(hs:l.length<=1000000000)(hS:AW w) :
  Calls prog 193 #[.string ⟨l.toArray⟩,.int .i64 k] w fun e w'=>e=.returned (.tuple #[.string ⟨(iK l (bq k)).1.toArray⟩,.int .i64 (iK l (bq k)).2])/\Below w.heap.size w w':=by
 have HS:=aa hS;clear hS
 by_cases h1:0<=k/\k<=7
 ·have h2:k=0\/k=1\/k=2\/k=3\/k=4\/k=5\/k=6\/k=7:=by omega
  go_enter func193,ntmps193;clear h1;rcases h2 with rfl | rfl | rfl | rfl | rfl | rfl | rfl | rfl
  ·have E:(⟨#[95,108,101,103]⟩:ByteArray)++Utf8.encode 48=⟨(bq 0).toArray⟩:=by kernel_rfl
   have hl:(bq 0).length<=100:=by decide
   go_wp2_with fail
   refine (dR l (bq 0) _ hs hl HS.o).mono ?_;rintro e w1 ⟨rfl,hb1⟩;have cU:=aa hb1;clear hb1;go_wp2;go_ret2;exact ⟨rfl,cU.o⟩
  ·have E:(⟨#[95,108,101,103]⟩:ByteArray)++Utf8.encode 49=⟨(bq 1).toArray⟩:=by kernel_rfl
   have hl:(bq 1).length<=100:=by decide
   go_wp2_with fail
   refine (dR l (bq 1) _ hs hl HS.o).mono ?_;rintro e w1 ⟨rfl,hb1⟩;have cU:=aa hb1;clear hb1;go_wp2;go_ret2;exact ⟨rfl,cU.o⟩
  ·have E:(⟨#[95,108,101,103]⟩:ByteArray)++Utf8.encode 50=⟨(bq 2).toArray⟩:=by kernel_rfl
   have hl:(bq 2).length<=100:=by decide
   go_wp2_with fail
   refine (dR l (bq 2) _ hs hl HS.o).mono ?_;rintro e w1 ⟨rfl,hb1⟩;have cU:=aa hb1;clear hb1;go_wp2;go_ret2;exact ⟨rfl,cU.o⟩
  ·have E:(⟨#[95,108,101,103]⟩:ByteArray)++Utf8.encode 51=⟨(bq 3).toArray⟩:=by kernel_rfl
   have hl:(bq 3).length<=100:=by decide
   go_wp2_with fail
   refine (dR l (bq 3) _ hs hl HS.o).mono ?_;rintro e w1 ⟨rfl,hb1⟩;have cU:=aa hb1;clear hb1;go_wp2;go_ret2;exact ⟨rfl,cU.o⟩
  ·have E:(⟨#[95,108,101,103]⟩:ByteArray)++Utf8.encode 52=⟨(bq 4).toArray⟩:=by kernel_rfl
   have hl:(bq 4).length<=100:=by decide
   go_wp2_with fail
   refine (dR l (bq 4) _ hs hl HS.o).mono ?_;rintro e w1 ⟨rfl,hb1⟩;have cU:=aa hb1;clear hb1;go_wp2;go_ret2;exact ⟨rfl,cU.o⟩
  ·have E:(⟨#[95,108,101,103]⟩:ByteArray)++Utf8.encode 53=⟨(bq 5).toArray⟩:=by kernel_rfl
   have hl:(bq 5).length<=100:=by decide
   go_wp2_with fail
   refine (dR l (bq 5) _ hs hl HS.o).mono ?_;rintro e w1 ⟨rfl,hb1⟩;have cU:=aa hb1;clear hb1;go_wp2;go_ret2;exact ⟨rfl,cU.o⟩
  ·have E:(⟨#[95,108,101,103]⟩:ByteArray)++Utf8.encode 54=⟨(bq 6).toArray⟩:=by kernel_rfl
   have hl:(bq 6).length<=100:=by decide
   go_wp2_with fail
   refine (dR l (bq 6) _ hs hl HS.o).mono ?_;rintro e w1 ⟨rfl,hb1⟩;have cU:=aa hb1;clear hb1;go_wp2;go_ret2;exact ⟨rfl,cU.o⟩
  ·have E:(⟨#[95,108,101,103]⟩:ByteArray)++Utf8.encode 55=⟨(bq 7).toArray⟩:=by kernel_rfl
   have hl:(bq 7).length<=100:=by decide
   go_wp2_with fail
   refine (dR l (bq 7) _ hs hl HS.o).mono ?_;rintro e w1 ⟨rfl,hb1⟩;have cU:=aa hb1;clear hb1;go_wp2;go_ret2;exact ⟨rfl,cU.o⟩
 ·have CH:bq k=[]:=by unfold bq;rw [bh h1]
  rw [CH];clear CH;go_enter func193,ntmps193
  by_cases h2:0<=k
  ·have h3:¬ k<=7:=by omega
   go_wp2_with fail
   refine (dR l [] _ hs (by simp) HS.o).mono ?_;rintro e w1 ⟨rfl,hb1⟩;have cU:=aa hb1;clear hb1;go_wp2;go_ret2;exact ⟨rfl,cU.o⟩
  ·go_wp2_with fail
   refine (dR l [] _ hs (by simp) HS.o).mono ?_;rintro e w1 ⟨rfl,hb1⟩;have cU:=aa hb1;clear hb1;go_wp2;go_ret2;exact ⟨rfl,cU.o⟩
end Go.Proofs.YtjdfihglehfelaaGreatDoor
