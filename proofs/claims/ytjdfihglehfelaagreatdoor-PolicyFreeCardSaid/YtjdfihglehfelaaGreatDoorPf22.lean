/- Lemmas: ModM, ModN, ModO, ModP. -/
import Derived.Test.YtjdfihglehfelaaGreatDoorPf21
set_option maxRecDepth 100000
set_option maxHeartbeats 32000000
set_option linter.all false
namespace Go.Proofs.YtjdfihglehfelaaGreatDoor
open Go.Proofs.Tryz
open Go.RowKit Go.Maps Go.Shelf
def XY (a b:ByteArray):Bool:=Op.bytesLess a.toList b.toList
def kV (l:List ByteArray)(i:Nat):Bool:=mr (l.getD i ⟨#[]⟩)&&(decide (i=0)||XY (l.getD (i - 1) ⟨#[]⟩) (l.getD i ⟨#[]⟩))
def eP (l:List ByteArray):Int:=if 8<l.length then 4 else if (List.range l.length).all (kV l) then 0 else 2
theorem kZ {ok:Nat->Prop}(l:List ByteArray)(v:Value)(w:World)(hr:ck aF 1 ok w [v] l)(hl:l.length<=1000000)(hsz:∀ s∈l,s.size<=9223372036854775807) :
  Calls prog 134 #[v] w fun e w'=>e=.returned (.int .i64 (eP l))/\Below w.heap.size w w':=by
 obtain ⟨p,c,rfl,hc1,hc2⟩:=hr.cap;have HR:=aa hr;clear hr;have Jq:=aa hsz;clear hsz;have HT:Hid (eP l=_):=aa (eP.eq_1 l);go_enter func134,ntmps134
 by_cases h8:8<l.length
 ·rw [aw h8] at HT
  have hd:decide ((8:Int)<(l.length:Int))=true:=by simp;omega
  go_wp2;go_ret;exact ⟨bB HT.o.symm,bj _ _⟩
 ·rw [bh h8] at HT
  have hd:decide ((8:Int)<(l.length:Int))=false:=by simp;omega
  go_wp2
  go_loopw [10,3,4] (fun i _ _ wr=>∃ k:Nat,k<=l.length/\i=.int .i64 k/\(∀ j,j<k->kV l j=true)/\Below w.heap.size w wr) (fun i _ _ _=>l.length - (intOf i).toNat)
  case atStart=>exact ⟨0,cg _,rfl,fun j hj=>by omega,bj _ _⟩
  case round =>
   obtain ⟨k,hk,rfl,hall,hB⟩:=hrel;have cE:=aa hall;clear hall
   by_cases hlt:k<l.length
   ·obtain ⟨s,hs⟩:=aj l k hlt
    obtain ⟨b,off,us,rfl,_,cX,ez,eE,hcv⟩:=HR.o.elem hs;obtain rfl:us=_:=eE;have q0:=(hB.cell (p:=⟨b,off+k*1+0,none⟩) cX).trans (hcv 0 _ rfl);rw [fp,fg] at q0;have HG:Hid (l.getD k ⟨#[]⟩=s):=aa (by simp [hs]);have Ud:=Jq.o s (ct hs);clear hcv ez hs;have Mz:Hid (kV l k=_):=aa (kV.eq_1 l k);rw [HG.o] at Mz
    have o0:Hid (kV l k=false->eP l=2):=aa fun h=>by
     rw [HT.o,bh];intro hh;rw [eL] at hh;rw [hh k (List.mem_range.2 hlt)] at h;cases h
    have kh:Hid (kV l k=true->∀ j,j<k+1->kV l j=true):=aa fun h j hj=>by
     by_cases hjk:j=k
     ·exact hjk ▸ h
     ·exact cE.o j (by omega)
    go_wp2_with fail
    refine (Af s _ Ud).mono ?_;rintro e w2 ⟨rfl,hb2⟩;have cm:=aa (hB.trans (hb2.mono hB.size));clear hb2;cases ht:mr s with
    | false =>
     have j9:Hid (kV l k=false):=aa (by rw [Mz.o,ht];rfl);go_wp2;go_ret;exact ⟨bB (o0.o j9.o).symm,cm.o⟩
    | true =>
     by_cases hk0:k<1
     ·have j9:Hid (kV l k=true):=aa (by rw [Mz.o,ht,eA (show k=0 by omega)];rfl)
      go_wp2;go_roundw
      case rel=>exact ⟨k+1,by omega,by go_num,kh.o j9.o,cm.o⟩
      case measure=>simp [intOf];omega
     ·obtain ⟨r,hr'⟩:=aj l (k - 1) (by omega)
      obtain ⟨b',off',us',e',_,J2,wb,wj,hcv'⟩:=HR.o.elem hr';obtain rfl:us'=_:=wj;injection e' with e'
      injection e' with eb eo
      subst eb;subst eo;have q1:=(cm.o.cell (p:=⟨b,off+(k - 1)*1+0,none⟩) cX).trans (hcv' 0 _ rfl);rw [fp,fg] at q1;have KA:l.getD (k - 1) ⟨#[]⟩=r:=by simp [hr']
      rw [KA] at Mz;clear KA hcv' wb J2 hr' q0;cases hc:Op.bytesLess r.toList s.toList with
      | true =>
       have j9:Hid (kV l k=true):=aa (by rw [Mz.o,ht,XY,hc];simp);go_wp2;go_roundw
       case rel=>exact ⟨k+1,by omega,by go_num,kh.o j9.o,cm.o⟩
       case measure=>simp [intOf];omega
      | false =>
       have j9:Hid (kV l k=false):=aa (by rw [Mz.o,ht,XY,hc,cN (show ¬ k=0 by omega)];rfl);go_wp2;go_ret;exact ⟨bB (o0.o j9.o).symm,cm.o⟩
   ·go_wp2
    go_ret;refine ⟨bB (Eq.symm ?_),hB⟩;rw [HT.o,aw];rw [eL];exact fun j hj=>cE.o j (by have:=List.mem_range.1 hj;omega)
def TI (l:List ByteArray):Prop:=l.length<=1000000/\∀ s∈l,s.size<=9223372036854775807
structure UT (g:af):Prop where
 name:g.name.size<=9223372036854775807
 tags:TI g.tags
 dl:g.Gb.length<=1000000
 vl:g.F9.length<=1000000
 hl:g.history.length<=1000000
 disk:∀ d∈g.Gb,d.name.size<=9223372036854775807/\TI d.tags
 vol:∀ v∈g.F9,v.name.size<=9223372036854775807/\TI v.tags
 hist:∀ h∈g.history,h.1.size<=9223372036854775807
def lL (h:ByteArray × Int × Int):Bool:=jo h.1&&decide (0<=h.2.2/\h.2.2<=1048575)
def lm (g:af):Prop:=0<=g.seq/\g.seq<=1048575/\1<=g.Gd/\g.Gd<=1024/\0<=g.next/\g.next<=1073741824
instance (g:af):Decidable (lm g):=by unfold lm;infer_instance
def iR (g:af):Prop:=g.Gb.length<=8/\g.F9.length<=32/\g.history.length<=32
instance (g:af):Decidable (iR g):=by unfold iR;infer_instance
def qX (g:af):Int :=
 if jo g.name=false then 10 else if ¬ lm g then 1 else if ¬ iR g then 4 else if eP g.tags≠0 then eP g.tags else if g.history.all lL then 0 else 2
def dZ (g:af):ByteArray × Int:=(⟨#[]⟩,qX g)
theorem CJ {ok:Nat->Prop}(g:af)(a:bN)(bc:Nat)(w:World)(kB:gY w bc g a)(hg:dN ok w g a)(hz:UT g)(hS:AW w) :
  Calls prog 83 #[.pointer (some ⟨bc,0,none⟩)] w (gX (dZ g) w):=by
 have jt:=kB.lt;obtain ⟨sm,hblk,hmap⟩:=kB;have nw:Hid (bX w bc sm g a):=aa hblk;clear hblk hmap;obtain ⟨g0,g1,g2,g3,g4,g5,g6,g7,g8⟩:=bX.cells nw.o;have HT:=aa hg.tags;have HH:=aa hg.hist;have HZ:=aa hz;have HS:=aa hS;have hhl:=hz.hl;have hnz:=hz.name;obtain ⟨vp,vc,sT,Js,Jt⟩:=hg.hist.cap;injection sT with e1 e2 e3
 obtain ⟨p6,c6,h6,h61,h62⟩:=hg.Gb.cap;obtain ⟨p7,c7,h7,h71,h72⟩:=hg.F9.cap;clear hg hz hS;obtain ⟨ID,IH,II,G3,G4,Ge,Hb,Hc⟩:=a;dsimp only at e1 e2 e3 g0 g1 g2 g3 g4 g5 g6 g7 g8 h6 h7;subst e1;subst e3;clear e2 h6 h7 h61 h62 h71 h72;have HE:Hid (qX g=_):=aa (qX.eq_1 g);have CN:=aa (b9 w (.cells #[.string g.name,.int .u64 g.id,.int .i64 g.seq,.int .i64 g.Gd,.int .i64 g.next,.slice ID g.tags.length IH,.slice II g.Gb.length G3,.slice G4 g.F9.length Ge,.slice Hb g.history.length Hc] 31));have hA:=ae w (.cells #[.string g.name,.int .u64 g.id,.int .i64 g.seq,.int .i64 g.Gd,.int .i64 g.next,.slice ID g.tags.length IH,.slice II g.Gb.length G3,.slice G4 g.F9.length Ge,.slice Hb g.history.length Hc] 31);have cU:=aa hA;have HS1:=aa (HS.o.below hA);clear hA;go_enter func83,ntmps83
 go_wp2_with fail
 clear g0 g1 g2 g3 g4 g5 g6 g7 g8;generalize hW1:World.alloc w _=W1 at *;have JX:w.heap.size=w.heap.size:=rfl;generalize hB0:w.heap.size=B at CN;clear hW1 JX;refine (fT g.name W1 hnz HS1.o).mono ?_;rintro e w2 ⟨rfl,hb2⟩;have cm:=aa (cU.o.trans (hb2.mono cU.o.size));have pH:=aa ((hb2.block _ (aq CN.o)).trans CN.o);clear hb2 cU CN;have n2:=cr pH.o 2 _ rfl;have n3:=cr pH.o 3 _ rfl;have n4:=cr pH.o 4 _ rfl;have n5:=cr pH.o 5 _ rfl;have n6:=cr pH.o 6 _ rfl;have n7:=cr pH.o 7 _ rfl;have n8:=cr pH.o 8 _ rfl
 cases IV:jo g.name with
 | false =>
  rw [aw IV] at HE;clear IV;go_wp2;go_ret2;exact ⟨by rw [dZ,HE.o];rfl,cm.o⟩
 | true =>
  rw [bh (by rw [IV];decide)] at HE;clear IV
  by_cases hr:lm g
  ·rw [bh (fun h=>h hr)] at HE
   obtain ⟨r1,r2,r3,r4,r5,r6⟩:=hr
   by_cases hl:iR g
   ·rw [bh (fun h=>h hl)] at HE
    obtain ⟨l1,l2,l3⟩:=hl;have d6:decide ((8:Int)<(g.Gb.length:Int))=false:=by simp;omega
    have d7:decide ((32:Int)<(g.F9.length:Int))=false:=by simp;omega
    have d8:decide ((32:Int)<(g.history.length:Int))=false:=by simp;omega
    go_wp2_with fail
    refine (kZ (ok:=ok) g.tags _ w2 ((ck.moves aF.moves).mv (Mv.of cm.o) HT.o) HZ.o.tags.1 HZ.o.tags.2).mono ?_;rintro e w3 ⟨rfl,hb3⟩;have cJ:=aa (cm.o.trans (hb3.mono cm.o.size));have n8':w3.cell? ⟨B,8,none⟩=some (.slice Hb g.history.length Hc):=by simp [World.cell?,(hb3.block _ (aq pH.o)).trans pH.o]
    clear hb3 cm pH n2 n3 n4 n5 n6 n7 n8 d6 d7 d8 l1 l2 r1 r2 r3 r4 r5 r6
    by_cases ht:eP g.tags=0
    ·have Nh:(eP g.tags != 0)=false:=by rw [ht];rfl
     rw [bh (fun h=>h ht)] at HE;clear ht
     go_wp2_with fail
     go_loopw [72,7] (fun i _ wr=>∃ k:Nat,k<=g.history.length/\i=.int .i64 k/\Below w.heap.size w wr/\(∀ j,j<k->lL (g.history.getD j (⟨#[]⟩,0,0))=true)) (fun i _ _=>g.history.length - (intOf i).toNat)
     case atStart=>exact ⟨0,cg _,rfl,cJ.o,fun j hj=>by omega⟩
     case round =>
      clear cJ;obtain ⟨k,hk,rfl,hB,hall⟩:=hrel;have cE:=aa hall;clear hall
      by_cases hlt:k<g.history.length
      ·obtain ⟨h,hh⟩:=aj g.history k hlt
       obtain ⟨b,off,us,JN,gR,cX,ez,eE,hcv⟩:=HH.o.elem hh;subst JN;obtain rfl:us=_:=eE;obtain ⟨hn,hid,Ju⟩:=h;have cT:wr.heap[b]?=w.heap[b]?:=hB.block b cX;obtain ⟨q0,q1,q2⟩:=Mn cT hcv;have KH:=HZ.o.hist _ (ct hh);have HG:Hid (g.history.getD k (⟨#[]⟩,0,0)=(hn,hid,Ju)):=aa (by simp [hh])
       have o0:Hid (lL (hn,hid,Ju)=false->qX g=2):=aa fun hb=>by
        rw [HE.o,bh];intro Yr;rw [eL] at Yr;rw [Yr _ (ct hh)] at hb;cases hb
       have kh:Hid (lL (hn,hid,Ju)=true->∀ j,j<k+1->lL (g.history.getD j (⟨#[]⟩,0,0))=true):=aa fun hb j hj=>by
        by_cases hjk:j=k
        ·subst hjk;rw [HG.o];exact hb
        ·exact cE.o j (by omega)
       have Mz:Hid (lL (hn,hid,Ju)=_):=aa (lL.eq_1 (hn,hid,Ju));clear hcv ez cT hh HG cE;have HS4:=aa ((HS.o.below hB).below (ae wr (.cells #[.string hn,.int .u64 hid,.int .i64 Ju] 95)));have eI:=aa (hB.trans ((ae wr (.cells #[.string hn,.int .u64 hid,.int .i64 Ju] 95)).mono hB.size));have VG:=aa (b9 wr (.cells #[.string hn,.int .u64 hid,.int .i64 Ju] 95))
       go_wp2_with fail
       clear q0 q1 q2;generalize hW4:World.alloc wr _=W4 at *;generalize hB4:wr.heap.size=Bh at *;clear hW4 hB4 hB;refine (fT hn W4 KH HS4.o).mono ?_;rintro e w5 ⟨rfl,hb5⟩;have eK:=aa (eI.o.trans (hb5.mono eI.o.size));have m2:w5.cell? ⟨Bh,2,none⟩=some (.int .i64 Ju):=by simp [World.cell?,(hb5.block _ (aq VG.o)).trans VG.o]
       clear hb5 eI VG;cases KI:jo hn with
       | false =>
        have j9:Hid (lL (hn,hid,Ju)=false):=aa (by rw [Mz.o,KI];rfl);clear KI;go_wp2;go_ret2;exact ⟨by rw [dZ,o0.o j9.o];rfl,eK.o⟩
       | true =>
        by_cases hr2:0<=Ju/\Ju<=1048575
        ·have j9:Hid (lL (hn,hid,Ju)=true):=aa (by rw [Mz.o,KI,eA hr2];rfl)
         obtain ⟨s1,s2⟩:=hr2;clear KI;go_wp2;go_roundw
         case rel=>exact ⟨k+1,by omega,by go_num,eK.o,kh.o j9.o⟩
         case measure=>simp [intOf];omega
        ·have j9:Hid (lL (hn,hid,Ju)=false):=aa (by rw [Mz.o,KI,cN hr2];rfl)
         have hr3:Ju<0\/(0<=Ju/\1048575<Ju):=by omega
         clear KI hr2;rcases hr3 with s1 | ⟨s1,s2⟩
         all_goals
          go_wp2;go_ret2;exact ⟨by rw [dZ,o0.o j9.o];rfl,eK.o⟩
      ·have HR:Hid (qX g=0):=aa (by
        rw [HE.o,aw];rw [eL];intro x hx;obtain ⟨i,hi,rfl⟩:=List.getElem_of_mem hx;have:=cE.o i (by omega)
        simpa [hi] using this)
       go_wp2;go_ret2;exact ⟨by rw [dZ,HR.o];rfl,hB⟩
    ·have Nh:(eP g.tags != 0)=true:=by simpa using ht
     rw [aw ht] at HE;clear ht
     go_wp2_with fail
     go_ret2;exact ⟨by rw [dZ,HE.o];rfl,cJ.o⟩
   ·rw [aw hl] at HE
    have hl':8<g.Gb.length\/(g.Gb.length<=8/\32<g.F9.length)\/(g.Gb.length<=8/\g.F9.length<=32/\32<g.history.length):=by unfold iR at hl;omega
    clear hl;rcases hl' with l1 | ⟨l1,l2⟩ | ⟨l1,l2,l3⟩
    ·have d6:decide ((8:Int)<(g.Gb.length:Int))=true:=by simp;omega
     go_wp2;go_ret2;exact ⟨by rw [dZ,HE.o];rfl,cm.o⟩
    ·have d6:decide ((8:Int)<(g.Gb.length:Int))=false:=by simp;omega
     have d7:decide ((32:Int)<(g.F9.length:Int))=true:=by simp;omega
     go_wp2;go_ret2;exact ⟨by rw [dZ,HE.o];rfl,cm.o⟩
    ·have d6:decide ((8:Int)<(g.Gb.length:Int))=false:=by simp;omega
     have d7:decide ((32:Int)<(g.F9.length:Int))=false:=by simp;omega
     have d8:decide ((32:Int)<(g.history.length:Int))=true:=by simp;omega
     go_wp2;go_ret2;exact ⟨by rw [dZ,HE.o];rfl,cm.o⟩
  ·rw [aw hr] at HE
   have hr':g.seq<0\/(0<=g.seq/\1048575<g.seq)\/(0<=g.seq/\g.seq<=1048575/\g.Gd<1)\/(0<=g.seq/\g.seq<=1048575/\1<=g.Gd/\1024<g.Gd)\/(0<=g.seq/\g.seq<=1048575/\1<=g.Gd/\g.Gd<=1024/\g.next<0)\/(0<=g.seq/\g.seq<=1048575/\1<=g.Gd/\g.Gd<=1024/\0<=g.next/\1073741824<g.next):=by unfold lm at hr;omega
   clear hr;rcases hr' with r1 | ⟨r1,r2⟩ | ⟨r1,r2,r3⟩ | ⟨r1,r2,r3,r4⟩ | ⟨r1,r2,r3,r4,r5⟩ | ⟨r1,r2,r3,r4,r5,r6⟩
   all_goals
    go_wp2;go_ret2;exact ⟨by rw [dZ,HE.o];rfl,cm.o⟩
theorem ck.take {α:Type}{V:jx α}{sz:Nat}{ok:Nat->Prop}{w:World}{p:Option Addr}{cap:Nat}{l:List α}(h:ck V sz ok w [.slice p l.length cap] l)(k:Nat)(hk:k<=l.length):ck V sz ok w [.slice p k cap] (l.take k):=by
 obtain ⟨p',c',e,h1,h2,h3⟩:=h;injection e with e
 injection e with e1 _ e3
 subst e1;subst e3;have hl:(l.take k).length=k:=by simp;omega
 refine ⟨p,cap,by rw [hl],by omega,h2,fun h0=>?_⟩;obtain ⟨b,off,hp,hb,ho,hc⟩:=h3 (by omega)
 exact ⟨b,off,hp,hb,ho,fun i x hx=>hc i x (by
  rw [xF] at hx;split at hx
  ·exact hx
  ·cases hx)⟩
def dG (d x:az):Bool:=x.name.toList == d.name.toList||x.id == d.id
theorem vR {ok:Nat->Prop}(x d:az)(u:List Value)(Bd:Nat)(w:World)(hu:aO ok w u x)(h0:w.cell? ⟨Bd,0,none⟩=some (.string d.name))(h1:w.cell? ⟨Bd,1,none⟩=some (.int .u64 d.id))(hb:Bd<w.heap.size) :
  Calls prog 136 #[.agg u.toArray,.pointer (some ⟨Bd,0,none⟩)] w fun e w'=>e=.returned (.bool (dG d x))/\Below w.heap.size w w':=by
 obtain ⟨tv,rfl,ew⟩:=hu;obtain ⟨tp,tc,rfl,_,_⟩:=ew.cap;clear ew;have hA:=ae w (.cells #[.string x.name,.int .u64 x.id,.int .i64 x.first,.int .i64 x.Gc,.bool x.closed,.bool x.missing,.slice tp x.tags.length tc] 47);have HA:=aa hA;have HM:Hid (dG d x=_):=aa (dG.eq_1 d x);have d0:=(hA.cell (p:=⟨Bd,0,none⟩) hb).trans h0;have d1:=(hA.cell (p:=⟨Bd,1,none⟩) hb).trans h1;clear hA h0 h1;cases hn:x.name.toList == d.name.toList with
 | true =>
  rw [hn] at HM;go_enter func136,ntmps136;go_wp2;go_ret;exact ⟨ah (by rw [HM.o];rfl),HA.o⟩
 | false =>
  rw [hn] at HM;go_enter func136,ntmps136;go_wp2;go_ret;exact ⟨ah (by rw [HM.o];rfl),HA.o⟩
theorem sF {ok:Nat->Prop}(l:List az)(d:az)(p:Option Addr)(cap Bd:Nat)(w:World)(hr:ck aO 7 ok w [.slice p l.length cap] l)(hl:l.length<=1000000)(h0:w.cell? ⟨Bd,0,none⟩=some (.string d.name))(h1:w.cell? ⟨Bd,1,none⟩=some (.int .u64 d.id))(hb:Bd<w.heap.size) :
  Calls prog 185 #[.slice p l.length cap,.func (.func 136) #[] #[.pointer (some ⟨Bd,0,none⟩)]] w
   fun e w'=>(∃ r:Int,e=.returned (.int .i64 r)/\decide (0<=r)=l.any (dG d))/\Below w.heap.size w w':=by
 obtain ⟨p',c',e,hc1,hc2⟩:=hr.cap;injection e with e1 _ e3
 subst e1;subst e3;have HR:=aa hr;clear hr;have H0:=aa h0;clear h0;have H1:=aa h1;clear h1;go_enter func185,ntmps185;go_wp2
 go_loopw [8,5] (fun i _ wr=>∃ k:Nat,k<=l.length/\i=.int .i64 k/\Below w.heap.size w wr/\(l.take k).any (dG d)=false) (fun i _ _=>l.length - (intOf i).toNat)
 case atStart=>exact ⟨0,cg _,rfl,bj _ _,rfl⟩
 case round =>
  obtain ⟨k,hk,rfl,hB,hall⟩:=hrel;have cE:=aa hall;clear hall
  by_cases hlt:k<l.length
  ·obtain ⟨x,hx⟩:=aj l k hlt
   obtain ⟨b,off,us,JN,gR,cX,ez,eE,hcv⟩:=HR.o.elem hx;subst JN;have HV:=aa eE;obtain ⟨tv,rfl,ew⟩:=eE;obtain ⟨tp,tc,rfl,_,_⟩:=ew.cap;clear ew;have cT:wr.heap[b]?=w.heap[b]?:=hB.block b cX;obtain ⟨q0,q1,q2,q3,q4,q5,q6⟩:=OD cT hcv;have I6:Hid ((l.take (k+1)).any (dG d)=dG d x):=aa (by rw [take_snoc' l k x hx,rj,cE.o];simp);have AE:Hid (dG d x=true->l.any (dG d)=true):=aa fun h=>List.any_eq_true.2 ⟨x,ct hx,h⟩;clear hcv ez cT hx cE;have mA:=hB.size
   go_wp2_with fail
   refine (vR (ok:=ok) x d _ Bd wr (aO.moves.mv (Mv.of hB) HV.o) ((hB.cell hb).trans H0.o) ((hB.cell hb).trans H1.o) (by omega)).mono ?_;rintro e w3 ⟨rfl,hb3⟩;have cJ:=aa (hB.trans (hb3.mono hB.size));clear hb3 q0;cases hs:dG d x with
   | true =>
    have E3:=aa (AE.o hs);clear hs;go_wp2;go_ret;exact ⟨⟨k,rfl,by rw [E3.o];simp⟩,cJ.o⟩
   | false =>
    have E3:=aa (I6.o.trans hs);clear hs;go_wp2;go_roundw
    case rel=>exact ⟨k+1,by omega,by go_num,cJ.o,E3.o⟩
    case measure=>simp [intOf];omega
  ·obtain rfl:k=l.length:=by omega
   rw [cI] at cE;go_wp2;go_ret;exact ⟨⟨-1,rfl,by rw [cE.o];rfl⟩,hB⟩
theorem sN {ok:Nat->Prop}(l:List az)(d:az)(p:Option Addr)(cap Bd:Nat)(w:World)(hr:ck aO 7 ok w [.slice p l.length cap] l)(hl:l.length<=1000000)(h0:w.cell? ⟨Bd,0,none⟩=some (.string d.name))(h1:w.cell? ⟨Bd,1,none⟩=some (.int .u64 d.id))(hb:Bd<w.heap.size) :
  Calls prog 135 #[.slice p l.length cap,.func (.func 136) #[] #[.pointer (some ⟨Bd,0,none⟩)]] w
   fun e w'=>e=.returned (.bool (l.any (dG d)))/\Below w.heap.size w w':=by
 go_enter func135,ntmps135
 go_wp2_with fail
 refine (sF (ok:=ok) l d p cap Bd w hr hl h0 h1 hb).mono ?_;rintro e w2 ⟨⟨r,rfl,hr2⟩,hb2⟩;have HR:=aa hr2;clear hr2;have HB:=aa hb2;clear hb2;go_wp2;go_ret;exact ⟨ah HR.o,HB.o⟩
def fC (d x:ay):Bool:=x.name.toList == d.name.toList||x.id == d.id
theorem wh {ok:Nat->Prop}(x d:ay)(u:List Value)(Bd:Nat)(w:World)(hu:aN ok w u x)(h0:w.cell? ⟨Bd,0,none⟩=some (.string d.name))(h1:w.cell? ⟨Bd,1,none⟩=some (.int .u64 d.id))(hb:Bd<w.heap.size) :
  Calls prog 138 #[.agg u.toArray,.pointer (some ⟨Bd,0,none⟩)] w fun e w'=>e=.returned (.bool (fC d x))/\Below w.heap.size w w':=by
 obtain ⟨tv,sv,rfl,ew,fL⟩:=hu;obtain ⟨tp,tc,rfl,_,_⟩:=ew.cap;obtain ⟨sp,sc,rfl,_,_⟩:=fL.cap;clear ew fL;have hA:=ae w (.cells #[.string x.name,.int .u64 x.id,.bool x.hidden,.bool x.ro,.slice tp x.tags.length tc,.slice sp x.Gf.length sc] 55);have HA:=aa hA;have HM:Hid (fC d x=_):=aa (fC.eq_1 d x);have d0:=(hA.cell (p:=⟨Bd,0,none⟩) hb).trans h0;have d1:=(hA.cell (p:=⟨Bd,1,none⟩) hb).trans h1;clear hA h0 h1;cases hn:x.name.toList == d.name.toList with
 | true =>
  rw [hn] at HM;go_enter func138,ntmps138;go_wp2;go_ret;exact ⟨ah (by rw [HM.o];rfl),HA.o⟩
 | false =>
  rw [hn] at HM;go_enter func138,ntmps138;go_wp2;go_ret;exact ⟨ah (by rw [HM.o];rfl),HA.o⟩
theorem uK {ok:Nat->Prop}(l:List ay)(d:ay)(p:Option Addr)(cap Bd:Nat)(w:World)(hr:ck aN 6 ok w [.slice p l.length cap] l)(hl:l.length<=1000000)(h0:w.cell? ⟨Bd,0,none⟩=some (.string d.name))(h1:w.cell? ⟨Bd,1,none⟩=some (.int .u64 d.id))(hb:Bd<w.heap.size) :
  Calls prog 186 #[.slice p l.length cap,.func (.func 138) #[] #[.pointer (some ⟨Bd,0,none⟩)]] w
   fun e w'=>(∃ r:Int,e=.returned (.int .i64 r)/\decide (0<=r)=l.any (fC d))/\Below w.heap.size w w':=by
 obtain ⟨p',c',e,hc1,hc2⟩:=hr.cap;injection e with e1 _ e3
 subst e1;subst e3;have HR:=aa hr;clear hr;have H0:=aa h0;clear h0;have H1:=aa h1;clear h1;go_enter func186,ntmps186;go_wp2
 go_loopw [8,5] (fun i _ wr=>∃ k:Nat,k<=l.length/\i=.int .i64 k/\Below w.heap.size w wr/\(l.take k).any (fC d)=false) (fun i _ _=>l.length - (intOf i).toNat)
 case atStart=>exact ⟨0,cg _,rfl,bj _ _,rfl⟩
 case round =>
  obtain ⟨k,hk,rfl,hB,hall⟩:=hrel;have cE:=aa hall;clear hall
  by_cases hlt:k<l.length
  ·obtain ⟨x,hx⟩:=aj l k hlt
   obtain ⟨b,off,us,JN,gR,cX,ez,eE,hcv⟩:=HR.o.elem hx;subst JN;have HV:=aa eE;obtain ⟨tv,sv,rfl,ew,fL⟩:=eE;obtain ⟨tp,tc,rfl,_,_⟩:=ew.cap;obtain ⟨sp,sc,rfl,_,_⟩:=fL.cap;clear ew fL;have cT:wr.heap[b]?=w.heap[b]?:=hB.block b cX;obtain ⟨q0,q1,q2,q3,q4,q5⟩:=NG cT hcv;have I6:Hid ((l.take (k+1)).any (fC d)=fC d x):=aa (by rw [take_snoc' l k x hx,rj,cE.o];simp);have AE:Hid (fC d x=true->l.any (fC d)=true):=aa fun h=>List.any_eq_true.2 ⟨x,ct hx,h⟩;clear hcv ez cT hx cE;have mA:=hB.size
   go_wp2_with fail
   refine (wh (ok:=ok) x d _ Bd wr (aN.moves.mv (Mv.of hB) HV.o) ((hB.cell hb).trans H0.o) ((hB.cell hb).trans H1.o) (by omega)).mono ?_;rintro e w3 ⟨rfl,hb3⟩;have cJ:=aa (hB.trans (hb3.mono hB.size));clear hb3 q0;cases hs:fC d x with
   | true =>
    have E3:=aa (AE.o hs);clear hs;go_wp2;go_ret;exact ⟨⟨k,rfl,by rw [E3.o];simp⟩,cJ.o⟩
   | false =>
    have E3:=aa (I6.o.trans hs);clear hs;go_wp2;go_roundw
    case rel=>exact ⟨k+1,by omega,by go_num,cJ.o,E3.o⟩
    case measure=>simp [intOf];omega
  ·obtain rfl:k=l.length:=by omega
   rw [cI] at cE;go_wp2;go_ret;exact ⟨⟨-1,rfl,by rw [cE.o];rfl⟩,hB⟩
theorem vH {ok:Nat->Prop}(l:List ay)(d:ay)(p:Option Addr)(cap Bd:Nat)(w:World)(hr:ck aN 6 ok w [.slice p l.length cap] l)(hl:l.length<=1000000)(h0:w.cell? ⟨Bd,0,none⟩=some (.string d.name))(h1:w.cell? ⟨Bd,1,none⟩=some (.int .u64 d.id))(hb:Bd<w.heap.size) :
  Calls prog 137 #[.slice p l.length cap,.func (.func 138) #[] #[.pointer (some ⟨Bd,0,none⟩)]] w
   fun e w'=>e=.returned (.bool (l.any (fC d)))/\Below w.heap.size w w':=by
 go_enter func137,ntmps137
 go_wp2_with fail
 refine (uK (ok:=ok) l d p cap Bd w hr hl h0 h1 hb).mono ?_;rintro e w2 ⟨⟨r,rfl,hr2⟩,hb2⟩;have HR:=aa hr2;clear hr2;have HB:=aa hb2;clear hb2;go_wp2;go_ret;exact ⟨ah HR.o,HB.o⟩
def gZ {α:Type}(nm:α->ByteArray)(f:Nat->α->Int):Nat->List α->ByteArray × Int
 | _,[]=>(⟨#[]⟩,0)
 | i,x :: r=>if f i x=0 then gZ nm f (i+1) r else (nm x,f i x)
theorem uj {α:Type}(nm:α->ByteArray)(f:Nat->α->Int){l:List α}{k:Nat}{x:α}(h:l[k]?=some x):gZ nm f k (l.drop k)=if f k x=0 then gZ nm f (k+1) (l.drop (k+1)) else (nm x,f k x):=by
 rw [drop_at h];rfl
def jQ (g:af)(d:az):Prop:=0<=d.first/\d.first<=65536/\0<=d.Gc/\d.Gc<=4096/\d.first+d.Gc*g.Gd<=65536
instance (g:af) (d:az):Decidable (jQ g d):=by unfold jQ;infer_instance
def pg (g:af)(i:Nat)(d:az):Int:=if jo d.name=false then 10 else if (g.Gb.take i).any (dG d)=true then 9 else if ¬ jQ g d then 1 else eP d.tags
def dw (g:af):ByteArray × Int:=gZ az.name (pg g) 0 g.Gb
theorem A7 {ok:Nat->Prop}(g:af)(a:bN)(bc:Nat)(w:World)(kB:gY w bc g a)(hg:dN ok w g a)(hz:UT g)(hx:1<=g.Gd/\g.Gd<=1024)(hS:AW w) :
  Calls prog 84 #[.pointer (some ⟨bc,0,none⟩)] w (gX (dw g) w):=by
 have jt:=kB.lt;obtain ⟨sm,hblk,hmap⟩:=kB;have nw:Hid (bX w bc sm g a):=aa hblk;clear hblk hmap;obtain ⟨g0,g1,g2,g3,g4,g5,g6,g7,g8⟩:=bX.cells nw.o;have HG:=aa hg.Gb;have HZ:=aa hz;have HX:=aa hx;have HS:=aa hS;have CD:=hz.dl;obtain ⟨vp,vc,sT,Js,Jt⟩:=hg.Gb.cap;clear hg hz hx hS;injection sT with e1 e2 e3
 obtain ⟨ID,IH,II,G3,G4,Ge,Hb,Hc⟩:=a;dsimp only at e1 e2 e3 g0 g1 g2 g3 g4 g5 g6 g7 g8;subst e1;subst e3;clear e2;go_enter func84,ntmps84;go_wp2;clear g0 g1 g2 g3 g4 g5 g6 g7 g8
 go_loopw [14,4,5,6,7] (fun i _ _ _ _ wr=>∃ k:Nat,k<=g.Gb.length/\i=.int .i64 k/\Below w.heap.size w wr/\dw g=gZ az.name (pg g) k (g.Gb.drop k)) (fun i _ _ _ _ _=>g.Gb.length - (intOf i).toNat)
 case atStart=>exact ⟨0,cg _,rfl,bj _ _,rfl⟩
 case round =>
  obtain ⟨k,hk,rfl,hB,he⟩:=hrel;have HE:=aa he;clear he
  by_cases hlt:k<g.Gb.length
  ·obtain ⟨d,hd⟩:=aj g.Gb k hlt
   rw [uj _ _ hd] at HE;obtain ⟨b,off,us,rfl,gR,cX,ez,eE,hcv⟩:=HG.o.elem hd;have Ni:=ct hd;have Pa:=HZ.o.disk d Ni;have KH:=Pa.1;have Pb:=aa Pa.2;obtain ⟨tv,rfl,ew⟩:=eE;obtain ⟨tp,tc,rfl,_,_⟩:=ew.cap;have Hx:=aa ew;have cT:wr.heap[b]?=w.heap[b]?:=hB.block b cX;obtain ⟨q0,q1,q2,q3,q4,q5,q6⟩:=OD cT hcv;clear hcv ez cT ew Pa Ni hd;have sX:=aa (b9 wr (.cells #[.string d.name,.int .u64 d.id,.int .i64 d.first,.int .i64 d.Gc,.bool d.closed,.bool d.missing,.slice tp d.tags.length tc] 47));have hA:=ae wr (.cells #[.string d.name,.int .u64 d.id,.int .i64 d.first,.int .i64 d.Gc,.bool d.closed,.bool d.missing,.slice tp d.tags.length tc] 47);have cU:=aa (hB.trans (hA.mono hB.size));have LK:=((cU.o.block bc jt).trans nw.o);obtain ⟨g0,g1,g2,g3,g4,g5,g6,g7,g8⟩:=bX.cells (sm:=sm) LK;clear hA LK
   go_wp2_with fail
   clear q0 q1 q2 q3 q4 q5 q6 g0 g1 g2 g3 g4 g5 g6 g7 g8;generalize hW1:World.alloc wr _=W1 at *;generalize J6:wr.heap.size=Bd at *;clear hW1 J6;have hlk:(g.Gb.take k).length=k:=by simp;omega
   have Fl:=sN (ok:=ok) (g.Gb.take k) d (some ⟨b,off,none⟩) G3 Bd W1 (by rw [hlk];exact ck.take ((ck.moves aO.moves).mv (Mv.of cU.o) HG.o) k hk) (by omega) (by simp [World.cell?,sX.o]) (by simp [World.cell?,sX.o]) (aq sX.o);rw [hlk] at Fl;refine Fl.mono ?_;clear Fl hlk hB;rintro e w2 ⟨rfl,hb2⟩;have cm:=aa (cU.o.trans (hb2.mono cU.o.size));have B8:=aa ((hb2.block _ (aq sX.o)).trans sX.o);clear hb2 cU sX;have kj:Hid (pg g k d=_):=aa (pg.eq_1 g k d);generalize (g.Gb.take k).any (dG d)=tw at *;have n0:=cr B8.o 0 _ rfl
   go_wp2_with fail
   refine (fT d.name w2 KH (HS.o.below cm.o)).mono ?_;rintro e w3 ⟨rfl,hb3⟩;have cJ:=aa (cm.o.trans (hb3.mono cm.o.size));have n9:=aa ((hb3.block _ (aq B8.o)).trans B8.o);clear hb3 cm B8 n0;have n0:=cr n9.o 0 _ rfl
   cases IV:jo d.name with
   | false =>
    rw [aw IV] at kj;have HR:Hid (dw g=(d.name,10)):=aa (by rw [HE.o,kj.o];rfl);clear IV;go_wp2;go_ret2;exact ⟨by rw [HR.o];rfl,cJ.o⟩
   | true =>
    rw [bh (by rw [IV];decide)] at kj;clear IV;cases tw with
    | true =>
     rw [aw rfl] at kj;have HR:Hid (dw g=(d.name,9)):=aa (by rw [HE.o,kj.o];rfl);go_wp2;go_ret2;exact ⟨by rw [HR.o];rfl,cJ.o⟩
    | false =>
     rw [bh (by decide)] at kj;have n2:=cr n9.o 2 _ rfl;have n3:=cr n9.o 3 _ rfl;have n6:=cr n9.o 6 _ rfl
     obtain ⟨-,-,-,g3,-,-,-,-,-⟩:=bX.cells (sm:=sm) ((cJ.o.block bc jt).trans nw.o);have hx1:=HX.o.1;have hx2:=HX.o.2
     by_cases hr:jQ g d
     ·rw [bh (fun h=>h hr)] at kj
      obtain ⟨r1,r2,r3,r4,r5⟩:=hr;have m1:0<=d.Gc*g.Gd:=oA r3 (by omega);have w1:IntKind.i64.wrap (d.Gc*g.Gd)=d.Gc*g.Gd:=dy _ (by omega);have w2:IntKind.i64.wrap (d.first+d.Gc*g.Gd)=d.first+d.Gc*g.Gd:=dy _ (by omega);have k1:decide (d.first<0)=false:=cN (by omega);have k2:decide (65536<d.first)=false:=cN (by omega);have k3:decide (d.Gc<0)=false:=cN (by omega);have k4:decide (4096<d.Gc)=false:=cN (by omega);have k5:decide (65536<d.first+d.Gc*g.Gd)=false:=cN (by omega)
      go_upto_region 9 with (fail)
      go_quiet (fail);clear k1 k2 k3 k4 k5 w1 w2 m1 r1 r2 r3 r4 r5 n2 n3 g3;have hB4:=fun n=>aT cJ.o n;have Rq:∀ n,(w3.drewN n).heap[Bd]?=_:=fun n=>n9.o;have n0':∀ n,(w3.drewN n).cell? ⟨Bd,0,none⟩=some (.string d.name):=fun n=>n0
      go_wp2_with fail
      clear cJ n9 n0 n6;generalize hW4:w3.drewN _=W4 at *;have eI:Hid (Below w.heap.size w W4):=aa (hW4 ▸ hB4 _);have KJ:=aa (hW4 ▸ Rq _);clear hB4 Rq n0' hW4;refine (kZ (ok:=ok) d.tags _ W4 ((ck.moves aF.moves).mv (Mv.of eI.o) Hx.o) Pb.o.1 Pb.o.2).mono ?_;rintro e w5 ⟨rfl,hb5⟩;have eK:=aa (eI.o.trans (hb5.mono eI.o.size));have VH:=aa ((hb5.block _ (aq KJ.o)).trans KJ.o);clear hb5 eI KJ;have n0:=cr VH.o 0 _ rfl
      by_cases ht:eP d.tags=0
      ·have Nh:(eP d.tags != 0)=false:=by rw [ht];rfl
       have HR:Hid (dw g=gZ az.name (pg g) (k+1) (g.Gb.drop (k+1))):=aa (by rw [HE.o,aw (by rw [kj.o,ht])]);clear ht;go_wp2;go_roundw
       case rel=>exact ⟨k+1,by omega,by go_num,eK.o,HR.o⟩
       case measure=>simp [intOf];omega
      ·have Nh:(eP d.tags != 0)=true:=by simpa using ht
       have HR:Hid (dw g=(d.name,eP d.tags)):=aa (by rw [HE.o,kj.o,bh ht]);clear ht;go_wp2;go_ret2;exact ⟨by rw [HR.o];rfl,eK.o⟩
     ·rw [aw hr] at kj
      have HR:Hid (dw g=(d.name,1)):=aa (by rw [HE.o,kj.o];rfl)
      by_cases r1:d.first<0
      ·have k1:decide (d.first<0)=true:=eA r1
       go_upto_region 9 with (fail)
       go_quiet (fail);go_wp2;go_ret2;exact ⟨by rw [HR.o];rfl,aT cJ.o _⟩
      ·have k1:decide (d.first<0)=false:=cN r1
       by_cases r2:65536<d.first
       ·have k2:decide (65536<d.first)=true:=eA r2
        go_upto_region 9 with (fail)
        go_quiet (fail);go_wp2;go_ret2;exact ⟨by rw [HR.o];rfl,aT cJ.o _⟩
       ·have k2:decide (65536<d.first)=false:=cN r2
        by_cases r3:d.Gc<0
        ·have k3:decide (d.Gc<0)=true:=eA r3
         go_upto_region 9 with (fail)
         go_quiet (fail);go_wp2;go_ret2;exact ⟨by rw [HR.o];rfl,aT cJ.o _⟩
        ·have k3:decide (d.Gc<0)=false:=cN r3
         by_cases r4:4096<d.Gc
         ·have k4:decide (4096<d.Gc)=true:=eA r4
          go_upto_region 9 with (fail)
          go_quiet (fail);go_wp2;go_ret2;exact ⟨by rw [HR.o];rfl,aT cJ.o _⟩
         ·have k4:decide (4096<d.Gc)=false:=cN r4
          have m1:0<=d.Gc*g.Gd:=oA (by omega) (by omega);have m2:d.Gc*g.Gd<=4096*1024:=tW (by omega) (by omega) (by omega) (by omega);have w1:IntKind.i64.wrap (d.Gc*g.Gd)=d.Gc*g.Gd:=dy _ (by omega);have w2:IntKind.i64.wrap (d.first+d.Gc*g.Gd)=d.first+d.Gc*g.Gd:=dy _ (by omega);have k5:decide (65536<d.first+d.Gc*g.Gd)=true:=eA (by unfold jQ at hr;omega);clear hr m1 m2
          go_upto_region 9 with (fail)
          go_quiet (fail);go_wp2;go_ret2;exact ⟨by rw [HR.o];rfl,aT cJ.o _⟩
  ·obtain rfl:k=g.Gb.length:=by omega
   have HR:Hid (dw g=(⟨#[]⟩,0)):=aa (by rw [HE.o,rB];rfl);go_wp2;go_ret2;exact ⟨by rw [HR.o];rfl,hB⟩
end Go.Proofs.YtjdfihglehfelaaGreatDoor
