/- Lemmas: BltN, AprA, RgA, RpA, AprB. -/
import Derived.Test.YtjdfihglehfelaaGreatDoorQm44
set_option maxRecDepth 100000
set_option maxHeartbeats 32000000
set_option linter.all false
namespace Go.Proofs.YtjdfihglehfelaaGreatDoor
open Go.Proofs.Tryz
open Go.RowKit
theorem Pi {a b:ByteArray}(h:a≠b):(a.toList == b.toList)=false:=by
 rw [A6,A6];simp only [beq_eq_false_iff_ne,ne_eq];exact fun e=>h (ByteArray.ext (Array.toList_inj.1 e))
theorem ai4 {e:Int}{an:Bool}{cl:Nat->ByteArray}{d:Nat}:∀ (f:Nat) (st n:Int) (s:List (Nat × Int)),∀ p∈Gp e an cl d f st n s,p∈s\/p.1=d
 | 0,_,_,_,p,h=>.inl (by rwa [Gp] at h)
 | f+1,st,n,s,p,h=>by
  rw [Gp] at h;split at h
  ·rcases ai4 f _ _ _ p h with q | q
   ·rcases List.mem_append.1 q with q | q
    ·exact .inl q
    ·exact .inr (by rw [List.mem_singleton.1 q])
   ·exact .inr q
  ·exact .inl h
theorem WP {e:Int}{an:Bool}{cl:Nat->ByteArray}{N:Nat}:∀ (l:List (Nat × (Int × Int))) (s:List (Nat × Int)),∀ p∈l.foldl (Il e an cl N) s,p∈s\/∃ x∈l,p.1=x.1
 | [],_,_,h=>.inl h
 | x :: l,s,p,h=>by
  rcases WP l _ p h with q | ⟨y,hy,e⟩
  ·rcases ai4 _ _ _ _ p q with q | q
   ·exact .inl q
   ·exact .inr ⟨x,cG ..,q⟩
  ·exact .inr ⟨y,kn _ hy,e⟩
theorem sU.disk {g:af}(h:sU g)(k:Nat)(D:az)(hD:g.Gb[k]?=some D):rH k D/\k<=3:=by
 obtain ⟨c,g0,g1,next,hc,_,_,_,KW,hn0,_,hv0,_,CD,KM,ye,hg,_,_⟩:=h.ex
 have hex:1<=g0.Gd/\g0.Gd<=16:=by
  simp only [dr,cY,dg] at KW;omega
 have vu:∀ D∈g0.Gb,0<=D.Gc/\D.Gc<=60:=fun D hD=>by
  obtain ⟨k,hk⟩:=fc hD;have:=(KM k D hk).ext;simp only [dr,cY,dg] at this;omega
 have ND:XR g0.Gb (List.replicate g0.Gb.length 0):=⟨by simp,by omega,by omega,fun D hD=>by have:=vu D hD;omega,fun d m hm=>by
  have:=ct hm;rw [tM] at this
  omega⟩
 have b:=bZ.bd ⟨hv0,hn0⟩ hex ND ye;have ed:g.Gb=g0.Gb:=by rw [hg];exact b.same.2.2.2.2.2.1
 rw [ed] at hD;exact ⟨KM k D hD,by have:=(List.getElem?_eq_some_iff.1 hD).1;omega⟩
theorem ai8 {sep:ByteArray}{d:az}{i j:Nat}(hd:rH i d)(hi:i<=3)(hj:j<=3):nU sep d≠NI++digit j:=by
 intro h;unfold nU at h;cases hf:d.tags.find? (mq sep) with
 | some t =>
  rw [hf] at h;have h:t=NI++digit j:=h;have h2:=fj (fun b:ByteArray=>b.data.toList) h;have ht:t∈iQ:=hd.tags.subset (eV hf);simp only [iQ,dr,cY,dg] at ht;rcases ht with rfl | rfl | rfl | rfl <;> rcases (show j=0\/j=1\/j=2\/j=3 by omega) with rfl | rfl | rfl | rfl <;> (exfalso;revert h2;decide)
 | none =>
  rw [hf] at h;have h:d.name++⟨#[32]⟩=NI++digit j:=h;rw [hd.name] at h;have h2:=fj (fun b:ByteArray=>b.data.toList) h;rcases (show i=0\/i=1\/i=2\/i=3 by omega) with rfl | rfl | rfl | rfl <;> rcases (show j=0\/j=1\/j=2\/j=3 by omega) with rfl | rfl | rfl | rfl <;> (exfalso;revert h2;decide)
theorem aj1 {g:af}{r:aY}{i:Nat}{d:az}(hd:g.Gb[i]?=some d):kt g r i=nU r.sep d:=by
 unfold kt jU;rw [bh (by omega),Int.toNat_natCast,hd]
theorem sU.cls {g:af}(h:sU g)(r:aY){i j:Nat}{d e:az}(hi:g.Gb[i]?=some d)(hj:g.Gb[j]?=some e):kt g r i≠e.name:=by
 rw [aj1 hi];obtain ⟨h1,h2⟩:=h.disk i d hi;obtain ⟨h3,h4⟩:=h.disk j e hj;rw [h3.name];exact ai8 h1 h2 h4
def zzaa (g:af)(r:aY)(s:List (Nat × Int)):List ByteArray:=s.flatMap fun p=>[kt g r p.1,(g.Gb.getD p.1 gT).name]
theorem UV (g:af)(r:aY)(s:List (Nat × Int)):(zzaa g r s).length=2*s.length:=by
 unfold zzaa
 induction s with
 | nil=>rfl
 | cons p s ih=>rw [lB,cD,ih];simp only [cS,gi];omega
theorem ai6 (g:af)(r:aY)(s:List (Nat × Int))(i:Nat)(p:Nat × Int)(h:s[i]?=some p):zzaa g r (s.take (i+1))=zzaa g r (s.take i)++[kt g r p.1,(g.Gb.getD p.1 gT).name]:=by
 unfold zzaa;rw [take_snoc' s i p h,xt];simp
structure aj0 (g:af)(r:aY)(s:List (Nat × Int)):Prop where
 lt:∀ p∈s,∃ d,g.Gb[p.1]?=some d
 new:∀ (i:Nat) (p:Nat × Int) (d:az),s[i]?=some p->g.Gb[p.1]?=some d->∀ t∈zzaa g r (s.take i),t≠kt g r p.1/\t≠d.name
 len:s.length=rE r
theorem ai7 {f:Nat × Int->ByteArray}{s:List (Nat × Int)}(h:(s.map f).Nodup){i:Nat}{p q:Nat × Int}(hp:s[i]?=some p)(hq:q∈s.take i):f q≠f p:=by
 obtain ⟨j,hj⟩:=fc hq;have nr:j<i:=by have:=(List.getElem?_eq_some_iff.1 hj).1;rw [ey] at this;omega
 rw [ri nr] at hj;obtain ⟨h1,rfl⟩:=List.getElem?_eq_some_iff.1 hj;obtain ⟨h2,rfl⟩:=List.getElem?_eq_some_iff.1 hp;have:=List.pairwise_iff_getElem.1 h j i (by simpa using h1) (by simpa using h2) nr;simpa using this
theorem ai9 {g:af}{r:aY}{xs:List (List (Int × Int))}(hb:sU g)(sB:CR g.Gb.length xs)(hq:rC r)(hp:kP g r=0)(ah9:r.Gg≠5)(hn:1<rE r)(he:AC g r xs=0) :
  aj0 g r (DV g r (iU xs))/\xO g r xs=((DV g r (iU xs)).map (Zw g),true):=by
 have hw:=(JP hq).1.1 hn;have hX:xO g r xs=((DV g r (iU xs)).map (Zw g),decide ((DV g r (iU xs)).length=rE r)):=by unfold xO;rw [aw hw]
 have hlen:(DV g r (iU xs)).length=rE r:=by
  unfold AC at he;rw [aw hp] at he;split at he
  ·rename_i h
   rw [hX] at h;exact of_decide_eq_true h
  ·cases he
 have hlt:∀ p∈DV g r (iU xs),∃ d,g.Gb[p.1]?=some d:=fun p hp'=>by
  rcases WP _ _ p hp' with q | ⟨x,hx,e⟩
  ·cases q
  ·exact aj g.Gb p.1 (by rw [e];exact (sB.yy x hx).1)
 have hnd:((DV g r (iU xs)).map fun p=>kt g r p.1).Nodup:=by
  unfold DV;rw [JL,show (r.Gg == 5)=false from beq_eq_false_iff_ne.2 ah9];exact List.pairwise_reverse.2 (List.Pairwise.imp (fun h=>h.symm) (IJ (Int.le_refl r.Gc) _ _ (rE r) _ [] [] (cg _) List.nodup_nil (.inr fun _ h=>h)).1)
 refine ⟨⟨hlt,fun i p d hi hd t ht=>?_,hlen⟩,by rw [hX,eA hlen]⟩;obtain ⟨q,hq',ht⟩:=List.mem_flatMap.1 ht;have hne:=ai7 hnd hi hq';have hqm:=List.mem_of_mem_take hq';obtain ⟨dq,hdq⟩:=hlt q hqm;simp only [dr,cY,dg] at ht;rcases ht with rfl | rfl
 ·exact ⟨hne,hb.cls r hdq hd⟩
 ·rw [show g.Gb.getD q.1 gT=dq by rw [List.getD_eq_getElem?_getD,hdq];rfl]
  refine ⟨fun e=>hb.cls r hd hdq e.symm,fun e=>hne ?_⟩;obtain ⟨h1,h2⟩:=hb.disk _ _ hdq;obtain ⟨h3,h4⟩:=hb.disk _ _ hd;rw [h1.name,h3.name] at e;rw [Fq h2 h4 e]
open Go.Maps Go.Shelf
theorem aj2 {W:World}{b:Nat}{l:List Value}{t:TypeId}{q:Nat × Nat}(h:W.heap[b]?=some (.cells l.toArray t q))(i:Nat)(z:Value)(hz:l[i]?=some z):W.cell? ⟨b,i,none⟩=some z:=by
 simp only [World.cell?,h];simpa using hz
theorem ai5 {ok:Nat->Prop}(g:af)(a:bN)(r:aY)(k:Int)(w:World)(hr:ck aO 7 ok w [.slice a.dp g.Gb.length a.dc] g.Gb)(CD:g.Gb.length<=1000000)(nt:∀ d∈g.Gb,d.tags.length<=1000000/\d.name.size<=1000000)(hk:-9223372036854775808<=k/\k<=9223372036854775807) :
  Calls prog 40 #[.agg #[.string g.name,.int .u64 g.id,.int .i64 g.seq,.int .i64 g.Gd,.int .i64 g.next,.slice a.tp g.tags.length a.tc,.slice a.dp g.Gb.length a.dc,.slice a.vp g.F9.length a.vc,.slice a.hp g.history.length a.hc],.agg #[.int .i64 r.Gi,.int .i64 r.Gh,.int .i64 r.Gc,.int .i64 r.Gg,.string r.tag,.string r.near,.string r.sep],.int .i64 k] w (FZ (jU g r k) w):=by
 have HG:=aa hr;clear hr;have Oj:=aa nt;clear nt;have hA1:=ae w (.cells #[.string g.name,.int .u64 g.id,.int .i64 g.seq,.int .i64 g.Gd,.int .i64 g.next,.slice a.tp g.tags.length a.tc,.slice a.dp g.Gb.length a.dc,.slice a.vp g.F9.length a.vc,.slice a.hp g.history.length a.hc] 31);have hA2:=ae (w.alloc (.cells #[.string g.name,.int .u64 g.id,.int .i64 g.seq,.int .i64 g.Gd,.int .i64 g.next,.slice a.tp g.tags.length a.tc,.slice a.dp g.Gb.length a.dc,.slice a.vp g.F9.length a.vc,.slice a.hp g.history.length a.hc] 31)) (.cells #[.int .i64 r.Gi,.int .i64 r.Gh,.int .i64 r.Gc,.int .i64 r.Gg,.string r.tag,.string r.near,.string r.sep] 35);have hN1:=b9 w (.cells #[.string g.name,.int .u64 g.id,.int .i64 g.seq,.int .i64 g.Gd,.int .i64 g.next,.slice a.tp g.tags.length a.tc,.slice a.dp g.Gb.length a.dc,.slice a.vp g.F9.length a.vc,.slice a.hp g.history.length a.hc] 31);have hN2:=b9 (w.alloc (.cells #[.string g.name,.int .u64 g.id,.int .i64 g.seq,.int .i64 g.Gd,.int .i64 g.next,.slice a.tp g.tags.length a.tc,.slice a.dp g.Gb.length a.dc,.slice a.vp g.F9.length a.vc,.slice a.hp g.history.length a.hc] 31)) (.cells #[.int .i64 r.Gi,.int .i64 r.Gh,.int .i64 r.Gc,.int .i64 r.Gg,.string r.tag,.string r.near,.string r.sep] 35);rw [cW] at hN2;have Fm:Hid (jF ((w.alloc (.cells #[.string g.name,.int .u64 g.id,.int .i64 g.seq,.int .i64 g.Gd,.int .i64 g.next,.slice a.tp g.tags.length a.tc,.slice a.dp g.Gb.length a.dc,.slice a.vp g.F9.length a.vc,.slice a.hp g.history.length a.hc] 31)).alloc (.cells #[.int .i64 r.Gi,.int .i64 r.Gh,.int .i64 r.Gc,.int .i64 r.Gg,.string r.tag,.string r.near,.string r.sep] 35)) w.heap.size (w.heap.size+1) g a r):=aa ⟨(hA2.block _ (aq hN1)).trans hN1,hN2⟩;have cU:=aa (hA1.trans (hA2.mono hA1.size));clear hA1 hA2 hN1 hN2;go_enter func40,ntmps40
 go_upto_region 1 with (fail)
 generalize hW1:World.alloc (World.alloc w _) _=W1 at *;generalize Rz:w.heap.size+1=Br at *;generalize LY:w.heap.size=Bg at *;have pd:Hid (Below w.heap.size w W1):=aa (by rw [LY];exact cU.o);clear hW1 cU;have g6:=Fm.o.gc 6 _ rfl
 by_cases h0:k<0
 ·have HR:Hid (jU g r k=⟨#[]⟩):=aa (by unfold jU;rw [aw h0])
  go_wp2;go_ret;exact ⟨by rw [HR.o];rfl,pd.o⟩
 ·obtain ⟨j,rfl⟩:=D4 (by omega:0<=k)
  by_cases hlt:j<g.Gb.length
  ·obtain ⟨d,hd⟩:=aj g.Gb j hlt
   have HR:Hid (jU g r j=nU r.sep d):=aa (by unfold jU;rw [bh h0,Int.toNat_natCast,hd]);have WY:=Oj.o d (ct hd);obtain ⟨b,off,us,hsp,gR,cX,ez,eE,hcv⟩:=HG.o.elem hd;obtain ⟨tv,rfl,ew⟩:=eE;obtain ⟨tp,tc,rfl,_,_⟩:=ew.cap;rw [hsp] at g6;have cT:=pd.o.block b cX;obtain ⟨q0,q1,q2,q3,q4,q5,q6⟩:=OD cT hcv;clear hcv ez cT hd hsp;have hA:=ae W1 (.cells #[.string d.name,.int .u64 d.id,.int .i64 d.first,.int .i64 d.Gc,.bool d.closed,.bool d.missing,.slice tp d.tags.length tc] 47);have sX:=aa (b9 W1 (.cells #[.string d.name,.int .u64 d.id,.int .i64 d.first,.int .i64 d.Gc,.bool d.closed,.bool d.missing,.slice tp d.tags.length tc] 47));have cm:=aa (pd.o.trans (hA.mono pd.o.size));have ZG:=aa ((Fm.o.below hA).rc 6 _ rfl);have HRL:=aa (aq (Fm.o.below hA).r);have Hx:=aa ((ck.moves aF.moves).mv (ok':=fun b=>ok b) ⟨cm.o.size,fun b hb ho=>⟨ho,cm.o.block b hb⟩⟩ ew);clear hA ew
   go_upto_region 4 with (fail)
   clear q0 q1 q2 q3 q4 q5 q6 g6;generalize hW2:World.alloc W1 _=W2 at *;generalize J6:W1.heap.size=Bd at *;clear hW2;have ak1:=aq sX.o;have ak2:=HRL.o;have ad2:=WY.1;have hnz:=WY.2;clear WY;go_wp2
   go_loopw [8] (fun i wr=>∃ m:Nat,m<=d.tags.length/\i=.int .i64 m/\(d.tags.take m).find? (mq r.sep)=none/\Below W2.heap.size W2 wr) (fun i _=>d.tags.length - (intOf i).toNat)
   case atStart=>exact ⟨0,cg _,rfl,rfl,bj _ _⟩
   case round =>
    obtain ⟨m,hm,rfl,hfn,hB⟩:=hrel;have WG:=aa hfn;clear hfn;have dL:=aj2 ((hB.block _ ak1).trans sX.o);have d0:=dL 0 _ rfl;have d6:=dL 6 _ rfl;have r6:=(hB.cell (p:=⟨Br,6,none⟩) ak2).trans ZG.o;have fy:=aa (cm.o.trans (hB.mono cm.o.size));have Fc:=aa hB;clear dL
    by_cases hlt2:m<d.tags.length
    ·obtain ⟨t,ht⟩:=aj d.tags m hlt2
     obtain ⟨b3,off3,us3,hsp3,B7,wa,pT,J8,hcv3⟩:=Hx.o.elem ht;obtain rfl:us3=_:=J8;subst hsp3;have q0:=(hB.cell (p:=⟨b3,off3+m*1+0,none⟩) wa).trans (hcv3 0 _ rfl);rw [fp,fg] at q0
     have HF1:Hid (mq r.sep t=true->nU r.sep d=t):=aa fun hb=>by
      have:d.tags.find? (mq r.sep)=some t:=by
       rw [<- rk m d.tags,tD,WG.o,drop_at ht];simp [hb]
      unfold nU;rw [this]
     have KD:Hid (mq r.sep t=false->(d.tags.take (m+1)).find? (mq r.sep)=none):=aa fun hb=>by
      rw [take_snoc' d.tags m t ht,tD,WG.o];simp [hb]
     have nw:Hid (mq r.sep t=(!r.sep.toList.isEmpty&&Lib.hasPrefix t.data.toList r.sep.data.toList)):=aa rfl;have aj4:=aa (Lib.hasPrefix_raw t r.sep)
     have aj6:Hid (r.sep.toList.isEmpty=true->nU r.sep d=d.name++⟨#[32]⟩):=aa fun h=>by
      unfold nU;rw [List.find?_eq_none.2 fun x hx=>by simp [mq,h]]
     clear ht hcv3 pT hB;cases OQ:r.sep.toList.isEmpty with
     | true =>
      have E3:=aa (aj6.o OQ);have ad3:¬ (9223372036854775807<d.name.size+1):=by omega
      go_wp2;go_ret;exact ⟨by rw [HR.o,E3.o];rfl,fy.o⟩
     | false =>
      rw [OQ] at nw;have LX:Hid (∀ n,Below Bg w (wr.drewN n)):=aa fun n=>by rw [<- LY];exact aT fy.o n
      have HBY:Hid (∀ n,Below W2.heap.size W2 (wr.drewN n)):=aa fun n=>aT Fc.o n
      by_cases hle:r.sep.size<=t.size
      ·have hg:decide ((t.size:Int) ≥ (r.sep.size:Int))=true:=eA (by omega)
       cases Uz:Lib.hasPrefix t.data.toList r.sep.data.toList with
       | true =>
        rw [Uz] at nw
        have Kn:((t.extract 0 r.sep.size).toList == r.sep.toList)=true:=by
         have:=aj4.o
         rwa [Uz,eA hle,Bool.true_and] at this
        have E3:=aa (HF1.o nw.o);clear Uz aj4
        go_upto_region 8 with (fail)
        go_quiet (fail);clear Kn hg;go_wp2;go_ret;exact ⟨by rw [HR.o,E3.o];rfl,by rw [LY];exact LX.o _⟩
       | false =>
        rw [Uz] at nw
        have Kn:((t.extract 0 r.sep.size).toList == r.sep.toList)=false:=by
         have:=aj4.o
         rwa [Uz,eA hle,Bool.true_and] at this
        have E3:=aa (KD.o nw.o);clear Uz aj4
        go_upto_region 8 with (fail)
        go_quiet (fail);clear Kn hg;go_wp2;go_roundw
        case rel=>exact ⟨m+1,by omega,by go_num,E3.o,HBY.o _⟩
        case measure=>simp [intOf];omega
      ·have hg:decide ((t.size:Int) ≥ (r.sep.size:Int))=false:=cN (by omega)
       have E3:=aa (KD.o (by rw [nw.o,<- aj4.o,cN hle];rfl));clear aj4
       go_upto_region 8 with (fail)
       go_quiet (fail);clear hg;go_wp2;go_roundw
       case rel=>exact ⟨m+1,by omega,by go_num,E3.o,HBY.o _⟩
       case measure=>simp [intOf];omega
    ·obtain rfl:m=d.tags.length:=by omega
     rw [cI] at WG;have E3:Hid (nU r.sep d=d.name++⟨#[32]⟩):=aa (by unfold nU;rw [WG.o]);have ad3:¬ (9223372036854775807<d.name.size+1):=by omega
     clear hB;go_wp2;go_ret;exact ⟨by rw [HR.o,E3.o];rfl,fy.o⟩
  ·have HR:Hid (jU g r j=⟨#[]⟩):=aa (by unfold jU;rw [bh h0,Int.toNat_natCast,xj (by omega)])
   go_wp2;go_ret;exact ⟨by rw [HR.o];rfl,pd.o⟩
theorem dF.cap {w:World}{B:Nat}{v:Value}{l:List ByteArray}(h:dF w B v l):∃ p c,v=.slice p l.length c/\l.length<=c/\c<=9223372036854775807:=by
 obtain ⟨p,c,e,h1,h2⟩:=(h.rd (ok:=fun _=>True) fun _ _=>trivial).cap;exact ⟨p,c,e,h1,h2⟩
theorem mi.part {w:World}{B:Nat}{p:Option Addr}{n c:Nat}{g:af}{s:List (Nat × Int)}(h:mi w B (.slice p n c) (s.map (Zw g))){k:Nat}{x:Nat × Int}(hx:s[k]?=some x) :
  ∃ b b2 off cx,p=some ⟨b,0,none⟩/\b<w.heap.size/\w.cell? ⟨b,k,none⟩=some (.slice (some ⟨b2,off,none⟩) 1 cx)/\b2<w.heap.size/\w.cell? ⟨b2,off+1,none⟩=some (.string (arP g x).on):=by
 obtain ⟨b,u,h1,_,h3,h4,h5⟩:=h.at (show (s.map (Zw g))[k]?=some (Zw g x) by rw [rI,hx];rfl);have hr:=h5.rd (ok':=fun _=>True) aQ.moves (by decide) (fun _ _ _=>trivial) (fun _ _=>trivial);obtain ⟨q,cx,rfl,_,_⟩:=hr.cap;obtain ⟨b2,off,us,rfl,_,cX,_,eE,hcv⟩:=hr.elem (k:=0) (show (Zw g x)[0]?=some (arP g x) from rfl);obtain rfl:us=_:=eE;have q1:=hcv 1 _ rfl;rw [Nat.zero_mul,fg] at q1;exact ⟨b,b2,off,cx,h1,h3,h4,cX,q1⟩
theorem NE (l:List Int)(v:Value)(w:World)(hr:Hs w v l)(hl:∀ x∈l,-9223372036854775808<=x/\x<=9223372036854775807)(hS:AW w) :
  Calls prog 13 #[v] w fun e w'=>e=.returned (.bool true)/\Below w.heap.size w w':=by
 have HR:=aa hr;clear hr;have MD:=aa hS;clear hS;go_enter func13,ntmps13
 go_wp2_with fail
 refine (ED l v w HR.o hl).mono ?_;rintro e w1 ⟨rfl,hs1,hz1,hb1⟩
 go_wp2_with fail
 refine (Ca w.heap.size w1 hs1).mono ?_;intro e w2 hG;obtain ⟨g,a,rfl,hgr,MC,hs2,hb2,hz2⟩:=hG.open2 hb1 hz1;have Tt:=aa (MD.o.below hb2);clear hs1 hz1 hb1 hG;have XT:=aa MC.gin;have Nj:Hid (g.Gb.length<=4/\g.F9.length<=44):=aa ⟨MC.tame.dl,MC.tame.vl⟩;have HBT:=aa MC;clear MC;have bA:=ae w2 (.cells #[.string g.name,.int .u64 g.id,.int .i64 g.seq,.int .i64 g.Gd,.int .i64 g.next,.slice a.tp g.tags.length a.tc,.slice a.dp g.Gb.length a.dc,.slice a.vp g.F9.length a.vc,.slice a.hp g.history.length a.hc] 31);have Zr:=aa (b9 w2 (.cells #[.string g.name,.int .u64 g.id,.int .i64 g.seq,.int .i64 g.Gd,.int .i64 g.next,.slice a.tp g.tags.length a.tc,.slice a.dp g.Gb.length a.dc,.slice a.vp g.F9.length a.vc,.slice a.hp g.history.length a.hc] 31));have Lm:=aa (hgr.lt.keep (cR.bl bA));have XM:=aa (hs2.keep (w':=w2.alloc (.cells #[.string g.name,.int .u64 g.id,.int .i64 g.seq,.int .i64 g.Gd,.int .i64 g.next,.slice a.tp g.tags.length a.tc,.slice a.dp g.Gb.length a.dc,.slice a.vp g.F9.length a.vc,.slice a.hp g.history.length a.hc] 31)) fun i hi=>bA.block i (by omega));have cJ:=aa (hb2.trans (bA.mono hb2.size));have Tu:=aa (Tt.o.below bA);clear hgr hs2 hb2 bA Tt
 go_upto_region 3 with (fail)
 generalize hW3:World.alloc w2 _=W3 at *;generalize Ms:w2.heap.size=Bg at *;clear hW3 Ms
 have gL:=cr Zr.o
 obtain ⟨g0,g1,g2,g3,g4,g5,g6,g7,g8⟩:=xr gL;clear gL;have CD:=Nj.o.1;have mb:=Nj.o.2;have SA:=aa (wX g a w.heap.size W3 ((ck.moves aN.moves).mv ⟨bk _,fun b _ hb=>⟨hb.1,rfl⟩⟩ Lm.o.F9) (by omega) (fun v hv=>(XT.o.tx.vol v hv).1) XM.o)
 go_wp2_with fail
 clear g0 g1 g2 g3 g4 g5 g6 g7 g8;refine SA.o.mono ?_;rintro e w4 ⟨r,rfl,Kg,hs4,hm4⟩;clear SA;have h0w:=MD.o.1;have hA:=ae w4 (.cells #[.int .i64 r.Gi,.int .i64 r.Gh,.int .i64 r.Gc,.int .i64 r.Gg,.string r.tag,.string r.near,.string r.sep] 35);have hN:=b9 w4 (.cells #[.int .i64 r.Gi,.int .i64 r.Gh,.int .i64 r.Gc,.int .i64 r.Gg,.string r.tag,.string r.near,.string r.sep] 35);have ye:Bg≠w.heap.size:=by omega
 have HST:Hid (iw w Bg w4.heap.size g a r (w4.alloc (.cells #[.int .i64 r.Gi,.int .i64 r.Gh,.int .i64 r.Gc,.int .i64 r.Gg,.string r.tag,.string r.near,.string r.sep] 35))):=aa
  ⟨hs4.keep fun i hi=>hA.block i (rr hi hs4.lt),(cJ.o.trans (hm4.below cJ.o.size (fun k e=>by omega))).trans (hA.mono (cA cJ.o.size hm4.size)),(Lm.o.keep hm4).keep (cR.bl hA),
   (hA.block _ (cC (aq Zr.o) hm4.size)).trans ((hm4.block _ (aq Zr.o) ye).trans Zr.o),hN,Kg,(Tu.o.mod hm4 (by omega)).below hA⟩
 have kq:Bg<w4.heap.size:=cC (aq Zr.o) hm4.size;clear hA hN Kg hs4 hm4 Zr Lm XM cJ Tu;unfold mO
 go_upto_region 4 with (fail)
 generalize hW5:World.alloc w4 _=W5 at *;generalize PF:w4.heap.size=Bq at *;clear hW5 PF;have gL:=HST.o.gc;obtain ⟨g0,g1,g2,g3,g4,g5,g6,g7,g8⟩:=xr gL;have qL:=HST.o.qc;obtain ⟨q0,q1,q2,q3,q4,q5,q6⟩:=se qL;clear gL qL;have Ub:=aa (rA g a r W5 HST.o.gr XT.o HST.o.rq HST.o.sf)
 go_wp2_with fail
 clear g0 g1 g2 g3 g4 g5 g6 g7 g8 q0 q1 q2 q3 q4 q5 q6;refine Ub.o.mono ?_;clear Ub;rintro e w6 ⟨v1,xs,rfl,hb6,Uv,vh,-,V8⟩;have HS6:=aa (HST.o.below hb6);have hsz5:=HST.o.bl.size;have hz6:=hb6.size;have ai3:=aq HS6.o.qb;clear hb6 HST;have aj6:Hid (∀ (Q:Exit->Act->World->Prop) (wx:World),True):=aa fun _ _=>trivial;clear aj6
 by_cases he:AC g r xs=0
 ·have hp:kP g r=0:=by
   unfold AC at he;split at he
   ·assumption
   ·exact he
  rw [aw hp] at vh;have hro:=rC.of hp
  have tP:(pM g).2=0:=by
   unfold kP at hp;split at hp
   ·assumption
   ·rename_i hm
    exact absurd hp hm
  have XE:=aa hro;have hm0:=oA (show 0<=r.Gi by have:=hro.l.1;omega) (show 0<=r.Gh by have:=hro.s.1;omega);have hwm:IntKind.i64.wrap (r.Gi*r.Gh)=r.Gi*r.Gh:=dy _ (by have:=hro.ls;omega);have q0:=HS6.o.qc 0 _ rfl;have q1:=HS6.o.qc 1 _ rfl;have q3:=HS6.o.qc 3 _ rfl
  by_cases hn:r.Gi*r.Gh<2
  ·have hd1:decide (r.Gi*r.Gh<2)=true:=eA hn
   rw [he];clear he hp Uv vh tP hro V8 hm0 hn;have XV:=aa (DR _ HS6.o.sf);have B3:=aa HS6.o.bl
   go_wp2_with fail
   clear q0 q1 q3 hwm hd1;refine XV.o.mono ?_;rintro e w11 ⟨rfl,hb11⟩;have C7:=aa (B3.o.trans (hb11.mono B3.o.size));clear hb11;go_wp2;go_ret;exact ⟨rfl,C7.o⟩
  ·have hd1:decide (r.Gi*r.Gh<2)=false:=cN hn
   by_cases ah9:r.Gg=5
   ·have hd2:(r.Gg == 5)=true:=by rw [ah9];rfl
    rw [he];clear he hp Uv vh tP hro V8 hm0 hn ah9;have XV:=aa (DR _ HS6.o.sf);have B3:=aa HS6.o.bl
    go_wp2_with fail
    clear q0 q1 q3 hwm hd1 hd2;refine XV.o.mono ?_;rintro e w11 ⟨rfl,hb11⟩;have C7:=aa (B3.o.trans (hb11.mono B3.o.size));clear hb11;go_wp2;go_ret;exact ⟨rfl,C7.o⟩
   ·have hd2:(r.Gg == 5)=false:=beq_eq_false_iff_ne.2 ah9
    have aj8:1<rE r:=by unfold rE;omega
    obtain ⟨hap,hX⟩:=ai9 HBT.o (tK.runs (Fb XT.o tP) Uv vh) hro hp ah9 aj8 he;have aj5:=V8 he;rw [hX] at aj5;dsimp only at aj5;have YH:=aa hap;have VB:=aa aj5
    have HPV:Hid (∀ (i j:Nat) (d e:az),g.Gb[i]?=some d->g.Gb[j]?=some e->¬ i=j->d.name≠e.name):=aa fun i j d e hd he' OG h=>by
     obtain ⟨h1,h2⟩:=HBT.o.disk i d hd;obtain ⟨h3,h4⟩:=HBT.o.disk j e he';rw [h1.name,h3.name] at h;exact OG (Fq h2 h4 h)
    have HDZ:Hid (∀ d∈g.Gb,d.tags.length<=1000000/\d.name.size<=1000000):=aa fun d hd=>by
     have ND:(dw g).2=0:=(Dg tP).2.1;obtain ⟨h1,h2,-⟩:=GM ND d hd;exact ⟨by omega,by omega⟩
    have zr:(DV g r (iU xs)).length<=6:=by rw [hap.len];have:=hro.ls;unfold rE;omega
    have aj9:((DV g r (iU xs)).length:Int)=r.Gi*r.Gh:=by rw [hap.len];unfold rE;omega
    rw [he];generalize DV g r (iU xs)=S at *;clear he hp Uv vh tP hro V8 aj5 hm0 hn ah9 hap hX aj8;obtain ⟨pa,ca,rfl,WB,ak7⟩:=VB.o.cap;rw [fW] at VB WB ⊢;have Ns:=aa aj9;clear aj9
    go_upto_region 8 with (fail)
    clear q0 q1 q3 hwm hd1 hd2;go_wp2
    go_loopw [8,9] (fun sv i wr=>∃ k:Nat,k<=S.length/\i=.int .i64 k/\dF wr w6.heap.size sv (zzaa g r (S.take k))/\Below w6.heap.size w6 wr) (fun _ i _=>S.length - (intOf i).toNat)
    case atStart=>exact ⟨0,cg _,rfl,dF.nil _ _,bj _ _⟩
    case round =>
     obtain ⟨k,hk,rfl,hown,hB⟩:=hrel
     by_cases hlt:k<S.length
     ·obtain ⟨p,hp⟩:=aj S k hlt
      obtain ⟨d,hd⟩:=YH.o.lt p (ct hp);have Ml:=aa (ai6 g r S k p hp);have ak3:=aa (YH.o.new k p d hp hd);have GF:(zzaa g r (S.take k)).length<=12:=by rw [UV,ey];omega
      have hpd:(g.Gb.getD p.1 gT).name=d.name:=by rw [List.getD_eq_getElem?_getD,hd];rfl
      have hpl:=(List.getElem?_eq_some_iff.1 hd).1;rw [hpd] at Ml;obtain ⟨bp,b2,off2,cx,Qq,aj7,Mq,ak0,QM⟩:=VB.o.part hp;rw [show (arP g p).on=d.name from hpd] at QM;subst Qq;generalize zzaa g r (S.take k)=sn at *;have ZY:=aa Mq;clear Mq;have RH:=aa QM;clear QM;have HOW:=aa hown;clear hown;have HB:=aa hB;have HD:=aa hd;clear hp hpd hd;have c1:=(hB.cell (p:=⟨bp,k,none⟩) aj7).trans ZY.o;have LZ:=hB.size;clear hB
      go_upto_region 13 with (fail)
      clear c1;go_wp2
      go_loopw [8,10] (fun sv kk wi=>∃ m:Nat,m<=g.Gb.length/\kk=.int .i64 m/\dF wi w6.heap.size sv (sn++if p.1<m then [kt g r p.1,d.name] else [])/\Below w6.heap.size w6 wi) (fun _ i _=>g.Gb.length - (intOf i).toNat)
      case atStart=>exact ⟨0,cg _,rfl,by rw [bh (by omega),eM];exact HOW.o,HB.o⟩
      case round =>
       clear HOW HB;obtain ⟨m,hm,rfl,hown,hB⟩:=hrel;have ox:=aa (HS6.o.below hB);have g6:=ox.o.gc 6 _ rfl;have ak8:=hB.size
       by_cases hlt2:m<g.Gb.length
       ·obtain ⟨aj3,Ni⟩:=aj g.Gb m hlt2
        have HDM:=aa Ni;obtain ⟨b3,off3,us3,hsp3,B7,wa,pT,J8,hcv3⟩:=ox.o.gr.Gb.elem Ni;obtain ⟨tv,rfl,_⟩:=J8;rw [hsp3] at g6;have d0:=hcv3 0 _ rfl;rw [fg] at d0;have c1:=(hB.cell (p:=⟨bp,k,none⟩) aj7).trans ZY.o;have c2:=(hB.cell (p:=⟨b2,off2+1,none⟩) ak0).trans RH.o;have HOW:=aa hown;clear hown;have HB:=aa hB;clear hB;clear hcv3 pT Ni hsp3
        by_cases TZ:m=p.1
        ·subst TZ
         obtain rfl:aj3=d:=gj (HDM.o.symm.trans HD.o);rw [bh (Nat.lt_irrefl _),eM] at HOW;have hne:(aj3.name.toList != aj3.name.toList)=false:=by simp
         go_upto_region 16 with (fail)
         go_quiet (fail);clear hne g6 d0 c1 c2;generalize hW8:wr.drewN _=W8;have hB8:Below w6.heap.size w6 W8:=by rw [<- hW8];exact aT HB.o _
         have HOW8:Hid (dF W8 w6.heap.size _ sn):=aa (by rw [<- hW8];exact HOW.o.below (aT (bj _ _) _));clear hW8 HOW HB ox;have Ix:=aa hB8;have HS8:=aa (HS6.o.below hB8);have gL:=HS8.o.gc;obtain ⟨g0,g1,g2,g3,g4,g5,g6,g7,g8⟩:=xr gL;have qL:=HS8.o.qc;obtain ⟨q0,q1,q2,q3,q4,q5,q6⟩:=se qL;clear gL qL hB8;have HRC:=aa (ai5 g a r (p.1:Int) W8 HS8.o.gr.Gb (by omega) HDZ.o (by omega))
         go_wp2_with fail
         clear g0 g1 g2 g3 g4 g5 g6 g7 g8 q0 q1 q2 q3 q4 q5 q6;refine HRC.o.mono ?_;clear HRC;rintro e w9 ⟨rfl,hb9⟩;rw [show jU g r (p.1:Int)=kt g r p.1 from rfl];have J1:=aa (Ix.o.trans (hb9.mono Ix.o.size));have HOW9:=aa (HOW8.o.below hb9);have hsz9:=J1.o.size;clear hb9 Ix HOW8 HS8;obtain ⟨ps,cs,rfl,hcs1,hcs2⟩:=HOW9.o.cap;go_wp2
         go_loopw [12] (fun jj ak4=>∃ n:Nat,n<=sn.length/\jj=.int .i64 n/\Below w9.heap.size w9 ak4) (fun i _=>sn.length - (intOf i).toNat)
         case atStart=>exact ⟨0,cg _,rfl,bj _ _⟩
         case round =>
          obtain ⟨n,hn,rfl,Y0⟩:=hrel;have hBJ:=J1.o.trans (Y0.mono J1.o.size);have ak9:=Y0.size;have c1:=(hBJ.cell (p:=⟨bp,k,none⟩) aj7).trans ZY.o;have c2:=(hBJ.cell (p:=⟨b2,off2+1,none⟩) ak0).trans RH.o;have Uu:=aa hBJ;clear hBJ
          by_cases hlt3:n<sn.length
          ·obtain ⟨t,ht⟩:=aj sn n hlt3
           obtain ⟨h1,h2⟩:=ak3.o t (ct ht);obtain ⟨b4,off4,us4,hsp4,_,ak5,_,ak6,hcv4⟩:=(HOW9.o.rd (ok:=fun _=>True) fun _ _=>trivial).elem ht;obtain rfl:us4=_:=ak6;subst hsp4;have s0:=(Y0.cell (p:=⟨b4,off4+n*1+0,none⟩) ak5).trans (hcv4 0 _ rfl);rw [fp,fg] at s0;have hx1:=Pi h1;have hx2:=Pi h2;have Qv:=aa Y0;clear hcv4 ht h1 h2 Y0 Uu
           go_upto_region 21 with (fail)
           go_quiet (fail);clear hx1 hx2 s0 c1 c2;have LX:Hid (∀ n,Below w9.heap.size w9 (wr.drewN n)):=aa fun n=>aT Qv.o n;go_wp2;go_roundw
           case rel=>exact ⟨n+1,by omega,by go_num,LX.o _⟩
           case measure=>simp [intOf];omega
          ·have HOJ:=aa (HOW9.o.below Y0)
           clear Y0
           go_wp2_with (at_builtin;refine mW (ok:=fun _=>True) rfl _ _ rfl w6.heap.size _ sn [kt g r p.1,aj3.name] rfl ?c1 (some ⟨wr.heap.size,0,none⟩) 2 rfl ?c2 ?c4 ?c3 ?_)
           case c1=>exact HOJ.o.alloc _
           case c2=>exact uW wr [kt g r p.1,aj3.name] 9 (fun _=>True) trivial (by simp)
           case c4=>simp;omega
           case c3=>simp;omega
           intro v' w12 hown12 hb12 hg12;have KV:=aa ((Uu.o.alloc (by omega) (.cells #[.string (kt g r p.1),.string aj3.name] 9)).trans (hb12.mono (by simp <;> omega)));have HO12:=aa hown12;clear hown12 hb12 hg12 c1 c2;go_wp2;go_roundw
           case rel=>exact ⟨p.1+1,by omega,by go_num,by rw [aw (Nat.lt_succ_self _)];exact HO12.o,KV.o⟩
           case measure=>simp [intOf];omega
        ·have hne:=Pi (HPV.o m p.1 aj3 d HDM.o HD.o TZ)
         have j9:Hid ((if p.1<m+1 then [kt g r p.1,d.name] else [])=if p.1<m then [kt g r p.1,d.name] else []):=aa (by
          by_cases q:p.1<m
          ·rw [aw q,aw (by omega)]
          ·rw [bh q,bh (by omega)])
         have LX:Hid (∀ n,Below w6.heap.size w6 (wr.drewN n)):=aa fun n=>aT HB.o n;have HOQ:Hid (∀ n,dF (wr.drewN n) w6.heap.size _ _):=aa fun n=>HOW.o.below (aT (bj _ _) n)
         go_upto_region 16 with (fail)
         go_quiet (fail);clear hne g6 d0 c1 c2;go_wp2;go_roundw
         case rel=>exact ⟨m+1,by omega,by go_num,by rw [j9.o];exact HOQ.o _,LX.o _⟩
         case measure=>simp [intOf];omega
       ·obtain rfl:m=g.Gb.length:=by omega
        rw [aw hpl] at hown;rw [<- Ml.o] at hown;have HOW:=aa hown;have HB:=aa hB;clear hown hB;go_wp2;go_roundw
        case rel=>exact ⟨k+1,by omega,by go_num,HOW.o,HB.o⟩
        case measure=>simp [intOf];omega
     ·obtain rfl:k=S.length:=by omega
      rw [cI] at hown;obtain ⟨ps,cs,rfl,hcs1,hcs2⟩:=hown.cap;have HS9:=aa (HS6.o.below hB);have q0:=HS9.o.qc 0 _ rfl;have q1:=HS9.o.qc 1 _ rfl;have hl2:=XE.o.l;have U6:=XE.o.ls;have hw2:IntKind.i64.wrap (2*r.Gi)=2*r.Gi:=dy _ (by omega);have hmul:2*r.Gi*r.Gh=2*(r.Gi*r.Gh):=Int.mul_assoc ..;have hm1:=Ns.o;have hw3:IntKind.i64.wrap (2*r.Gi*r.Gh)=2*r.Gi*r.Gh:=dy _ (by omega)
      have heq:(((zzaa g r S).length:Int) == 2*r.Gi*r.Gh)=true:=by
       rw [UV,beq_iff_eq];omega
      clear hown hmul hm1 hB;have XV:=aa (DR _ HS9.o.sf);have B3:=aa HS9.o.bl
      go_wp2_with fail
      clear q0 q1 hw2 hw3 heq;refine XV.o.mono ?_;rintro e w11 ⟨rfl,hb11⟩;have C7:=aa (B3.o.trans (hb11.mono B3.o.size));clear hb11;go_wp2;go_ret;exact ⟨rfl,C7.o⟩
 ·have hee:(AC g r xs != 0)=true:=by simpa using he
  clear he Uv vh V8;have XV:=aa (DR _ HS6.o.sf);have B3:=aa HS6.o.bl
  go_wp2_with fail
  refine XV.o.mono ?_;rintro e w11 ⟨rfl,hb11⟩;have C7:=aa (B3.o.trans (hb11.mono B3.o.size));clear hb11;go_wp2;go_ret;exact ⟨rfl,C7.o⟩
end Go.Proofs.YtjdfihglehfelaaGreatDoor
