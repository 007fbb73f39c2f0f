/- Lemmas: RefA, RefB, RanH. -/
import Derived.Test.YtjdfihglehfelaaGreatDoorPf30
import Derived.Laws.AppendOwnNone
set_option maxRecDepth 100000
set_option maxHeartbeats 32000000
set_option linter.all false
namespace Go.Proofs.YtjdfihglehfelaaGreatDoor
open Go.Proofs.Tryz
open Go.RowKit
theorem Hq (l:List Int)(j:Nat)(u:Value)(h:(l.map (Value.int .i64))[j]?=some u):∃ n,l[j]?=some n/\u=.int .i64 n:=by
 rw [rI] at h;cases hl:l[j]? with
 | none=>rw [hl] at h;cases h
 | some n=>rw [hl] at h;cases h;exact ⟨n,rfl,rfl⟩
theorem Ih (w:World)(B:Nat)(v vx:Value)(l m:List Int)(ty:TypeId)(hown:eG w B v l)(hx:Hs w vx m)(hlen:l.length+m.length<=100000000)(hB:B<=w.heap.size) :
  ∃ v' w',(Builtin.append_ #[22,22] ty #[v,vx]).run prog w=.ok v' w'/\eG w' B v' (l++m)/\w.grownBy w' v.ownBlock:=by
 obtain ⟨i0,hi,hz0,hz1,hz2⟩:=ei tZ;obtain ⟨p,cap,rfl,hlc,ij,hp⟩:=hx;cases p with
 | none =>
  have hm:m=[]:=by
   cases m with
   | nil=>rfl
   | cons a m=>obtain ⟨b,off,e,_⟩:=hp (by simp);cases e
  subst hm;refine ⟨v,w,?_,by simpa using hown,⟨rfl,rfl,rfl,bk _,fun _ _ _=>rfl⟩⟩;rcases hown.2 with ⟨rfl,hn⟩ | ⟨g,cap',cur,rfl,_,_,vr,_⟩
  ·simp [Builtin.append_,tU underlying22,sizeOf,typeInfo,hi,Builtin.lenOf,Builtin.firstCells]
  ·simp [Builtin.append_,tU underlying22,sizeOf,typeInfo,hi,Builtin.lenOf,Builtin.firstCells,vr,storeCells]
 | some a =>
  by_cases h0:0<m.length
  ·obtain ⟨b,off,e,hb,hc⟩:=hp h0
   cases e
   obtain ⟨v',w',hr,ho',hg,_⟩:=run_append_own (P:=prog) w B 22 ty 3 i0 _ 1 8 underlying22 hi hz0 hz1 hz2 rfl (by decide) v l.length (l.map (Value.int .i64)) hown ⟨b,off,none⟩ m.length cap (m.map (Value.int .i64)) (by simp) (fun j u hu=>by
    obtain ⟨n,hn,rfl⟩:=Hq m j u hu;rw [iz]
    exact hc j n hn) (fun u hu=>by rw [List.mem_map] at hu;obtain ⟨n,_,rfl⟩:=hu;rfl) (by unfold maxLen;omega) (by omega) hB
   refine ⟨v',w',hr,?_,hg⟩;unfold eG;rw [gl,cD];exact ho'
  ·have hm:m=[]:=fX (by omega)
   subst hm;obtain ⟨v',w',hr,ho',hg,_⟩:=run_append_own (P:=prog) w B 22 ty 3 i0 _ 1 8 underlying22 hi hz0 hz1 hz2 rfl (by decide) v l.length (l.map (Value.int .i64)) hown a 0 cap [] rfl (fun j u hu=>by simp at hu) (fun u hu=>by cases hu) (by unfold maxLen;omega) (by omega) hB
   refine ⟨v',w',hr,?_,hg⟩;unfold eG;simpa using ho'
theorem pz {ops:Array Oper}{o:Oper}{a:Act}{w:World}{K:Act->World->Prop}{Q:Exit->Act->World->Prop}{E:Prop}
  (hg:o.guard=none) (s x:Operand) (hop:o.op=Op.call { callee:=Callee.builtin Builtin.append,args:=#[s,x],argTypes:=#[22,22] })
  (B:Nat) (v vx:Value) (l m:List Int) (hs:a.eval s=v) (hx:a.eval x=vx) (hown:eG w B v l) (kf:Hs w vx m) (hlen:l.length+m.length<=100000000) (hB:B<=w.heap.size)
  (hK:∀ v' w',eG w' B v' (l++m)->w.grownBy w' v.ownBlock->K (a.put o.dst v') w'):if Region.wanted o (yielded ops a.tmps)=true then Oper.wp prog o a w K Q else E:=by
 have hw:Region.wanted o (yielded ops a.tmps)=true:=by simp [Region.wanted,hg]
 rw [aw hw];obtain ⟨v',w',hr,h1,h2⟩:=Ih w B v vx l m o.type hown kf hlen hB;unfold Oper.wp;simp [execOp,hop,resolve,invoke,builtin,hs,hx,hr,Result.andThen];exact hK v' w' h1 h2
theorem Ip {w:World}{b off cap:Nat}{l:List Int}(k:Nat)(hk:k<=l.length)(hb:b<w.heap.size)(hc:ig w b off l)(hlc:l.length<=cap)(ij:cap<=9223372036854775807):Hs w (.slice (some ⟨b,off,none⟩) k cap) (l.take k):=by
 have hl:(l.take k).length=k:=by simp;omega
 refine ⟨some ⟨b,off,none⟩,cap,by rw [hl],by omega,ij,fun _=>⟨b,off,rfl,hb,fun i n hn=>?_⟩⟩;have hik:i<k:=by have:=(List.getElem?_eq_some_iff.1 hn).1;omega
 rw [ri hik] at hn;exact hc i n hn
theorem Ij {w:World}{b off cap:Nat}{l:List Int}(k:Nat)(hk:k<=l.length)(hb:b<w.heap.size)(hc:ig w b off l)(hlc:l.length<=cap)(ij:cap<=9223372036854775807):Hs w (.slice (some ⟨b,off+k,none⟩) (l.length - k) (cap - k)) (l.drop k):=by
 have hl:(l.drop k).length=l.length - k:=by simp
 refine ⟨some ⟨b,off+k,none⟩,cap - k,by rw [hl],by omega,by omega,fun _=>⟨b,off+k,rfl,hb,fun i n hn=>?_⟩⟩;rw [pk] at hn;rw [Nat.add_assoc];exact hc (k+i) n hn
theorem Gv (w:World)(p:Option Addr)(cap:Nat)(hc:cap<=9223372036854775807):Hs w (.slice p 0 cap) []:=⟨p,cap,rfl,by simp,hc,fun h=>absurd h (by simp)⟩
theorem rE {w:World}{b:Nat}{n:Int}(h:w.cell? ⟨b,0,none⟩=some (.int .i64 n)):Hs w (.slice (some ⟨b,0,none⟩) 1 1) [n]:=by
 refine ⟨some ⟨b,0,none⟩,1,rfl,by simp,by omega,fun _=>⟨b,0,rfl,cP w _ h,fun i m hm=>?_⟩⟩
 match i,hm with
 | 0,hm=>simp at hm;subst hm;exact h
 | i+1,hm=>simp at hm
theorem GL {l:List Int}{k:Nat}{n:Int}(hl:l.Pairwise (·<·))(h1:∀ x∈l.take k,x<n)(h2:∀ x∈l.drop k,n<x):(l.take k++[n]++l.drop k).Pairwise (·<·)/\∀ m,m∈l.take k++[n]++l.drop k↔m∈l\/m=n:=by
 refine ⟨?_,fun m=>?_⟩
 ·rw [tP,tP]
  refine ⟨⟨hl.sublist (List.take_sublist k l),by simp,fun x hx y hy=>by simp at hy;subst hy;exact h1 x hx⟩,hl.sublist (List.drop_sublist k l),fun x hx y hy=>?_⟩;rcases List.mem_append.1 hx with hx | hx
  ·have:=h1 x hx;have:=h2 y hy;omega
  ·simp at hx;subst hx;exact h2 y hy
 ·have:=rk k l
  rw [oT,oT];constructor
  ·rintro ((h | h) | h)
   ·exact .inl (tR h)
   ·simp at h;exact .inr h
   ·exact .inl (List.mem_of_mem_drop h)
  ·rintro (h | h)
   ·rw [<- this] at h
    rcases List.mem_append.1 h with h | h
    ·exact .inl (.inl h)
    ·exact .inr h
   ·exact .inl (.inr (by simp [h]))
def IB (w:World)(l:List Int)(n:Int)(e:Ending)(w':World):Prop :=
 ∃ v l',e=.returned v/\Hs w' v l'/\l'.Pairwise (·<·)/\(∀ m,m∈l'↔m∈l\/m=n)/\l'.length<=l.length+1/\Below w.heap.size w w'
theorem GD (l:List Int)(n:Int)(v:Value)(w:World)(hr:Hs w v l)(hs:l.Pairwise (·<·))(hlen:l.length<=10000000) :
  Calls prog 112 #[v,.int .i64 n] w (IB w l n):=by
 have HR:=aa hr;have HS:=aa hs;clear hs;obtain ⟨p,cap,rfl,hlc,ij,hp⟩:=hr;go_enter func112,ntmps112;go_wp2
 go_loopw [5] (fun i wr=>∃ k:Nat,k<=l.length/\i=.int .i64 k/\(∀ x∈l.take k,x<n)/\wr=w) (fun i _=>l.length - (intOf i).toNat)
 case atStart=>exact ⟨0,cg _,rfl,by simp,rfl⟩
 case round =>
  obtain ⟨k,hk,rfl,hall,rfl⟩:=hrel;have cE:=aa hall;clear hall
  by_cases hlt:k<l.length
  ·obtain ⟨b,off,rfl,gO,hc⟩:=hp (by omega)
   obtain ⟨x,hx⟩:=aj l k hlt;have hc1:=hc k x hx;have HX:=aa hx;have HC:=aa hc;clear hc hp hx
   by_cases UM:x<n
   ·go_wp2
    go_roundw
    case rel=>exact ⟨k+1,by omega,by go_num,fun y hy=>by
     rw [take_snoc' l k x HX.o] at hy;rcases List.mem_append.1 hy with hy | hy
     ·exact cE.o y hy
     ·simp at hy;subst hy;exact UM,trivial⟩
    case measure=>simp [intOf];omega
   ·by_cases Kn:x=n
    ·subst Kn
     have Qu:(x == x)=true:=by simp
     go_wp2;go_ret;exact ⟨_,l,rfl,HR.o,HS.o,fun m=>⟨.inl,fun h=>h.elim id fun h=>by rw [h];exact ct HX.o⟩,by omega,bj _ _⟩
    ·have Qu:(x == n)=false:=by simp [Kn]
     have Vo:n<x:=by omega
     have h2:∀ y∈l.drop k,n<y:=by
      intro y hy;rw [GR l k x HX.o] at hy;rcases List.mem_cons.1 hy with rfl | hy
      ·exact Vo
      ·have hp:=HS.o.sublist (List.drop_sublist k l)
       rw [GR l k x HX.o] at hp;have:=(List.pairwise_cons.1 hp).1 y hy;omega
     have HI:=aa (GL HS.o cE.o h2);clear Kn h2;have Mh:=aa (fun (W:World) (hW:Below wr.heap.size wr W)=>(Ip k hk gO HC.o hlc ij).below hW);have B2:=aa (fun (W:World) (hW:Below wr.heap.size wr W)=>(Ij k hk gO HC.o hlc ij).below hW);have UK:k<=cap:=by omega
     have JU:¬ cap=k:=by omega
     go_wp2;clear Qu Vo hc1
     go_region_law (first
      | (refine pz (o:=⟨some 36,_,_,_,_,_⟩) rfl (.const (.slice none 0 0)) (.tmp 35) rfl wr.heap.size (.slice none 0 0) (.slice (some ⟨b,off,none⟩) k cap) [] (l.take k) (by simp [Act.eval]) (by simp [Act.eval,Act.put]) (eG.nil _ _) (Mh.o _ (by (repeat' (first | exact bj _ _ | exact bk _ | (refine dT ?_ ?_ _) | (refine aT ?_ _) | (refine ee ?_) | (simp;done) | (simp;omega))))) (by simp;omega) (by simp) ?_;intro v36 w36 ho36 hg36;have hb36:=aa (fN (B:=wr.heap.size) (a:=wr) (by (repeat' (first | exact bj _ _ | exact bk _ | (refine dT ?_ ?_ _) | (refine aT ?_ _) | (refine ee ?_) | (simp;done) | (simp;omega)))) hg36 (by simp) (by simp [Value.ownBlock])))
      | (refine pz (o:=⟨some 39,_,_,_,_,_⟩) rfl (.tmp 36) (.tmp 38) rfl wr.heap.size v36 (.slice (some ⟨w36.heap.size,0,none⟩) 1 1) ([]++l.take k) [n] (by simp [Act.eval]) (by simp [Act.eval]) (by refine ho36.below ?_;(repeat' (first | exact bj _ _ | exact bk _ | (refine dT ?_ ?_ _) | (refine aT ?_ _) | (refine ee ?_) | (simp;done) | (simp;omega)))) (by exact rE (aD (by simp) rfl)) (by simp;omega) (by have:=hb36.o.size;simp;omega) ?_;intro v39 w39 ho39 hg39;have hb39:=aa (fN (B:=wr.heap.size) (a:=wr) (by refine hb36.o.trans (kt (B:=w36.heap.size) ?_ hb36.o.size);(repeat' (first | exact bj _ _ | exact bk _ | (refine dT ?_ ?_ _) | (refine aT ?_ _) | (refine ee ?_) | (simp;done) | (simp;omega)))) hg39 (by have:=hb36.o.size;simp;omega) (fun j hj=>(ho36.lt j hj).1)))
      | (refine pz (o:=⟨some 39,_,_,_,_,_⟩) rfl (.tmp 36) (.tmp 38) rfl wr.heap.size v36 (.slice (some ⟨wr.heap.size,0,none⟩) 1 1) ([]++l.take k) [n] (by simp [Act.eval]) (by simp [Act.eval]) (by exact ho36) (by exact rE (hg36.cell (aD (by simp) rfl) (by simp [Value.ownBlock]))) (by simp;omega) (by have:=hb36.o.size;simp;omega) ?_;intro v39 w39 ho39 hg39;have hb39:=aa (fN (B:=wr.heap.size) (a:=wr) (by exact hb36.o) hg39 (by have:=hb36.o.size;simp;omega) (fun j hj=>(ho36.lt j hj).1)))
      | (refine pz (o:=⟨some 43,_,_,_,_,_⟩) rfl (.tmp 39) (.tmp 42) rfl wr.heap.size v39 (.slice (some ⟨b,off+k,none⟩) (l.length - k) (cap - k)) ([]++l.take k++[n]) (l.drop k) (by simp [Act.eval]) (by simp [Act.eval]) ho39 (B2.o _ hb39.o) (by simp;omega) hb39.o.size ?_;intro v43 w43 ho43 hg43;have hb43:=aa (fN (B:=wr.heap.size) (a:=wr) hb39.o hg43 hb39.o.size (fun j hj=>(ho39.lt j hj).1))))
     all_goals
      go_wp2;go_ret;exact ⟨_,_,rfl,ho43.rd,by first | (simp;done) | (simpa using HI.o.1),by first | (simp;done) | (simpa using HI.o.2),by simp;omega,hb43.o⟩
  ·by_cases hl0:0<l.length
   ·have IQ:k=l.length:=by omega
    subst IQ;have hi:=GL HS.o cE.o (n:=n) (by simp);simp only [cI,rB,eM] at hi;have HI:=aa hi;clear hi;obtain ⟨b,off,rfl,gO,hc⟩:=hp hl0;clear hp
    by_cases hce:cap=l.length
    ·subst hce
     have Mh:=aa (fun (W:World) (hW:Below wr.heap.size wr W)=>HR.o.below hW);have B2:=aa (fun (W:World) (_:Below wr.heap.size wr W)=>Gv W (some ⟨b,off,none⟩) 0 (by omega));clear hc;go_wp2
     go_region_law (first
      | (refine pz (o:=⟨some 36,_,_,_,_,_⟩) rfl (.const (.slice none 0 0)) (.tmp 35) rfl wr.heap.size (.slice none 0 0) (.slice (some ⟨b,off,none⟩) l.length l.length) [] (l) (by simp [Act.eval]) (by simp [Act.eval,Act.put]) (eG.nil _ _) (Mh.o _ (by (repeat' (first | exact bj _ _ | exact bk _ | (refine dT ?_ ?_ _) | (refine aT ?_ _) | (refine ee ?_) | (simp;done) | (simp;omega))))) (by simp;try omega) (by simp) ?_;intro v36 w36 ho36 hg36;have hb36:=aa (fN (B:=wr.heap.size) (a:=wr) (by (repeat' (first | exact bj _ _ | exact bk _ | (refine dT ?_ ?_ _) | (refine aT ?_ _) | (refine ee ?_) | (simp;done) | (simp;omega)))) hg36 (by simp) (by simp [Value.ownBlock])))
      | (refine pz (o:=⟨some 39,_,_,_,_,_⟩) rfl (.tmp 36) (.tmp 38) rfl wr.heap.size v36 (.slice (some ⟨w36.heap.size,0,none⟩) 1 1) ([]++l) [n] (by simp [Act.eval]) (by simp [Act.eval]) (by refine ho36.below ?_;(repeat' (first | exact bj _ _ | exact bk _ | (refine dT ?_ ?_ _) | (refine aT ?_ _) | (refine ee ?_) | (simp;done) | (simp;omega)))) (by exact rE (aD (by simp) rfl)) (by simp;try omega) (by have:=hb36.o.size;simp;omega) ?_;intro v39 w39 ho39 hg39;have hb39:=aa (fN (B:=wr.heap.size) (a:=wr) (by refine hb36.o.trans (kt (B:=w36.heap.size) ?_ hb36.o.size);(repeat' (first | exact bj _ _ | exact bk _ | (refine dT ?_ ?_ _) | (refine aT ?_ _) | (refine ee ?_) | (simp;done) | (simp;omega)))) hg39 (by have:=hb36.o.size;simp;omega) (fun j hj=>(ho36.lt j hj).1)))
      | (refine pz (o:=⟨some 39,_,_,_,_,_⟩) rfl (.tmp 36) (.tmp 38) rfl wr.heap.size v36 (.slice (some ⟨wr.heap.size,0,none⟩) 1 1) ([]++l) [n] (by simp [Act.eval]) (by simp [Act.eval]) (by exact ho36) (by exact rE (hg36.cell (aD (by simp) rfl) (by simp [Value.ownBlock]))) (by simp;try omega) (by have:=hb36.o.size;simp;omega) ?_;intro v39 w39 ho39 hg39;have hb39:=aa (fN (B:=wr.heap.size) (a:=wr) (by exact hb36.o) hg39 (by have:=hb36.o.size;simp;omega) (fun j hj=>(ho36.lt j hj).1)))
      | (refine pz (o:=⟨some 43,_,_,_,_,_⟩) rfl (.tmp 39) (.tmp 42) rfl wr.heap.size v39 (.slice (some ⟨b,off,none⟩) 0 0) ([]++l++[n]) ([]) (by simp [Act.eval]) (by simp [Act.eval]) ho39 (B2.o _ hb39.o) (by simp;try omega) hb39.o.size ?_;intro v43 w43 ho43 hg43;have hb43:=aa (fN (B:=wr.heap.size) (a:=wr) hb39.o hg43 hb39.o.size (fun j hj=>(ho39.lt j hj).1))))
     all_goals
      go_wp2;go_ret;exact ⟨_,_,rfl,ho43.rd,by first | (simp;done) | (simpa using HI.o.1),by first | (simp;done) | (simpa using HI.o.2),by simp;try omega,hb43.o⟩
    ·have Mh:=aa (fun (W:World) (hW:Below wr.heap.size wr W)=>HR.o.below hW)
     have B2:=aa (fun (W:World) (_:Below wr.heap.size wr W)=>Gv W (some ⟨b,off+l.length,none⟩) (cap - l.length) (by omega));clear hc;go_wp2
     go_region_law (first
      | (refine pz (o:=⟨some 36,_,_,_,_,_⟩) rfl (.const (.slice none 0 0)) (.tmp 35) rfl wr.heap.size (.slice none 0 0) (.slice (some ⟨b,off,none⟩) l.length cap) [] (l) (by simp [Act.eval]) (by simp [Act.eval,Act.put]) (eG.nil _ _) (Mh.o _ (by (repeat' (first | exact bj _ _ | exact bk _ | (refine dT ?_ ?_ _) | (refine aT ?_ _) | (refine ee ?_) | (simp;done) | (simp;omega))))) (by simp;try omega) (by simp) ?_;intro v36 w36 ho36 hg36;have hb36:=aa (fN (B:=wr.heap.size) (a:=wr) (by (repeat' (first | exact bj _ _ | exact bk _ | (refine dT ?_ ?_ _) | (refine aT ?_ _) | (refine ee ?_) | (simp;done) | (simp;omega)))) hg36 (by simp) (by simp [Value.ownBlock])))
      | (refine pz (o:=⟨some 39,_,_,_,_,_⟩) rfl (.tmp 36) (.tmp 38) rfl wr.heap.size v36 (.slice (some ⟨w36.heap.size,0,none⟩) 1 1) ([]++l) [n] (by simp [Act.eval]) (by simp [Act.eval]) (by refine ho36.below ?_;(repeat' (first | exact bj _ _ | exact bk _ | (refine dT ?_ ?_ _) | (refine aT ?_ _) | (refine ee ?_) | (simp;done) | (simp;omega)))) (by exact rE (aD (by simp) rfl)) (by simp;try omega) (by have:=hb36.o.size;simp;omega) ?_;intro v39 w39 ho39 hg39;have hb39:=aa (fN (B:=wr.heap.size) (a:=wr) (by refine hb36.o.trans (kt (B:=w36.heap.size) ?_ hb36.o.size);(repeat' (first | exact bj _ _ | exact bk _ | (refine dT ?_ ?_ _) | (refine aT ?_ _) | (refine ee ?_) | (simp;done) | (simp;omega)))) hg39 (by have:=hb36.o.size;simp;omega) (fun j hj=>(ho36.lt j hj).1)))
      | (refine pz (o:=⟨some 39,_,_,_,_,_⟩) rfl (.tmp 36) (.tmp 38) rfl wr.heap.size v36 (.slice (some ⟨wr.heap.size,0,none⟩) 1 1) ([]++l) [n] (by simp [Act.eval]) (by simp [Act.eval]) (by exact ho36) (by exact rE (hg36.cell (aD (by simp) rfl) (by simp [Value.ownBlock]))) (by simp;try omega) (by have:=hb36.o.size;simp;omega) ?_;intro v39 w39 ho39 hg39;have hb39:=aa (fN (B:=wr.heap.size) (a:=wr) (by exact hb36.o) hg39 (by have:=hb36.o.size;simp;omega) (fun j hj=>(ho36.lt j hj).1)))
      | (refine pz (o:=⟨some 43,_,_,_,_,_⟩) rfl (.tmp 39) (.tmp 42) rfl wr.heap.size v39 (.slice (some ⟨b,off+l.length,none⟩) 0 (cap - l.length)) ([]++l++[n]) ([]) (by simp [Act.eval]) (by simp [Act.eval]) ho39 (B2.o _ hb39.o) (by simp;try omega) hb39.o.size ?_;intro v43 w43 ho43 hg43;have hb43:=aa (fN (B:=wr.heap.size) (a:=wr) hb39.o hg43 hb39.o.size (fun j hj=>(ho39.lt j hj).1))))
     all_goals
      go_wp2;go_ret;exact ⟨_,_,rfl,ho43.rd,by first | (simp;done) | (simpa using HI.o.1),by first | (simp;done) | (simpa using HI.o.2),by simp;try omega,hb43.o⟩
   ·have hl:l=[]:=fX (by omega)
    subst hl;have hk0:k=0:=by simpa using hk
    subst hk0;have HI:=aa (show ([n]:List Int).Pairwise (·<·)/\∀ m,m∈[n]↔m∈([]:List Int)\/m=n from ⟨by simp,by simp⟩);cases p with
    | none =>
     have Mh:=aa (fun (W:World) (_:Below wr.heap.size wr W)=>Gv W none cap ij);have B2:=Mh;go_wp2
     go_region_law (first
      | (refine pz (o:=⟨some 36,_,_,_,_,_⟩) rfl (.const (.slice none 0 0)) (.tmp 35) rfl wr.heap.size (.slice none 0 0) (.slice none 0 cap) [] ([]) (by simp [Act.eval]) (by simp [Act.eval,Act.put]) (eG.nil _ _) (Mh.o _ (by (repeat' (first | exact bj _ _ | exact bk _ | (refine dT ?_ ?_ _) | (refine aT ?_ _) | (refine ee ?_) | (simp;done) | (simp;omega))))) (by simp;try omega) (by simp) ?_;intro v36 w36 ho36 hg36;have hb36:=aa (fN (B:=wr.heap.size) (a:=wr) (by (repeat' (first | exact bj _ _ | exact bk _ | (refine dT ?_ ?_ _) | (refine aT ?_ _) | (refine ee ?_) | (simp;done) | (simp;omega)))) hg36 (by simp) (by simp [Value.ownBlock])))
      | (refine pz (o:=⟨some 39,_,_,_,_,_⟩) rfl (.tmp 36) (.tmp 38) rfl wr.heap.size v36 (.slice (some ⟨w36.heap.size,0,none⟩) 1 1) ([]++[]) [n] (by simp [Act.eval]) (by simp [Act.eval]) (by refine ho36.below ?_;(repeat' (first | exact bj _ _ | exact bk _ | (refine dT ?_ ?_ _) | (refine aT ?_ _) | (refine ee ?_) | (simp;done) | (simp;omega)))) (by exact rE (aD (by simp) rfl)) (by simp;try omega) (by have:=hb36.o.size;simp;omega) ?_;intro v39 w39 ho39 hg39;have hb39:=aa (fN (B:=wr.heap.size) (a:=wr) (by refine hb36.o.trans (kt (B:=w36.heap.size) ?_ hb36.o.size);(repeat' (first | exact bj _ _ | exact bk _ | (refine dT ?_ ?_ _) | (refine aT ?_ _) | (refine ee ?_) | (simp;done) | (simp;omega)))) hg39 (by have:=hb36.o.size;simp;omega) (fun j hj=>(ho36.lt j hj).1)))
      | (refine pz (o:=⟨some 39,_,_,_,_,_⟩) rfl (.tmp 36) (.tmp 38) rfl wr.heap.size v36 (.slice (some ⟨wr.heap.size,0,none⟩) 1 1) ([]++[]) [n] (by simp [Act.eval]) (by simp [Act.eval]) (by exact ho36) (by exact rE (hg36.cell (aD (by simp) rfl) (by simp [Value.ownBlock]))) (by simp;try omega) (by have:=hb36.o.size;simp;omega) ?_;intro v39 w39 ho39 hg39;have hb39:=aa (fN (B:=wr.heap.size) (a:=wr) (by exact hb36.o) hg39 (by have:=hb36.o.size;simp;omega) (fun j hj=>(ho36.lt j hj).1)))
      | (refine pz (o:=⟨some 43,_,_,_,_,_⟩) rfl (.tmp 39) (.tmp 42) rfl wr.heap.size v39 (.slice none 0 cap) ([]++[]++[n]) ([]) (by simp [Act.eval]) (by simp [Act.eval]) ho39 (B2.o _ hb39.o) (by simp;try omega) hb39.o.size ?_;intro v43 w43 ho43 hg43;have hb43:=aa (fN (B:=wr.heap.size) (a:=wr) hb39.o hg43 hb39.o.size (fun j hj=>(ho39.lt j hj).1))))
     all_goals
      go_wp2;go_ret;exact ⟨_,_,rfl,ho43.rd,by first | (simp;done) | (simpa using HI.o.1),by first | (simp;done) | (simpa using HI.o.2),by simp;try omega,hb43.o⟩
    | some a =>
     have Mh:=aa (fun (W:World) (_:Below wr.heap.size wr W)=>Gv W (some a) cap ij);have B2:=Mh;go_wp2
     go_region_law (first
      | (refine pz (o:=⟨some 36,_,_,_,_,_⟩) rfl (.const (.slice none 0 0)) (.tmp 35) rfl wr.heap.size (.slice none 0 0) (.slice (some a) 0 cap) [] ([]) (by simp [Act.eval]) (by simp [Act.eval,Act.put]) (eG.nil _ _) (Mh.o _ (by (repeat' (first | exact bj _ _ | exact bk _ | (refine dT ?_ ?_ _) | (refine aT ?_ _) | (refine ee ?_) | (simp;done) | (simp;omega))))) (by simp;try omega) (by simp) ?_;intro v36 w36 ho36 hg36;have hb36:=aa (fN (B:=wr.heap.size) (a:=wr) (by (repeat' (first | exact bj _ _ | exact bk _ | (refine dT ?_ ?_ _) | (refine aT ?_ _) | (refine ee ?_) | (simp;done) | (simp;omega)))) hg36 (by simp) (by simp [Value.ownBlock])))
      | (refine pz (o:=⟨some 39,_,_,_,_,_⟩) rfl (.tmp 36) (.tmp 38) rfl wr.heap.size v36 (.slice (some ⟨w36.heap.size,0,none⟩) 1 1) ([]++[]) [n] (by simp [Act.eval]) (by simp [Act.eval]) (by refine ho36.below ?_;(repeat' (first | exact bj _ _ | exact bk _ | (refine dT ?_ ?_ _) | (refine aT ?_ _) | (refine ee ?_) | (simp;done) | (simp;omega)))) (by exact rE (aD (by simp) rfl)) (by simp;try omega) (by have:=hb36.o.size;simp;omega) ?_;intro v39 w39 ho39 hg39;have hb39:=aa (fN (B:=wr.heap.size) (a:=wr) (by refine hb36.o.trans (kt (B:=w36.heap.size) ?_ hb36.o.size);(repeat' (first | exact bj _ _ | exact bk _ | (refine dT ?_ ?_ _) | (refine aT ?_ _) | (refine ee ?_) | (simp;done) | (simp;omega)))) hg39 (by have:=hb36.o.size;simp;omega) (fun j hj=>(ho36.lt j hj).1)))
      | (refine pz (o:=⟨some 39,_,_,_,_,_⟩) rfl (.tmp 36) (.tmp 38) rfl wr.heap.size v36 (.slice (some ⟨wr.heap.size,0,none⟩) 1 1) ([]++[]) [n] (by simp [Act.eval]) (by simp [Act.eval]) (by exact ho36) (by exact rE (hg36.cell (aD (by simp) rfl) (by simp [Value.ownBlock]))) (by simp;try omega) (by have:=hb36.o.size;simp;omega) ?_;intro v39 w39 ho39 hg39;have hb39:=aa (fN (B:=wr.heap.size) (a:=wr) (by exact hb36.o) hg39 (by have:=hb36.o.size;simp;omega) (fun j hj=>(ho36.lt j hj).1)))
      | (refine pz (o:=⟨some 43,_,_,_,_,_⟩) rfl (.tmp 39) (.tmp 42) rfl wr.heap.size v39 (.slice (some a) 0 cap) ([]++[]++[n]) ([]) (by simp [Act.eval]) (by simp [Act.eval]) ho39 (B2.o _ hb39.o) (by simp;try omega) hb39.o.size ?_;intro v43 w43 ho43 hg43;have hb43:=aa (fN (B:=wr.heap.size) (a:=wr) hb39.o hg43 hb39.o.size (fun j hj=>(ho39.lt j hj).1))))
     all_goals
      go_wp2;go_ret;exact ⟨_,_,rfl,ho43.rd,by first | (simp;done) | (simpa using HI.o.1),by first | (simp;done) | (simpa using HI.o.2),by simp;try omega,hb43.o⟩
def Iy (w:World)(Z:List Int)(e:Ending)(w':World):Prop:=∃ v P,e=.returned v/\Hs w' v P/\Cq P Z/\P.length<=Z.length/\Below w.heap.size w w'
theorem G8 (l:List (Int × Int))(v:Value)(w:World)(hr:xo w v l)(hval:dI l=true)(hlen:l.length<=1000000) :
  Calls prog 62 #[v] w (Iy w (eU l)):=by
 have HV:=aa hval;clear hval;obtain ⟨p,cap,rfl,hlc,ij,hp⟩:=hr;go_enter func62,ntmps62;go_wp2
 go_loopw [3,4] (fun vo i wr=>∃ (k:Nat) (o:List Int),k<=l.length/\i=.int .i64 k/\Hs wr vo o/\o.Pairwise (·<·)/\(∀ m,m∈o↔m∈eU (l.take k))/\o.length<=2*k/\Below w.heap.size w wr) (fun _ i _=>l.length - (intOf i).toNat)
 case atStart=>exact ⟨0,[],cg _,rfl,Hs.nil _,List.Pairwise.nil,by simp [eU],by simp,bj _ _⟩
 case round =>
  obtain ⟨k,o,hk,rfl,hro,KB,Tc,JV,hb⟩:=hrel
  by_cases hlt:k<l.length
  ·obtain ⟨b,off,rfl,gO,hc⟩:=hp (by omega)
   obtain ⟨x,hx⟩:=aj l k hlt;have hcc:=(hc.below hb gO) k x hx;have hc1:=hcc.1;have hc2:=hcc.2;have cX:b<wr.heap.size:=cC gO hb.size;obtain ⟨hx0,hx1,hx2⟩:=iF HV.o x (ct hx);have HX:=aa hx;have Pr:=aa Tc;have XE:=aa (fun (W:World) (hW:Below wr.heap.size wr W)=>hro.below hW);have QW:=aa KB;clear hc hp hcc hx Tc hro KB;have hw1:IntKind.i64.wrap (x.1+x.2)=x.1+x.2:=dy _ (by omega);go_wp2
   go_region_held3 (fun w'=>w'.cell? ⟨b,off+k*2,none⟩=some (.int .i64 x.1)/\w'.cell? ⟨b,off+k*2+1,none⟩=some (.int .i64 x.2)) (go_keep)
    (first
     | (go_at_call_of 112 (Value.int .i64 x.1);refine (GD o x.1 _ _ (XE.o _ ((bj _ _).drew)) QW.o (by omega)).mono ?_;rintro e w2 ⟨v2,o2,rfl,hro2,Td,Te,Ww,hb2⟩;have hd1:w2.cell? ⟨b,off+k*2,none⟩=some (.int .i64 x.1):=(hb2.cell (p:=⟨b,off+k*2,none⟩) (by simpa using cX)).trans (by simpa using hc1);have hd2:w2.cell? ⟨b,off+k*2+1,none⟩=some (.int .i64 x.2):=(hb2.cell (p:=⟨b,off+k*2+1,none⟩) (by simpa using cX)).trans (by simpa using hc2))
     | (go_at_call_of 112 (Value.int .i64 (x.1+x.2));refine (GD o2 (x.1+x.2) _ _ hro2 Td (by omega)).mono ?_;rintro e w3 ⟨v3,o3,rfl,hro3,Tf,Tg,ae5,hb3⟩;have hf1:w3.cell? ⟨b,off+k*2,none⟩=some (.int .i64 x.1):=(hb3.cell (p:=⟨b,off+k*2,none⟩) (cC cX hb2.size)).trans hd1;have hf2:w3.cell? ⟨b,off+k*2+1,none⟩=some (.int .i64 x.2):=(hb3.cell (p:=⟨b,off+k*2+1,none⟩) (cC cX hb2.size)).trans hd2))
   clear hw1 hd1 hd2 hf1 hf2 hc1 hc2;have hb5:Below w.heap.size w w3:=mn (mn hb.drew hb2) hb3
   have KO:∀ m,m∈o3↔m∈eU (l.take (k+1)):=fun m=>by
    rw [Tg,Te,Pr.o,xw l k x HX.o,oT];simp;constructor
    ·rintro ((h | h) | h)
     ·exact .inl h
     ·exact .inr (.inl h)
     ·exact .inr (.inr h)
    ·rintro (h | h | h)
     ·exact .inl (.inl h)
     ·exact .inl (.inr h)
     ·exact .inr h
   have HM:=aa KO;have HS3:=aa Tf;clear KO Te Tg Td Tf;go_wp2;go_roundw
   case rel=>exact ⟨k+1,o3,by omega,by go_num,hro3,HS3.o,HM.o,by omega,hb5⟩
   case measure=>simp [intOf];omega
  ·have JU:k=l.length:=by omega
   subst JU;rw [cI] at Tc;have HM:=aa Tc;clear Tc;go_wp2;go_ret;exact ⟨_,o,rfl,hro,⟨KB,HM.o⟩,by rw [kE];omega,hb⟩
theorem Hy (l:List (Int × Int))(n:Int)(h:dI l=true):Gp l n=kO l n:=by
 unfold Gp kO;rw [mN,nh,nh];unfold dI at h;rw [eL] at h;constructor
 ·rintro ⟨p,hp,hh⟩;simp at hh;exact ⟨p,hp,by simp;omega⟩
 ·rintro ⟨p,hp,hh⟩;simp at hh;exact ⟨p,hp,by simp [h p hp];omega⟩
end Go.Proofs.YtjdfihglehfelaaGreatDoor
