/- Lemmas: RefA, RefB, RanH, RefC, PlfA. -/
import Derived.Test.YtaagglbgohjldaaGreatDoorQv25
import Derived.Laws.AppendOwnNone
set_option maxRecDepth 100000
set_option maxHeartbeats 32000000
set_option linter.all false
namespace Go.Proofs.YtaagglbgohjldaaGreatDoor
open Go.Proofs.Tryz
open Go.RowKit
variable {ops:Array Oper}{o:Oper}{a:Act}{w:World}{Q:Exit->Act->World->Prop}{b off cap:Nat}{l:List Int}{n:Int}
theorem Hq (l:List Int)(j:Nat)(u:Value)(h:(l.map (Value.int .i64))[j]?=some u):∃ n,l[j]?=some n/\u=.int .i64 n:=by
 rw [rI] at h;cases hl:l[j]? with
 | none=>rw [hl] at h;cases h
 | some n=>rw [hl] at h;cases h;exact ⟨n,rfl,rfl⟩
theorem Ih (w:World)(B:Nat)(v vx:Value)(l m:List Int)(ty:TypeId)(hown:eG w B v l)(hx:Hs w vx m)(hlen:l.length+m.length<=100000000)(hB:B<=w.heap.size) :
  ∃ v' w',(Builtin.append_ #[22,22] ty #[v,vx]).run prog w=.ok v' w'/\eG w' B v' (l++m)/\w.grownBy w' v.ownBlock:=by
 obtain ⟨i0,hi,hz0,hz1,hz2⟩:=cy tZ;obtain ⟨p,cap,rfl,hlc,ij,hp⟩:=hx;cases p with
 | none =>
  have hm:m=[]:=by
   cases m with
   | nil=>rfl
   | cons a m=>obtain ⟨b,off,e,_⟩:=hp TcD;cases e
  subst hm;refine ⟨v,w,?_,by simpa using hown,⟨rfl,rfl,rfl,bk _,fun _ _ _=>rfl⟩⟩;rcases hown.2 with ⟨rfl,hn⟩ | ⟨g,cap',cur,rfl,_,_,vr,_⟩
  ·simp [Builtin.append_,tU underlying22,sizeOf,typeInfo,hi,Builtin.lenOf,Builtin.firstCells]
  simp [Builtin.append_,tU underlying22,sizeOf,typeInfo,hi,Builtin.lenOf,Builtin.firstCells,vr,storeCells]
 | some a =>
  by_cases h0:0<m.length
  ·obtain ⟨b,off,e,hb,hc⟩:=hp h0
   cases e
   obtain ⟨v',w',hr,ho',hg,_⟩:=run_append_own (P:=prog) w B 22 ty 3 i0 _ 1 8 underlying22 hi hz0 hz1 hz2 rfl TcF v l.length (l.map (Value.int .i64)) hown ⟨b,off,none⟩ m.length cap (m.map (Value.int .i64)) TcD (fun j u hu=>by
    obtain ⟨n,hn,rfl⟩:=Hq m j u hu;rw [iz];exact hc j n hn) (fun u hu=>by rw [List.mem_map] at hu;obtain ⟨n,_,rfl⟩:=hu;rfl) TcN TcC hB
   refine ⟨v',w',hr,?_,hg⟩;unfold eG;rw [gl,cD];exact ho'
  have hm:m=[]:=fX TcC;subst hm;obtain ⟨v',w',hr,ho',hg,_⟩:=run_append_own (P:=prog) w B 22 ty 3 i0 _ 1 8 underlying22 hi hz0 hz1 hz2 rfl TcF v l.length (l.map (Value.int .i64)) hown a 0 cap [] rfl (fun j u hu=>by simp at hu) (fun u hu=>by cases hu) TcN TcC hB;refine ⟨v',w',hr,?_,hg⟩;unfold eG;simpa using ho'
theorem pz {K:Act->World->Prop}{E:Prop}
  (hg:o.guard=none) (s x:Operand) (hop:o.op=Op.call { callee:=Callee.builtin Builtin.append,args:=#[s,x],argTypes:=#[22,22] })
  (B:Nat) (v vx:Value) (l m:List Int) (hs:a.eval s=v) (hx:a.eval x=vx) (hown:eG w B v l) (kf:Hs w vx m) (hlen:l.length+m.length<=100000000) (hB:B<=w.heap.size)
  (hK:∀ v' w',eG w' B v' (l++m)->w.grownBy w' v.ownBlock->K (a.put o.dst v') w'):if Region.wanted o (yielded ops a.tmps)=true then Oper.wp prog o a w K Q else E:=by
 have hw:Region.wanted o (yielded ops a.tmps)=true:=by simp [Region.wanted,hg]
 rw [aw hw];obtain ⟨v',w',hr,h1,h2⟩:=Ih w B v vx l m o.type hown kf hlen hB;unfold Oper.wp;simp [execOp,hop,resolve,invoke,builtin,hs,hx,hr,Result.andThen];exact hK v' w' h1 h2
theorem Ip (k:Nat)(hk:k<=l.length)(hb:b<w.heap.size)(hc:ig w b off l)(hlc:l.length<=cap)(ij:cap<=9223372036854775807):Hs w (.slice (some (b,off)) k cap) (l.take k):=by
 have hl:(l.take k).length=k:=by simp;omega
 refine ⟨some ⟨b,off,none⟩,cap,by rw [hl],TcC,ij,fun _=>⟨b,off,rfl,hb,fun i n hn=>?_⟩⟩;have hik:i<k:=by have:=(List.getElem?_eq_some_iff.1 hn).1;omega
 rw [ri hik] at hn;exact hc i n hn
theorem Ij (k:Nat)(hk:k<=l.length)(hb:b<w.heap.size)(hc:ig w b off l)(hlc:l.length<=cap)(ij:cap<=9223372036854775807):Hs w (.slice (some (b,off+k)) (l.length - k) (cap - k)) (l.drop k):=by
 have hl:(l.drop k).length=l.length - k:=by simp
 refine ⟨some ⟨b,off+k,none⟩,cap - k,by rw [hl],TcC,TcC,fun _=>⟨b,off+k,rfl,hb,fun i n hn=>?_⟩⟩;rw [pk] at hn;rw [Nat.add_assoc];exact hc (k+i) n hn
theorem Gv (w:World)(p:Option Addr)(cap:Nat)(hc:cap<=9223372036854775807):Hs w (.slice p 0 cap) []:=⟨p,cap,rfl,TcD,hc,fun h=>absurd h TcD⟩
theorem rE (h:w.cell? b=some (.int .i64 n)):Hs w (.slice (some b) 1 1) [n]:=by
 refine ⟨some ⟨b,0,none⟩,1,rfl,TcD,TcC,fun _=>⟨b,0,rfl,cP w _ h,fun i m hm=>?_⟩⟩
 match i,hm with
 | 0,hm=>simp at hm;subst hm;exact h
 | i+1,hm=>simp at hm
theorem GL {k:Nat}(hl:l.Pairwise (·<·))(h1:∀ x∈l.take k,x<n)(h2:∀ x∈l.drop k,n<x):(l.take k++[n]++l.drop k).Pairwise (·<·)/\∀ m,m∈l.take k++[n]++l.drop k↔m∈l\/m=n:=by
 refine ⟨?_,fun m=>?_⟩
 ·rw [tP,tP];refine ⟨⟨hl.sublist (List.take_sublist k l),TcD,fun x hx y hy=>by simp at hy;subst hy;exact h1 x hx⟩,hl.sublist (List.drop_sublist k l),fun x hx y hy=>?_⟩;rcases List.mem_append.1 hx with hx | hx
  ·have:=h1 x hx;have:=h2 y hy;omega
  simp at hx;subst hx;exact h2 y hy
 have:=rk k l;rw [oT,oT];constructor
 ·rintro ((h | h) | h)
  ·exact .inl (tR h)
  ·simp at h;exact .inr h
  exact .inl (List.mem_of_mem_drop h)
 rintro (h | h)
 ·rw [<- this] at h;rcases List.mem_append.1 h with h | h
  ·exact .inl (.inl h)
  exact .inr h
 exact .inl (.inr TcZ)
def IB (w:World)(l:List Int)(n:Int)(e:Ending)(w':World):Prop :=
 ∃ v l',e=.returned v/\Hs w' v l'/\l'.Pairwise (·<·)/\(∀ m,m∈l'↔m∈l\/m=n)/\l'.length<=l.length+1/\Below w.heap.size w w'
theorem TcP {p:Prop}(h:p:=by simp;try omega):p:=h
theorem TdV {p:Prop}(h:p:=by first | (simp;done) | (simpa using HI.o.2)):p:=h
theorem TdW {p:Prop}(h:p:=by first | (simp;done) | (simpa using HI.o.1)):p:=h
theorem Tbq {p:Prop}(h:p:=by
 go_wp2;go_ret;exact ⟨_,_,rfl,ho43.rd,TdW,TdV,TcP,hb43.o⟩):p:=h
theorem TdG {p:Prop}(h:p:=by exact rE (hg36.cell (aD (by simp) rfl) (by simp [Value.ownBlock]))):p:=h
theorem TdR {p:Prop}(h:p:=by exact hb36.o):p:=h
theorem TdT {p:Prop}(h:p:=by exact ho36):p:=h
theorem TcO {p:Prop}(h:p:=by have:=hb36.o.size;simp;omega):p:=h
theorem TdE {p:Prop}(h:p:=by refine hb36.o.trans (kt (B:=w36.heap.size) ?_ hb36.o.size);(repeat' (first | exact bj _ _ | exact bk _ | (refine dT ?_ ?_ _) | (refine aT ?_ _) | (refine ee ?_) | (simp;done) | (simp;omega)))):p:=h
theorem TdF {p:Prop}(h:p:=by refine ho36.below ?_;(repeat' (first | exact bj _ _ | exact bk _ | (refine dT ?_ ?_ _) | (refine aT ?_ _) | (refine ee ?_) | (simp;done) | (simp;omega)))):p:=h
theorem TdH {p:Prop}(h:p:=by exact rE (aD (by simp) rfl)):p:=h
theorem TcL {p:Prop}(h:p:=by simp [Act.eval]):p:=h
theorem Tc0 {p:Prop}(h:p:=by (repeat' (first | exact bj _ _ | exact bk _ | (refine dT ?_ ?_ _) | (refine aT ?_ _) | (refine ee ?_) | (simp;done) | (simp;omega)))):p:=h
theorem TdI {p:Prop}(h:p:=by simp [Act.eval,Act.put]):p:=h
theorem GD (l:List Int)(n:Int)(v:Value)(w:World)(hr:Hs w v l)(hs:l.Pairwise (·<·))(hlen:l.length<=10000000) :
  Calls prog 87 #[v,.int .i64 n] w (IB w l n):=by
 have HR:=aa hr;have HS:=aa hs;clear hs;obtain ⟨p,cap,rfl,hlc,ij,hp⟩:=hr;go_enter func87,ntmps87;go_wp2
 go_loopw [5] (fun i wr=>∃ k:Nat,k<=l.length/\i=.int .i64 k/\(∀ x∈l.take k,x<n)/\wr=w) (fun i _=>l.length - (intOf i).toNat)
 exact ⟨0,cg _,rfl,TcD,rfl⟩;obtain ⟨k,hk,rfl,hall,rfl⟩:=hrel;have cE:=aa hall;clear hall;by_cases hlt:k<l.length
 ·obtain ⟨b,off,rfl,gO,hc⟩:=hp TcC;obtain ⟨x,hx⟩:=aj l k hlt;have hc1:=hc k x hx;have HX:=aa hx;have HC:=aa hc;clear hc hp hx;by_cases UM:x<n
  ·go_wp2;go_roundw;exact ⟨k+1,TcC,TcG,fun y hy=>by
    rw [take_snoc' l k x HX.o] at hy;rcases List.mem_append.1 hy with hy | hy
    ·exact cE.o y hy
    simp at hy;subst hy;exact UM,trivial⟩
   simp [intOf];omega
  by_cases Yh:x=n
  ·subst Yh;have Qu:(x == x)=true:=by simp
   go_wp2;go_ret;exact ⟨_,l,rfl,HR.o,HS.o,fun m=>⟨.inl,fun h=>h.elim id fun h=>by rw [h];exact ct HX.o⟩,TcC,bj _ _⟩
  have Qu:(x == n)=false:=by simp [Yh]
  have Vo:n<x:=by omega
  have h2:∀ y∈l.drop k,n<y:=by
   intro y hy;rw [GR l k x HX.o] at hy;rcases List.mem_cons.1 hy with rfl | hy
   ·exact Vo
   have hp:=HS.o.sublist (List.drop_sublist k l);rw [GR l k x HX.o] at hp;have:=(List.pairwise_cons.1 hp).1 y hy;omega
  have HI:=aa (GL HS.o cE.o h2);clear Yh h2;have Mh:=aa (fun (W:World) (hW:Below wr.heap.size wr W)=>(Ip k hk gO HC.o hlc ij).below hW);have B2:=aa (fun (W:World) (hW:Below wr.heap.size wr W)=>(Ij k hk gO HC.o hlc ij).below hW);have UK:k<=cap:=by omega
  have hkn:¬ cap=k:=by omega
  go_wp2;clear Qu Vo hc1;go_region_law (first
   | (refine pz (o:=⟨some 36,_,_,_,_,_⟩) rfl (.const (.slice none 0 0)) (.tmp 35) rfl wr.heap.size (.slice none 0 0) (.slice (some (b,off)) k cap) [] (l.take k) TcL TdI (eG.nil _ _) (Mh.o _ Tc0) TcH TcD ?_;intro v36 w36 ho36 hg36;have hb36:=aa (fN (B:=wr.heap.size) (a:=wr) Tc0 hg36 TcD Tdr))
   | (refine pz (o:=⟨some 39,_,_,_,_,_⟩) rfl (.tmp 36) (.tmp 38) rfl wr.heap.size v36 (.slice (some w36.heap.size) 1 1) ([]++l.take k) [n] TcL TcL TdF TdH TcH TcO ?_;intro v39 w39 ho39 hg39;have hb39:=aa (fN (B:=wr.heap.size) (a:=wr) TdE hg39 TcO (fun j hj=>(ho36.lt j hj).1)))
   | (refine pz (o:=⟨some 39,_,_,_,_,_⟩) rfl (.tmp 36) (.tmp 38) rfl wr.heap.size v36 (.slice (some wr.heap.size) 1 1) ([]++l.take k) [n] TcL TcL TdT TdG TcH TcO ?_;intro v39 w39 ho39 hg39;have hb39:=aa (fN (B:=wr.heap.size) (a:=wr) TdR hg39 TcO (fun j hj=>(ho36.lt j hj).1)))
   | (refine pz (o:=⟨some 43,_,_,_,_,_⟩) rfl (.tmp 39) (.tmp 42) rfl wr.heap.size v39 (.slice (some (b,off+k)) (l.length - k) (cap - k)) ([]++l.take k++[n]) (l.drop k) TcL TcL ho39 (B2.o _ hb39.o) TcH hb39.o.size ?_;intro v43 w43 ho43 hg43;have hb43:=aa (fN (B:=wr.heap.size) (a:=wr) hb39.o hg43 hb39.o.size (fun j hj=>(ho39.lt j hj).1))))
  all_goals
   go_wp2;go_ret;exact ⟨_,_,rfl,ho43.rd,TdW,TdV,TcH,hb43.o⟩
 by_cases hl0:0<l.length
 ·have hkl:k=l.length:=by omega
  subst hkl;have hi:=GL HS.o cE.o (n:=n) TcD;simp only [cI,rB,eM] at hi;have HI:=aa hi;clear hi;obtain ⟨b,off,rfl,gO,hc⟩:=hp hl0;clear hp;by_cases hce:cap=l.length
  ·subst hce;have Mh:=aa (fun (W:World) (hW:Below wr.heap.size wr W)=>HR.o.below hW);have B2:=aa (fun (W:World) (_:Below wr.heap.size wr W)=>Gv W (some ⟨b,off,none⟩) 0 TcC);clear hc;go_wp2;go_region_law (first
    | (refine pz (o:=⟨some 36,_,_,_,_,_⟩) rfl (.const (.slice none 0 0)) (.tmp 35) rfl wr.heap.size (.slice none 0 0) (.slice (some (b,off)) l.length l.length) [] (l) TcL TdI (eG.nil _ _) (Mh.o _ Tc0) TcP TcD ?_;intro v36 w36 ho36 hg36;have hb36:=aa (fN (B:=wr.heap.size) (a:=wr) Tc0 hg36 TcD Tdr))
    | (refine pz (o:=⟨some 39,_,_,_,_,_⟩) rfl (.tmp 36) (.tmp 38) rfl wr.heap.size v36 (.slice (some w36.heap.size) 1 1) ([]++l) [n] TcL TcL TdF TdH TcP TcO ?_;intro v39 w39 ho39 hg39;have hb39:=aa (fN (B:=wr.heap.size) (a:=wr) TdE hg39 TcO (fun j hj=>(ho36.lt j hj).1)))
    | (refine pz (o:=⟨some 39,_,_,_,_,_⟩) rfl (.tmp 36) (.tmp 38) rfl wr.heap.size v36 (.slice (some wr.heap.size) 1 1) ([]++l) [n] TcL TcL TdT TdG TcP TcO ?_;intro v39 w39 ho39 hg39;have hb39:=aa (fN (B:=wr.heap.size) (a:=wr) TdR hg39 TcO (fun j hj=>(ho36.lt j hj).1)))
    | (refine pz (o:=⟨some 43,_,_,_,_,_⟩) rfl (.tmp 39) (.tmp 42) rfl wr.heap.size v39 (.slice (some (b,off)) 0 0) ([]++l++[n]) ([]) TcL TcL ho39 (B2.o _ hb39.o) TcP hb39.o.size ?_;intro v43 w43 ho43 hg43;have hb43:=aa (fN (B:=wr.heap.size) (a:=wr) hb39.o hg43 hb39.o.size (fun j hj=>(ho39.lt j hj).1))))
   all_goals
    exact Tbq
  have Mh:=aa (fun (W:World) (hW:Below wr.heap.size wr W)=>HR.o.below hW);have B2:=aa (fun (W:World) (_:Below wr.heap.size wr W)=>Gv W (some ⟨b,off+l.length,none⟩) (cap - l.length) TcC);clear hc;go_wp2;go_region_law (first
   | (refine pz (o:=⟨some 36,_,_,_,_,_⟩) rfl (.const (.slice none 0 0)) (.tmp 35) rfl wr.heap.size (.slice none 0 0) (.slice (some (b,off)) l.length cap) [] (l) TcL TdI (eG.nil _ _) (Mh.o _ Tc0) TcP TcD ?_;intro v36 w36 ho36 hg36;have hb36:=aa (fN (B:=wr.heap.size) (a:=wr) Tc0 hg36 TcD Tdr))
   | (refine pz (o:=⟨some 39,_,_,_,_,_⟩) rfl (.tmp 36) (.tmp 38) rfl wr.heap.size v36 (.slice (some w36.heap.size) 1 1) ([]++l) [n] TcL TcL TdF TdH TcP TcO ?_;intro v39 w39 ho39 hg39;have hb39:=aa (fN (B:=wr.heap.size) (a:=wr) TdE hg39 TcO (fun j hj=>(ho36.lt j hj).1)))
   | (refine pz (o:=⟨some 39,_,_,_,_,_⟩) rfl (.tmp 36) (.tmp 38) rfl wr.heap.size v36 (.slice (some wr.heap.size) 1 1) ([]++l) [n] TcL TcL TdT TdG TcP TcO ?_;intro v39 w39 ho39 hg39;have hb39:=aa (fN (B:=wr.heap.size) (a:=wr) TdR hg39 TcO (fun j hj=>(ho36.lt j hj).1)))
   | (refine pz (o:=⟨some 43,_,_,_,_,_⟩) rfl (.tmp 39) (.tmp 42) rfl wr.heap.size v39 (.slice (some (b,off+l.length)) 0 (cap - l.length)) ([]++l++[n]) ([]) TcL TcL ho39 (B2.o _ hb39.o) TcP hb39.o.size ?_;intro v43 w43 ho43 hg43;have hb43:=aa (fN (B:=wr.heap.size) (a:=wr) hb39.o hg43 hb39.o.size (fun j hj=>(ho39.lt j hj).1))))
  all_goals
   exact Tbq
 have hl:l=[]:=fX TcC;subst hl;have hk0:k=0:=by simpa using hk
 subst hk0;have HI:=aa (show ([n]:List Int).Pairwise (·<·)/\∀ m,m∈[n]↔m∈([]:List Int)\/m=n from ⟨TcD,TcD⟩);cases p with
 | none =>
  have Mh:=aa (fun (W:World) (_:Below wr.heap.size wr W)=>Gv W none cap ij);have B2:=Mh;go_wp2;go_region_law (first
   | (refine pz (o:=⟨some 36,_,_,_,_,_⟩) rfl (.const (.slice none 0 0)) (.tmp 35) rfl wr.heap.size (.slice none 0 0) (.slice none 0 cap) [] ([]) TcL TdI (eG.nil _ _) (Mh.o _ Tc0) TcP TcD ?_;intro v36 w36 ho36 hg36;have hb36:=aa (fN (B:=wr.heap.size) (a:=wr) Tc0 hg36 TcD Tdr))
   | (refine pz (o:=⟨some 39,_,_,_,_,_⟩) rfl (.tmp 36) (.tmp 38) rfl wr.heap.size v36 (.slice (some w36.heap.size) 1 1) ([]++[]) [n] TcL TcL TdF TdH TcP TcO ?_;intro v39 w39 ho39 hg39;have hb39:=aa (fN (B:=wr.heap.size) (a:=wr) TdE hg39 TcO (fun j hj=>(ho36.lt j hj).1)))
   | (refine pz (o:=⟨some 39,_,_,_,_,_⟩) rfl (.tmp 36) (.tmp 38) rfl wr.heap.size v36 (.slice (some wr.heap.size) 1 1) ([]++[]) [n] TcL TcL TdT TdG TcP TcO ?_;intro v39 w39 ho39 hg39;have hb39:=aa (fN (B:=wr.heap.size) (a:=wr) TdR hg39 TcO (fun j hj=>(ho36.lt j hj).1)))
   | (refine pz (o:=⟨some 43,_,_,_,_,_⟩) rfl (.tmp 39) (.tmp 42) rfl wr.heap.size v39 (.slice none 0 cap) ([]++[]++[n]) ([]) TcL TcL ho39 (B2.o _ hb39.o) TcP hb39.o.size ?_;intro v43 w43 ho43 hg43;have hb43:=aa (fN (B:=wr.heap.size) (a:=wr) hb39.o hg43 hb39.o.size (fun j hj=>(ho39.lt j hj).1))))
  all_goals
   go_wp2;go_ret;exact ⟨_,_,rfl,ho43.rd,TdW,TdV,TcP,hb43.o⟩
 | some a =>
  have Mh:=aa (fun (W:World) (_:Below wr.heap.size wr W)=>Gv W (some a) cap ij);have B2:=Mh;go_wp2;go_region_law (first
   | (refine pz (o:=⟨some 36,_,_,_,_,_⟩) rfl (.const (.slice none 0 0)) (.tmp 35) rfl wr.heap.size (.slice none 0 0) (.slice (some a) 0 cap) [] ([]) TcL TdI (eG.nil _ _) (Mh.o _ Tc0) TcP TcD ?_;intro v36 w36 ho36 hg36;have hb36:=aa (fN (B:=wr.heap.size) (a:=wr) Tc0 hg36 TcD Tdr))
   | (refine pz (o:=⟨some 39,_,_,_,_,_⟩) rfl (.tmp 36) (.tmp 38) rfl wr.heap.size v36 (.slice (some w36.heap.size) 1 1) ([]++[]) [n] TcL TcL TdF TdH TcP TcO ?_;intro v39 w39 ho39 hg39;have hb39:=aa (fN (B:=wr.heap.size) (a:=wr) TdE hg39 TcO (fun j hj=>(ho36.lt j hj).1)))
   | (refine pz (o:=⟨some 39,_,_,_,_,_⟩) rfl (.tmp 36) (.tmp 38) rfl wr.heap.size v36 (.slice (some wr.heap.size) 1 1) ([]++[]) [n] TcL TcL TdT TdG TcP TcO ?_;intro v39 w39 ho39 hg39;have hb39:=aa (fN (B:=wr.heap.size) (a:=wr) TdR hg39 TcO (fun j hj=>(ho36.lt j hj).1)))
   | (refine pz (o:=⟨some 43,_,_,_,_,_⟩) rfl (.tmp 39) (.tmp 42) rfl wr.heap.size v39 (.slice (some a) 0 cap) ([]++[]++[n]) ([]) TcL TcL ho39 (B2.o _ hb39.o) TcP hb39.o.size ?_;intro v43 w43 ho43 hg43;have hb43:=aa (fN (B:=wr.heap.size) (a:=wr) hb39.o hg43 hb39.o.size (fun j hj=>(ho39.lt j hj).1))))
  all_goals
   go_wp2;go_ret;exact ⟨_,_,rfl,ho43.rd,TdW,TdV,TcP,hb43.o⟩
def Iy (w:World)(Z:List Int)(e:Ending)(w':World):Prop:=∃ v P,e=.returned v/\Hs w' v P/\Cq P Z/\P.length<=Z.length/\Below w.heap.size w w'
theorem G8 (l:List (Int × Int))(v:Value)(w:World)(hr:xo w v l)(hval:dI l=true)(hlen:l.length<=1000000) :
  Calls prog 39 #[v] w (Iy w (eU l)):=by
 have HV:=aa hval;clear hval;obtain ⟨p,cap,rfl,hlc,ij,hp⟩:=hr;go_enter func39,ntmps39;go_wp2
 go_loopw [3,4] (fun vo i wr=>∃ (k:Nat) (o:List Int),k<=l.length/\i=.int .i64 k/\Hs wr vo o/\o.Pairwise (·<·)/\(∀ m,m∈o↔m∈eU (l.take k))/\o.length<=2*k/\Below w.heap.size w wr) (fun _ i _=>l.length - (intOf i).toNat)
 exact ⟨0,[],cg _,rfl,Hs.nil _,List.Pairwise.nil,by simp [eU],TcD,bj _ _⟩;obtain ⟨k,o,hk,rfl,hro,KB,Tc,hol,hb⟩:=hrel;by_cases hlt:k<l.length
 ·obtain ⟨b,off,rfl,gO,hc⟩:=hp TcC;obtain ⟨x,hx⟩:=aj l k hlt;have hcc:=(hc.below hb gO) k x hx;have hc1:=hcc.1;have hc2:=hcc.2;have cX:b<wr.heap.size:=cC gO hb.size;obtain ⟨hx0,hx1,hx2⟩:=iF HV.o x (ct hx);have HX:=aa hx;have Pr:=aa Tc;have XE:=aa (fun (W:World) (hW:Below wr.heap.size wr W)=>hro.below hW);have QW:=aa KB;clear hc hp hcc hx Tc hro KB;have hw1:IntKind.i64.wrap (x.1+x.2)=x.1+x.2:=dy _ TcC;go_wp2;go_region_held3 (fun w'=>w'.cell? (b,off+k*2)=some (.int .i64 x.1)/\w'.cell? (b,off+k*2+1)=some (.int .i64 x.2)) (go_keep)
   (first
    | (go_at_call_of 87 (Value.int .i64 x.1);refine (GD o x.1 _ _ (XE.o _ ((bj _ _).drew)) QW.o TcC).mono ?_;rintro e w2 ⟨v2,o2,rfl,hro2,Td,Te,Ww,hb2⟩;have hd1:w2.cell? (b,off+k*2)=some (.int .i64 x.1):=(hb2.cell (p:=⟨b,off+k*2,none⟩) (by simpa using cX)).trans (by simpa using hc1);have hd2:w2.cell? (b,off+k*2+1)=some (.int .i64 x.2):=(hb2.cell (p:=⟨b,off+k*2+1,none⟩) (by simpa using cX)).trans (by simpa using hc2))
    | (go_at_call_of 87 (Value.int .i64 (x.1+x.2));refine (GD o2 (x.1+x.2) _ _ hro2 Td TcC).mono ?_;rintro e w3 ⟨v3,o3,rfl,hro3,Tf,Tg,ae5,hb3⟩;have hf1:w3.cell? (b,off+k*2)=some (.int .i64 x.1):=(hb3.cell (p:=⟨b,off+k*2,none⟩) (cC cX hb2.size)).trans hd1;have hf2:w3.cell? (b,off+k*2+1)=some (.int .i64 x.2):=(hb3.cell (p:=⟨b,off+k*2+1,none⟩) (cC cX hb2.size)).trans hd2))
  clear hw1 hd1 hd2 hf1 hf2 hc1 hc2;have hb5:Below w.heap.size w w3:=mn (mn hb.drew hb2) hb3;have as6:∀ m,m∈o3↔m∈eU (l.take (k+1)):=fun m=>by
   rw [Tg,Te,Pr.o,xw l k x HX.o,oT];simp;constructor
   ·rintro ((h | h) | h)
    ·exact .inl h
    ·exact .inr (.inl h)
    exact .inr (.inr h)
   rintro (h | h | h)
   ·exact .inl (.inl h)
   ·exact .inl (.inr h)
   exact .inr h
  have HM:=aa as6;have HS3:=aa Tf;clear as6 Te Tg Td Tf;go_wp2;go_roundw;exact ⟨k+1,o3,TcC,TcG,hro3,HS3.o,HM.o,TcC,hb5⟩;simp [intOf];omega
 have hkn:k=l.length:=by omega
 subst hkn;rw [cI] at Tc;have HM:=aa Tc;clear Tc;go_wp2;go_ret;exact ⟨_,o,rfl,hro,⟨KB,HM.o⟩,by rw [kE];omega,hb⟩
theorem Hy (l:List (Int × Int))(n:Int)(h:dI l=true):Gp l n=kO l n:=by
 unfold Gp kO;rw [mN,nh,nh];unfold dI at h;rw [eL] at h;constructor
 ·rintro ⟨p,hp,hh⟩;simp at hh;exact ⟨p,hp,TcH⟩
 rintro ⟨p,hp,hh⟩;simp at hh;exact ⟨p,hp,by simp [h p hp];omega⟩
theorem Ik (w:World)(B:Nat)(v vx:Value)(l m:List (Int × Int))(ty:TypeId)(hown:bM w B v l)(hx:xo w vx m)(hlen:l.length+m.length<=100000000)(hB:B<=w.heap.size) :
  ∃ v' w',(Builtin.append_ #[43,43] ty #[v,vx]).run prog w=.ok v' w'/\bM w' B v' (l++m)/\w.grownBy w' v.ownBlock:=by
 obtain ⟨i0,hi,hz0,hz1,hz2⟩:=cy DT;obtain ⟨p,cap,rfl,hlc,ij,hp⟩:=hx;cases p with
 | none =>
  have hm:m=[]:=by
   cases m with
   | nil=>rfl
   | cons a m=>obtain ⟨b,off,e,_⟩:=hp TcD;cases e
  subst hm;refine ⟨v,w,?_,by simpa using hown,⟨rfl,rfl,rfl,bk _,fun _ _ _=>rfl⟩⟩;rcases hown.2 with ⟨rfl,hn⟩ | ⟨g,cap',cur,rfl,_,_,vr,_⟩
  ·simp [Builtin.append_,tU underlying43,sizeOf,typeInfo,hi,Builtin.lenOf,Builtin.firstCells]
  simp [Builtin.append_,tU underlying43,sizeOf,typeInfo,hi,Builtin.lenOf,Builtin.firstCells,vr,storeCells]
 | some a =>
  by_cases h0:0<m.length
  ·obtain ⟨b,off,e,hb,hc⟩:=hp h0
   cases e
   obtain ⟨v',w',hr,ho',hg,_⟩:=run_append_own (P:=prog) w B 43 ty 55 i0 _ 2 16 underlying43 hi hz0 hz1 hz2 rfl TcF v l.length (bU l) hown ⟨b,off,none⟩ m.length cap (bU m) (dx m) (fun j u hu=>by
    rw [iz];have hj:j<m.length*2:=by rw [<- dx];exact (List.getElem?_eq_some_iff.1 hu).1
    obtain ⟨p,hp⟩:=De m (j / 2) TcC;have h1:=kr m (j / 2) p hp;have h2:=hc (j / 2) p hp;rcases Nat.mod_two_eq_zero_or_one j with hm | hm
    ·have e:j / 2*2=j:=by omega
     rw [e] at h1 h2;rw [h1.1] at hu;rw [h2.1,hu]
    have e:j / 2*2+1=j:=by omega
    rw [e] at h1;rw [h1.2] at hu;rw [<- hu,<- h2.2,Nat.add_assoc,e]) (qI _) TcN TcC hB
   refine ⟨v',w',hr,?_,hg⟩;unfold bM;rw [gJ,cD];exact ho'
  have hm:m=[]:=fX TcC;subst hm;obtain ⟨v',w',hr,ho',hg,_⟩:=run_append_own (P:=prog) w B 43 ty 55 i0 _ 2 16 underlying43 hi hz0 hz1 hz2 rfl TcF v l.length (bU l) hown a 0 cap [] rfl (fun j u hu=>by simp at hu) (fun u hu=>by cases hu) TcN TcC hB;refine ⟨v',w',hr,?_,hg⟩;unfold bM;simpa using ho'
theorem Gu {rest:List Oper}(hgd:o.guard=none)(s x:Operand)
  (ho:o.op=.call { callee:=.builtin .append,args:=#[s,x],argTypes:=#[43,43] })
  (B:Nat) (v vx:Value) (l m:List (Int × Int)) (hs:a.eval s=v) (hx:a.eval x=vx) (hown:bM w B v l) (kf:xo w vx m) (hlen:l.length+m.length<=100000000) (hB:B<=w.heap.size)
  (h:∀ v' w',bM w' B v' (l++m)->Below B w w'->wpList prog ops Q rest (a.put o.dst v') w'):wpList prog ops Q (o :: rest) a w:=by
 obtain ⟨v',w',hr,h1,h2⟩:=Ik w B v vx l m o.type hown kf hlen hB;refine wpList_plain hgd fun K hK=>?_;unfold Oper.wp;simp only [execOp,ho,resolve,invoke,builtin,Sem.run_bind,Sem.run_pure,ud,tS,iu,List.map_nil,hs,hx,hr];exact hK _ _ (h v' w' h1 ((bj B w).grown h2 hB (fun k hk=>(hown.lt k hk).1)))
theorem Ig {P:List Int}{l:List (Int × Int)}(hP:Cq P (eU l))(hv:dI l=true):∀ t∈P,0<=t/\t<=1073741824:=fun t ht=>by
 have h:=(hP.2 t).1 ht;unfold eU at h;rw [ur] at h;obtain ⟨p,hp,h⟩:=h;have:=iF hv p hp;simp at h;rcases h with rfl | rfl <;> omega
theorem Hu (l:List (Int × Int)):∀ r∈l,r.1∈eU l/\r.1+r.2∈eU l:=fun r hr=>by
 unfold eU;rw [ur,ur];exact ⟨⟨r,hr,TcD⟩,⟨r,hr,TcD⟩⟩
theorem He (a b:List (Int × Int)):dI (a++b)=(dI a&&dI b):=by simp [dI]
def Iz (kind:Int)(x y:Bool):Bool:=(kind == 0&&!x&&!y)||(kind == 1&&(!x||y))||(kind == 2&&(!x||!y))
theorem Il (kind:Int)(h:kind=0\/kind=1\/kind=2)(x y:Bool):Iz kind x y=!GN kind x y:=by
 rcases h with rfl | rfl | rfl <;> cases x <;> cases y <;> rfl
theorem Iu (M:Int)(l:List (Int × Int))(h:Row l)(hb:∀ p∈l,0<=p.1/\0<=p.2/\p.1+p.2<=M):∀ p∈glue l,0<=p.1/\0<=p.2/\p.1+p.2<=M:=by
 rw [GA l h];have:=CL M l hb l.length (bk _);rw [cI] at this;exact this
def IA (w:World)(S:Int->Prop)(N:Nat)(e:Ending)(w':World):Prop :=
 ∃ v x,e=.returned v/\bM w' w.heap.size v x/\iE x S/\dI x=true/\x.length<=N/\Below w.heap.size w w'
theorem TeB {p:Prop}(h:p:=by refine kt (B:=wc.heap.size) ?_ hbo.size;(repeat' (first | exact bj _ _ | exact bk _ | (refine dT ?_ ?_ _) | (refine aT ?_ _) | (refine ee ?_) | (simp;done) | (simp;omega)))):p:=h
theorem Gn (a b:List (Int × Int))(kind:Int)(zE:kind=0\/kind=1\/kind=2)(v1 v2:Value)(w:World)(hr1:xo w v1 a)(hr2:xo w v2 b)(hv1:dI a=true)(hv2:dI b=true)(hl1:a.length<=400000)(hl2:b.length<=400000) :
  Calls prog 11 #[v1,v2,.int .i64 kind] w (IA w (fun n=>GN kind (kO a n) (kO b n)=true) (2*(a.length+b.length))):=by
 have Zx:=aa hv1;have Vn:=aa hv2;have XM:=aa zE;clear hv1 hv2 zE;have RZ:=hr1;have sB:=hr2;obtain ⟨pa,ca,rfl,_⟩:=RZ;obtain ⟨pb,cb,rfl,_⟩:=sB;have HR1:=aa hr1;have E3:=aa hr2;go_enter func11,ntmps11
 go_wp2_with (at_builtin;refine Gu rfl _ _ rfl w.heap.size _ _ [] a rfl rfl (bM.nil _ _) hr1 TcH (bk _) ?_)
 intro va w1 PT hb1;have Od:bM w1 w.heap.size va a:=by first | exact PT | simpa using PT
 clear hr1 PT;have Th:=hr2.below hb1;clear hr2;go_wp2_with (at_builtin;refine Gu rfl _ _ rfl w.heap.size va _ a b rfl rfl Od Th TcC hb1.size ?_)
 intro vab w2 Ti hb2;have hb02:Below w.heap.size w w2:=hb1.trans hb2;have ra:xo w2 (.slice pa a.length ca) a:=HR1.o.below hb02;have rb:xo w2 (.slice pb b.length cb) b:=E3.o.below hb02;have Tj:dI (a++b)=true:=by rw [He,Zx.o,Vn.o];rfl
 have Tk:=aa Tj;clear Tj Od Th hb1 hb2;go_wp2_with fail;refine (G8 (a++b) vab w2 Ti.rd Tk.o TcH).mono ?_;rintro e w3 ⟨vp,P,rfl,hrp,hP,Pe,hb3⟩;replace ra:=ra.below hb3;replace rb:=rb.below hb3;have hb03:=mn hb02 hb3;have Ps:P.length<=2*(a.length+b.length):=by rw [kE] at Pe;simp at Pe;omega
 have HP:=aa hP;have Kp:=aa (Ig hP Tk.o);clear hP Pe Ti hb3 hb02;obtain ⟨qp,cp,rfl,Ui,Sa,Un⟩:=hrp;obtain ⟨f,hf⟩:∃ f:Int->Bool,f=fun t=>GN kind (Gp a t) (Gp b t):=⟨_,rfl⟩;have HF:=aa hf;clear hf;go_wp2
 go_loopw [7,9] (fun vo vn wr=>∃ m:Nat,m<=P.length/\vn=.int .i64 m/\bM wr w3.heap.size vo (glue (Gf (P.take (m+1)) f))/\Below w3.heap.size w3 wr) (fun _ vn _=>P.length - (intOf vn).toNat)
 exact ⟨0,cg _,rfl,by rw [Ch];exact bM.nil _ _,bj _ _⟩;obtain ⟨m,hm,rfl,hown,hb⟩:=hrel;obtain ⟨o,ho⟩:∃ o,o=glue (Gf (P.take (m+1)) f):=⟨_,rfl⟩;rw [<- ho] at hown
 have hol:o.length<=2*(a.length+b.length):=by
  rw [ho];have h1:=Io (Gf (P.take (m+1)) f);have h2:=wJ f (P.take (m+1));simp at h2;omega
 have fL:=GH f (P.take (m+1)) (HP.o.1.sublist (List.take_sublist _ _));have aq2:∀ p∈o,0<=p.1/\0<=p.2/\p.1+p.2<=1073741824:=by
  rw [ho];refine Iu 1073741824 _ fL (fun r hr=>?_);have h1:=uq f (P.take (m+1)) (HP.o.1.sublist (List.take_sublist _ _)) r hr;have h2:=Kp.o _ (tR h1.1);have h3:=Kp.o _ (tR h1.2.1);omega
 have HO:=aa ho;clear ho fL;by_cases hlt:m+1<P.length
 ·obtain ⟨bp,PC,rfl,as8,Mq⟩:=Un TcC;obtain ⟨t,ht⟩:=aj P m TcC;obtain ⟨t2,ht2⟩:=aj P (m+1) hlt;have cX:bp<wr.heap.size:=cC as8 hb.size;have PU:=(Mq.below hb as8) m t ht;have Ow:=(Mq.below hb as8) (m+1) t2 ht2;have Wy:=aG cX PU;obtain ⟨ht0,ht1⟩:=Kp.o t (ct ht);obtain ⟨ht20,ht21⟩:=Kp.o t2 (ct ht2);have Nh:t<t2:=by
   exact Tbm
  have HT:=aa ht;have HT2:=aa ht2;have RA:=aa (fun (q:fo)=>(ra.below hb).below (dQ wr q));have RB:=aa (fun (q:fo)=>(rb.below hb).below (dQ wr q));have yq:=tu P f m t t2 HT.o HT2.o;have Oi:f t=GN kind (Gp a t) (Gp b t):=by rw [HF.o]
  have B6:=aa yq;have DG:=aa Oi;clear ht ht2 Mq Un yq Oi;have hd22:decide ((m:Int)+1<(P.length:Int))=true:=by simp;omega
  have hml:m<P.length:=by omega
  go_wp2_with fail;(refine aU TcE TcE ?_;(repeat (go_big_quiet_step ((first | (go_at_call_of 40 (Value.slice pa a.length ca);exact iH (Gz a t _ _ TcC (RA.o _))) | (go_at_call_of 40 (Value.slice pb b.length cb);exact iH (Gz b t _ _ TcC (RB.o _)))))));(with_reducible refine fR ?_);intro wq ia;have kq:=dY ia;clear ia)
  have C0:=hown.below kq;have hbo:=mn hb kq;have ae6:=(kq.cell (p:=⟨bp,PC+m,none⟩) cX).trans PU;have Zp:=(kq.cell (p:=⟨bp,PC+(m+1),none⟩) cX).trans Ow;clear hown Wy PU Ow hb RA RB;generalize R1:Gp a t=xa at *;generalize qu:Gp b t=xb at *;clear R1 qu;go_upto_region 7 with fail
  go_cut [69] (fun v wc=>v=.bool (Iz kind xa xb)/\wc=wq)
  case first =>
   rcases XM.o with rfl | rfl | rfl
   all_goals
    cases xa <;> cases xb
    all_goals
     go_wp2;go_meet;exact ⟨rfl,Tc8⟩
  case rest =>
   obtain ⟨rfl,rfl⟩:=hcut;rw [Il kind XM.o,<- DG.o];cases Oi:f t
   ·have yq:glue (Gf (P.take (m+1+1)) f)=o:=by rw [B6.o,Oi,HO.o];simp
    have Mi:=aa yq;clear yq;go_wp2;go_roundw;exact ⟨m+1,TcC,TcG,by rw [Mi.o];exact C0,hbo⟩;simp [intOf];omega
   have yq:glue (Gf (P.take (m+1+1)) f)=qz o (t,t2 - t):=by rw [B6.o,Oi,HO.o];simp only [ej];exact Gx _ _
   have Mi:=aa yq;clear yq;rcases List.eq_nil_or_concat o with rfl | ⟨i,q,rfl⟩
   ·obtain ⟨p3,cap3,rfl,_,_,_⟩:=C0.rd;go_wp2;go_quiet (fail);go_wp2
    (refine uk _ 16 TcE rfl rfl TcE TcE (fun _ _ _ _ h=>h) (by go_simp;rfl) ?_;simp only [xi,iv,cQ,cL];(repeat (go_big_quiet_step (fail)));(with_reducible refine fR ?_);intro wq ia;obtain ⟨nq,ia⟩:=ia;subst ia)
    go_wp2_with (at_builtin;refine jg rfl _ _ rfl w3.heap.size _ [] (t,t2 - t) rfl ?c1 wc.heap.size 1 rfl ?c2 ?c3 TcD ?c4 ?_)
    case c1=>refine C0.below ?_;(repeat' (first | exact bj _ _ | exact bk _ | (refine dT ?_ ?_ _) | (refine aT ?_ _) | (refine ee ?_) | (simp;done) | (simp;omega)))
    try (case c2=>exact aD TcD rfl)
    try (case c3=>exact aD TcD rfl)
    case c4=>have:=hbo.size;simp;omega
    intro v8 w8 ho8 hb8 _;have hb9:Below w3.heap.size w3 w8:=(hbo.trans TeB).trans hb8;clear hb8 C0;go_wp2;go_roundw;exact ⟨m+1,TcC,TcG,by rw [Mi.o];exact ho8,hb9⟩;simp [intOf];omega
   simp only [List.concat_eq_append] at *;have hq:=aq2 q TcD;obtain ⟨hq0,hq1,hq2⟩:=hq;clear aq2;obtain ⟨g,cap3,rfl,TR,ye,hgc,hgm,Vq,Vr,Yi,hst⟩:=C0.last;have hil:i.length+1<=10000000:=by simp at hol;omega
   clear hst;by_cases he:q.1+q.2=t
   ·have Qu:(q.1+q.2 == t)=true:=by simp [he]
    have K2:qz (i++[q]) (t,t2 - t)=i++[(q.1,q.2+(t2 - t))]:=by
     unfold qz;simp [he]
    have Qz:=aa K2;have HE:=aa he;clear K2 he;go_wp2;go_quiet (fail);go_wp2
    (refine il 19 TcE TcE ?_;simp only [xi,iv,cQ,cL];(repeat (go_big_quiet_step (fail)));(with_reducible refine fR ?_);intro wq ia;obtain ⟨nq,ia⟩:=ia;subst ia)
    go_wp2;go_roundw
    case rel =>
     refine ⟨m+1,TcC,TcG,?_,?_⟩
     ·rw [Mi.o,Qz.o];refine bM.setLast ?_ _;refine C0.below ?_;exact TbB
     refine Below.setCell ?_ (by exact TR) _;refine hbo.trans ?_;refine kt (B:=wc.heap.size) ?_ hbo.size;exact TbB
    simp [intOf];omega
   have Qu:(q.1+q.2 == t)=false:=by simp [he]
   have K2:qz (i++[q]) (t,t2 - t)=i++[q]++[(t,t2 - t)]:=by
    unfold qz;simp [he]
   have Qz:=aa K2;clear K2 he;go_wp2;go_quiet (fail);go_wp2
   (refine uk _ 16 TcE rfl rfl TcE TcE (fun _ _ _ _ h=>h) (by go_simp;rfl) ?_;simp only [xi,iv,cQ,cL];(repeat (go_big_quiet_step (fail)));(with_reducible refine fR ?_);intro wq ia;obtain ⟨nq,ia⟩:=ia;subst ia)
   go_wp2_with (at_builtin;refine jg rfl _ _ rfl w3.heap.size _ (i++[q]) (t,t2 - t) rfl ?c1 wc.heap.size 1 rfl ?c2 ?c3 TcH ?c4 ?_)
   case c1=>refine C0.below ?_;(repeat' (first | exact bj _ _ | exact bk _ | (refine dT ?_ ?_ _) | (refine aT ?_ _) | (refine ee ?_) | (simp;done) | (simp;omega)))
   try (case c2=>exact aD TcD rfl)
   try (case c3=>exact aD TcD rfl)
   case c4=>have:=hbo.size;simp;omega
   intro v8 w8 ho8 hb8 _;have hb9:Below w3.heap.size w3 w8:=(hbo.trans TeB).trans hb8;clear hb8 C0;go_wp2;go_roundw;exact ⟨m+1,TcC,TcG,by rw [Mi.o,Qz.o];first | exact ho8 | simpa using ho8,hb9⟩;simp [intOf];omega
 have hd22:decide ((m:Int)+1<(P.length:Int))=false:=by simp;omega
 have yq:glue (Gf P f)=o:=by
  have:=HO.o;rw [jz TcC] at this;exact this.symm
 have gw:=GX P f HP.o.1;rw [yq] at gw;have j9:=aa gw;have XN:=aa aq2;clear yq gw aq2;go_wp2;go_ret;have Ur:iE o fun n=>GN kind (kO a n) (kO b n)=true:=by
  refine ⟨j9.o.1,fun n=>(j9.o.2 n).trans ?_⟩;have hff:f=fun t=>GN kind (kO a t) (kO b t):=by
   rw [HF.o];funext t
   rw [Hy a t Zx.o,Hy b t Vn.o]
  rw [hff];refine xD a b (GN kind) (by rcases XM.o with rfl | rfl | rfl <;> rfl) P HP.o.1 (fun r hr=>?_) n;have:=Hu (a++b) r (by rw [oT];exact hr);exact ⟨(HP.o.2 _).2 this.1,(HP.o.2 _).2 this.2⟩
 refine ⟨_,o,rfl,hown.mono hb03.size,Ur,?_,hol,mn hb03 hb⟩;unfold dI;rw [eL];intro r hr;have:=XN.o r hr;unfold nT;simp;omega
open Go.Maps Go.Shelf
theorem Gr {P:Program}{md:Region.Mode}{ops:Array Oper}{Q:Exit->Act->World->Prop}{S:World->Prop}{N:Nat->Bool}{i:Nat}{o:Oper}{fuel:Nat}{listed:Array Bool}{a:Act}{w:World}(hi:ops[i]?=some o)(hw:Region.wanted o (yielded ops a.tmps)=true)(hr:Region.ready md ops listed=[i])
  (h:∀ K:Act->World->Prop,Hid (∀ a' w',S w'->bG P md ops Q S N fuel (listed.setIfInBounds i true) a' w'->K a' w')->o.wp P a w K Q):bG P md ops Q S N (fuel+1) listed a w:=by
 refine ⟨fun h0=>Tdi,fun j hj=>?_⟩;rw [hr] at hj;obtain rfl:j=i:=by simpa using hj
 exact Tb8
theorem Ha {a b s:List (Int × Int)}{A B:Int->Prop}(ha:iE a A)(hb:iE b B)(hs:iE s (fun n=>GN 1 (kO a n) (kO b n)=true))(hab:∀ n,A n->B n):s=[] :=
 hs.eq (y:=[]) (T:=fun _=>False) ⟨yP,fun n=>⟨fun q=>(jd n q).elim,fun q=>q.elim⟩⟩ fun n=>by
  have e:GN 1 (kO a n) (kO b n)=(kO a n&&!kO b n):=rfl;rw [e,eh,iff_false];rintro ⟨h1,h2⟩;have:=(fe b n).2 ((hb.2 n).2 (hab n ((ha.2 n).1 ((fe a n).1 h1))));rw [this] at h2;cases h2
end Go.Proofs.YtaagglbgohjldaaGreatDoor
