/- Lemmas: AlcB, BltN, AlcC, AlcL, FlR, AlcD. -/
import Derived.Test.YtjdfihglehfelaaGreatDoorQm36
set_option maxRecDepth 100000
set_option maxHeartbeats 32000000
set_option linter.all false
namespace Go.Proofs.YtjdfihglehfelaaGreatDoor
open Go.Proofs.Tryz
open Go.RowKit Go.Maps Go.Shelf
variable {ok:Nat->Prop}{xs:List (List (Int × Int))}{k m:Nat}{x:List (Int × Int)}{p:Int × Int}
theorem uy {W:World}{b:Nat}{l:Array Value}{t:TypeId}(h:W.heap[b]?=some (.cells l t (0,0)))(i:Nat):W.frozen? (b,i)=false:=by simp [World.frozen?,h]
theorem Hg (g:af)(a:bN)(r:aY)(pv:Value)(k:Nat)(st:Int)(d:az)(w:World)(hr:ck aO 7 ok w [.slice a.dp g.Gb.length a.dc] g.Gb)(hd:g.Gb[k]?=some d)(hl:g.Gb.length<=1000000) :
  Calls prog 128 #[.agg (Taf g a r pv),.int .i64 (k:Int),.int .i64 st] w fun e w'=>e=.returned (.agg (Tau d.name st))/\Below w.heap.size w w':=by
 have hB:=ae w (.cells (Taf g a r pv) 120);have hN:=b9 w (.cells (Taf g a r pv) 120);have hB2:=ae (w.alloc (.cells (Taf g a r pv) 120)) (.cells Tat 60);have hN2:=b9 (w.alloc (.cells (Taf g a r pv) 120)) (.cells Tat 60);have pC:=hB.trans (hB2.mono hB.size);have hN1:=(hB2.block _ (aq hN)).trans hN;rw [cW] at hN2;have Ol:=(List.getElem?_eq_some_iff.1 hd).1
 have ij:g.Gb.length<=a.dc/\a.dc<=9223372036854775807:=by
  obtain ⟨_,_,e,h1,h2⟩:=hr.cap;injection e with _ _ e3
  rw [e3];exact ⟨h1,h2⟩
 obtain ⟨hc1,hc2⟩:=ij;obtain ⟨b,off,us,hsp,gR,cX,ez,eE,hcv⟩:=hr.elem hd;obtain ⟨tv,rfl,ew⟩:=eE;have d0:=hcv 0 _ rfl;rw [fg] at d0;have c6:=(cz hN1 6 _ rfl).trans (fj (fun p=>some (Value.slice p g.Gb.length a.dc)) hsp);have e0:=(pC.cell (p:=⟨b,off+k*7,none⟩) cX).trans d0;have z0:=cz hN2 0 _ rfl;have z1:=cz hN2 1 _ rfl;have z2:=cz hN2 2 _ rfl;have zf:=uy hN2;have HB:=aa pC;clear hN hB hr hd ez hcv ew d0 hsp hN1 hN2 hB2 pC;go_enter func128,ntmps128
 go_upto_region 1 with (fail)
 generalize hW1:World.alloc (World.alloc w _) _=W1 at *;have mA:w.heap.size<=w.heap.size+1:=by omega
 clear hW1;go_wp2;refine eC (v:=.agg (Tau d.name st)) (by simp [results,Tryz.results128,go_sem,z0,z1,z2]) rfl ⟨rfl,?_⟩;have hL:∀ (V:World) (o:Nat) (z:Value),Below w.heap.size w V->Below w.heap.size w (V.setCell ⟨w.heap.size+1,o,none⟩ z):=fun V o z q=>q.setCell (p:=⟨w.heap.size+1,o,none⟩) mA z;exact hL _ _ _ (hL _ _ _ (hL _ _ _ HB.o))
def JX (g:af)(a:bN)(r:aY)(w:World)(e:Ending)(w':World):Prop :=
 ∃ v xs,e=.returned (.tuple #[.agg (Taf g a r v),.int .i64 (kP g r)])/\fH w' w.heap.size v xs/\tK g r xs/\(xs.length=if kP g r=0 then g.Gb.length else 0)/\Below w.heap.size w w'
def Tac (x0:af)(x1:bN)(x2:aY)(x3:Nat)(x4:Option Addr)(x5:Nat):Taa #[.string x0.name,.int .u64 x0.id,.int .i64 x0.seq,.int .i64 x0.Gd,.int .i64 x0.next,.slice x1.tp x0.tags.length x1.tc,.slice x1.dp x0.Gb.length x1.dc,.slice x1.vp x0.F9.length x1.vc,.slice x1.hp x0.history.length x1.hc,.int .i64 x2.Gi,.int .i64 x2.Gh,.int .i64 x2.Gc,.int .i64 x2.Gg,.string x2.tag,.string x2.near,.string x2.sep,.slice x4 x3 x5]:=⟨⟩
def Tax :Taa #[.string ⟨#[]⟩,.int .u64 0,.int .i64 0,.int .i64 0,.int .i64 0,.slice none 0 0,.slice none 0 0,.slice none 0 0,.slice none 0 0,.int .i64 0,.int .i64 0,.int .i64 0,.int .i64 0,.string ⟨#[]⟩,.string ⟨#[]⟩,.string ⟨#[]⟩,.slice none 0 0]:=⟨⟩
theorem GA (g:af)(a:bN)(r:aY)(w:World)(hg:dN ok w g a)(hgi:NL g)(hr:dK r)(hS:AW w) :
  Calls prog 69 #[.agg (Tae g a),.agg (Taj r)] w (JX g a r w):=by
 have hA1:=ae w (.cells (Tae g a) 31);have hN1:=b9 w (.cells (Tae g a) 31);generalize hW1:w.alloc (.cells (Tae g a) 31)=W1 at *;have hA2:=ae W1 (.cells (Taj r) 35);have hN2:=b9 W1 (.cells (Taj r) 35);have hz1:W1.heap.size=w.heap.size+1:=by rw [<- hW1];exact cW ..
 generalize hW2:W1.alloc (.cells (Taj r) 35)=W2 at *;have hA3:=ae W2 (.cells Tax 120);have hN3:=b9 W2 (.cells Tax 120);have hz2:W2.heap.size=w.heap.size+2:=by rw [<- hW2,cW,hz1]
 generalize hW3:W2.alloc (.cells Tax 120)=W3 at *;have hz3:W3.heap.size=w.heap.size+3:=by rw [<- hW3,cW,hz2]
 have HB:=aa (hA1.trans ((hA2.mono Tcd).trans (hA3.mono Tcd)));have HG1:=aa ((hA3.block _ Tcd).trans ((hA2.block _ Tcd).trans hN1));have Lz:=aa ((hA3.block _ Tcd).trans hN2);have ux:=aa hN3;rw [hz1] at Lz;rw [hz2] at ux;clear hA1 hA2 hA3 hN1 hN2 hN3;have gL:=cz HG1.o;obtain ⟨g0,g1,g2,g3,g4,g5,g6,g7,g8⟩:=xr gL;have qL:=cz Lz.o;obtain ⟨q0,q1,q2,q3,q4,q5,q6⟩:=se qL;clear gL qL;have HP:=aa (jk g a r W3 (hg.mv (Mv.of HB.o)) hgi hr (hS.below HB.o));clear hg hS;go_enter func69,ntmps69
 go_upto_region 1 with (fail)
 try simp only [hW1,hW2,hW3]
 try simp only [hz1,hz2]
 clear hW1 hW2 hW3
 go_wp2_with fail
 refine HP.o.mono ?_;clear HP;intro e w8 hp;obtain ⟨xv,xs,rfl,OA,Zs,vh,hb8⟩:=hp.form;clear hp;have HG:=aa ((hb8.block _ Tcd).trans HG1.o);have HQ:=aa ((hb8.block _ Tcd).trans Lz.o);have HR:=aa ((hb8.block _ Tcd).trans ux.o);have B3:=aa (HB.o.trans (hb8.mono HB.o.size));obtain ⟨px,cx,rfl,PY,Ma⟩:=OA.cap;have PW:=aa OA;have HXP:=aa Zs;have NA:=aa vh;have gO:=hb8.size;clear g0 g1 g2 g3 g4 g5 g6 g7 g8 q0 q1 q2 q3 q4 q5 q6 hb8 OA Zs vh HG1 Lz ux HB;have gL:=cz HG.o;obtain ⟨g0,g1,g2,g3,g4,g5,g6,g7,g8⟩:=xr gL;have qL:=cz HQ.o;obtain ⟨q0,q1,q2,q3,q4,q5,q6⟩:=se qL;clear gL qL;have z0:=cz HR.o 0 _ rfl;have z1:=cz HR.o 1 _ rfl;have z2:=cz HR.o 2 _ rfl;have z3:=cz HR.o 3 _ rfl;have z4:=cz HR.o 4 _ rfl;have z5:=cz HR.o 5 _ rfl;have z6:=cz HR.o 6 _ rfl;have z7:=cz HR.o 7 _ rfl;have z8:=cz HR.o 8 _ rfl;have z9:=cz HR.o 9 _ rfl;have z10:=cz HR.o 10 _ rfl;have z11:=cz HR.o 11 _ rfl;have z12:=cz HR.o 12 _ rfl;have z13:=cz HR.o 13 _ rfl;have z14:=cz HR.o 14 _ rfl;have z15:=cz HR.o 15 _ rfl;have z16:=cz HR.o 16 _ rfl;have zf:=uy HR.o;have mA:w.heap.size<=w.heap.size+2:=by omega
 go_wp2;refine eC (v:=.tuple #[.agg (Tac g a r xs.length px cx),.int .i64 (kP g r)]) (by simp [results,Tryz.results69,go_sem,z0,z1,z2,z3,z4,z5,z6,z7,z8,z9,z10,z11,z12,z13,z14,z15,z16]) rfl ⟨_,xs,rfl,?_,HXP.o,NA.o,?_⟩
 ·refine (PW.o.blk fun k hk _=>?_).mono Tcd
  have hkr:k≠w.heap.size+2:=by omega
  simp only [bw _ ⟨w.heap.size+2,_,none⟩ _ k hkr]
 ·have hL:∀ (V:World) (o:Nat) (z:Value),Below w.heap.size w V->Below w.heap.size w (V.setCell ⟨w.heap.size+2,o,none⟩ z):=fun V o z q=>q.setCell (p:=⟨w.heap.size+2,o,none⟩) mA z
  exact (hL _ _ _ (hL _ _ _ (hL _ _ _ (hL _ _ _ (hL _ _ _ (hL _ _ _ (hL _ _ _ (hL _ _ _ (hL _ _ _ (hL _ _ _ (hL _ _ _ (hL _ _ _ (hL _ _ _ (hL _ _ _ (hL _ _ _ (hL _ _ _ (hL _ _ _ B3.o)))))))))))))))))
theorem al6 {α:Type}{l:List α}{i:Nat}{x:α}(h:l[i]?=some x):l=l.take i++x :: l.drop (i+1):=by
 obtain ⟨hi,e⟩:=List.getElem?_eq_some_iff.1 h;rw [<- e,<- tB hi,rk]
attribute [local go_sem] Oper.semAt_some
def zQ:Nat->List (List (Int × Int))->List (Nat × (Int × Int))
 | _,[]=>[]
 | i,x :: r=>x.map (fun p=>(i,p))++zQ (i+1) r
def iU (xs:List (List (Int × Int))):List (Nat × (Int × Int)):=zQ 0 xs
theorem Ci:∀ (i:Nat) (a b:List (List (Int × Int))),zQ i (a++b)=zQ i a++zQ (i+a.length) b
 | _,[],_=>rfl
 | i,x :: a,b=>by
  rw [List.cons_append,zQ,zQ,Ci (i+1) a b,cV,cS,show i+1+a.length=i+(a.length+1) by omega]
theorem GL (h:xs[k]?=some x):iU (xs.take (k+1))=iU (xs.take k)++x.map fun p=>(k,p):=by
 have hk:=(List.getElem?_eq_some_iff.1 h).1;rw [take_snoc' xs k x h];unfold iU;rw [Ci,ey,Nat.min_eq_left Tcd,eJ];simp [zQ]
theorem Jz (h:xs[k]?=some x)(hp:x[m]?=some p):∃ rest,iU xs=(iU (xs.take k)++(x.take m).map (fun p=>(k,p)))++(k,p) :: rest:=by
 have hk:=(List.getElem?_eq_some_iff.1 h).1;have e1:xs=xs.take (k+1)++xs.drop (k+1):=(rk ..).symm;have e2:x=x.take m++p :: x.drop (m+1):=al6 hp;refine ⟨(x.drop (m+1)).map (fun p=>(k,p))++zQ (k+1) (xs.drop (k+1)),?_⟩
 have e3:iU xs=iU (xs.take (k+1))++zQ (k+1) (xs.drop (k+1)):=by
  conv=>lhs;rw [e1]
  unfold iU;rw [Ci,ey,Nat.min_eq_left Tcd,eJ]
 rw [e3,GL h];conv=>lhs;rw [e2]
 simp
abbrev GN (xs:List (List (Int × Int))):Type:={ y:Nat × (Int × Int) // y∈iU xs }
theorem Ig {c:Nat}{y:Nat × (Int × Int)}(h:(iU xs)[c]?=some y):(iU xs).attach.take (c+1)=(iU xs).attach.take c++[⟨y,ct h⟩]:=by
 have hc:=(List.getElem?_eq_some_iff.1 h).1
 have h2:(iU xs).attach[c]?=some ⟨y,ct h⟩:=by
  have hc2:c<(iU xs).attach.length:=by rw [List.length_attach];exact hc
  rw [lO hc2]
  congr 1
  apply Subtype.ext;rw [List.getElem_attach];exact (List.getElem?_eq_some_iff.1 h).2
 exact take_snoc' _ c _ h2
def IP {xs:List (List (Int × Int))}(z:GN xs):Array Value:=#[.int .i64 (z.1.1:Int),.agg #[.int .i64 z.1.2.1,.int .i64 z.1.2.2]]
theorem IV (h:xs[k]?=some x)(hp:x[m]?=some p):(iU xs)[(iU (xs.take k)).length+m]?=some (k,p):=by
 obtain ⟨rest,e⟩:=Jz h hp;have hm:=(List.getElem?_eq_some_iff.1 hp).1;rw [e]
 have e2:(iU (xs.take k)++(x.take m).map fun p=>(k,p)).length=(iU (xs.take k)).length+m:=by
  rw [cD,fW,ey,Nat.min_eq_left Tcd]
 rw [Cp Tcd,e2,Nat.sub_self];rfl
def KpN (n₀:Nat)(W W':World):Prop:=Below n₀ W W'
def wI (n₀:Nat)(w:World)(px:Option Addr)(xs:List (List (Int × Int))):Prop :=
 ∀ (k:Nat) (x:List (Int × Int)),xs[k]?=some x->∃ (bx:Nat) (p:Option Addr) (c:Nat),px=some ⟨bx,0,none⟩/\bx<n₀/\w.cell? (bx,k)=some (.slice p x.length c)/\x.length<=c/\c<=9223372036854775807 /\
  (0<x.length->∃ b off,p=some ⟨b,off,none⟩/\b<n₀/\ru w b off x)
theorem BO (n n₀ Bt:Nat)(hn1:1<=n)(w:World)(px:Option Addr)(cx:Nat)(xs:List (List (Int × Int)))(hc:w.cell? (Tab Bt 16)=some (.slice px xs.length cx))(OI:xs.length<=cx/\cx<=9223372036854775807)(Ue:Bt<w.heap.size)(hn:n₀<=w.heap.size)(hr:wI n₀ w px xs)(vh:xs.length<=1000)(hxx:∀ x∈xs,x.length<=300000) :
  SeqStopsK Fence.wide n prog 130 #[.pointer (some Bt)] (IP (xs:=xs)) (KpN n₀) (fun ys=>ys=(iU xs).attach) (fun pre=>pre <+: (iU xs).attach) (iU xs).length w:=by
 intro l J Jx W hW hJ Z9 hY h0;refine callsIn_of_wp func130 rfl trivial ?_ rfl;simp only [ntmps130,List.size_toArray,cS,gi,Nat.reduceAdd,Nat.reduceSub,Array.replicate_succ,Array.replicate_zero,List.push_toArray,List.append_toArray,List.nil_append,List.cons_append];have hcW:W.cell? (Tab Bt 16)=some (.slice px xs.length cx):=(cd (w:=w) (hW.block Bt Ue)).trans hc;have HR:=aa hr;have HY:=aa hY;have HJ:=aa hJ;have OB:=aa hxx;have HW:=aa hW;have hnW:=cA hn hW.size;obtain ⟨PY,Ma⟩:=OI;clear hc hr hY hJ Z9 hxx hW
 gi_wp2
 gi_loopw [10] (fun i wr=>∃ k:Nat,k<=xs.length/\i=.int .i64 k/\J ((iU xs).attach.take (iU (xs.take k)).length) wr/\Below n₀ W wr/\W.heap.size<=wr.heap.size) (fun i _=>xs.length - (intOf i).toNat)
 case atStart=>exact ⟨0,cg _,rfl,by rw [show (iU (xs.take 0)).length=0 from by rw [iv];rfl,iv];exact h0,bj _ _,bk _⟩
 case round =>
  obtain ⟨k,hk,rfl,hJs,hB,hz⟩:=hrel
  by_cases hlt:k<xs.length
  ·obtain ⟨x,hx⟩:=aj xs k hlt
   obtain ⟨bx,pu,cu,rfl,sk,Ox,hu1,hu2,hu3⟩:=HR.o k x hx;have cX:wr.heap[bx]?=w.heap[bx]?:=(hB.block bx sk).trans (HW.o.block bx Tcd);have Tx:wr.cell? (bx,k)=some (.slice pu x.length cu):=(cd (w:=w) cX).trans Ox;have Tn:=OB.o x (ct hx);have HX:=aa hx;clear hx;have HU3:=aa hu3;clear hu3;have HJS:=aa hJs;clear hJs;have HB:=aa hB;clear hB;have HZ:=aa hz;clear hz;clear Ox cX
   gi_wp2
   clear Tx
   gi_loopw [17] (fun i wr=>∃ m:Nat,m<=x.length/\i=.int .i64 m/\J ((iU xs).attach.take ((iU (xs.take k)).length+m)) wr/\Below n₀ W wr/\W.heap.size<=wr.heap.size) (fun i _=>x.length - (intOf i).toNat)
   case atStart=>exact ⟨0,cg _,rfl,by rw [fg];exact HJS.o,HB.o,HZ.o⟩
   case round =>
    clear HJS HB HZ;obtain ⟨m,hm,rfl,hJs,hB,hz⟩:=hrel
    by_cases hlt2:m<x.length
    ·obtain ⟨p,hp⟩:=aj x m hlt2
     obtain ⟨bp,PC,rfl,hbp,Mq⟩:=HU3.o Tcd;have cX:wr.heap[bp]?=w.heap[bp]?:=(hB.block bp hbp).trans (HW.o.block bp Tcd);have p0:wr.cell? (bp,PC+m*2)=some (.int .i64 p.1):=(cd (w:=w) cX).trans (Mq m p hp).1;have p1:wr.cell? (bp,PC+m*2+1)=some (.int .i64 p.2):=(cd (w:=w) cX).trans (Mq m p hp).2;have ae6:=aa (IV HX.o hp);have HP:=aa hp;clear hp;have hA:=ae wr (.cells #[.int .i64 p.1,.int .i64 p.2] 62);have HN:=aa (b9 wr (.cells #[.int .i64 p.1,.int .i64 p.2] 62));have hJ2:=HJ.o _ _ _ none hJs (cK hA) (fun r e=>by cases e)
     have cm:=aa (hB.trans (hA.mono Tcd));have NV:=aa (cA hz hA.size);have Kj:=(List.getElem?_eq_some_iff.1 ae6.o).1
     have hlen:((iU xs).attach.take ((iU (xs.take k)).length+m)).length<(iU xs).length:=by
      rw [ey,List.length_attach];omega
     have b0:=cz HN.o 0 _ rfl;have b1:=cz HN.o 1 _ rfl;obtain ⟨fn,tmps,assign,body,hy,hR⟩:=HY.o _ ⟨(k,p),ct ae6.o⟩ _ hJ2 hlen;have V7:=aa hR;clear hR;dsimp only [IP] at hy;clear hJs hJ2 hB hz hA cX Mq hlen Kj
     gi_wp2
     refine V7.o.mono ?_;rintro e w3 (⟨rfl,hJ3,hk3⟩ | ⟨rfl,hx3⟩)
     ·have QU:=aa hJ3;clear hJ3
      have cJ:=aa (cm.o.trans hk3);have Lp:=aa (cA NV.o (Below.size hk3));clear hk3 hy b0 b1 p0 p1 V7
      gi_wp2
      go_roundw
      case rel=>exact ⟨m+1,Tcd,Tch,by rw [<- Nat.add_assoc,Ig ae6.o];exact QU.o,cJ.o,Lp.o⟩
      case measure=>simp [intOf];omega
     ·have Ul:=aa hx3;clear hx3
      clear hy b0 b1 p0 p1 V7
      gi_wp2
      refine eC (results_none rfl _ _ _) rfl ?_;exact ⟨⟨_,rfl⟩,.inr ⟨_,by rw [<- Ig ae6.o];exact List.take_prefix _ _,Ul.o⟩⟩
    ·obtain rfl:m=x.length:=by omega
     have QU:=aa hJs;clear hJs
     gi_wp2
     go_roundw
     case rel=>exact ⟨k+1,Tcd,Tch,by rw [GL HX.o,cD,fW];exact QU.o,hB,hz⟩
     case measure=>simp [intOf];omega
  ·obtain rfl:k=xs.length:=by omega
   have QU:=aa hJs;clear hJs
   gi_wp2
   go_end0
   exact ⟨⟨_,rfl⟩,.inl ⟨_,rfl,by have:=QU.o;rwa [cI,jz (by rw [List.length_attach];exact bk _)] at this⟩⟩
theorem GJ (g:af)(a:bN)(r:aY)(pv:Value)(w:World) :
  Calls prog 77 #[.agg (Taf g a r pv)] w fun e w'=>e=.returned (.func (.func 130) #[] #[.pointer (some w.heap.size)])/\w'=w.alloc (.cells (Taf g a r pv) 120):=by
 go_enter func77,ntmps77;go_wp2;go_ret;exact ⟨rfl,rfl⟩
def qz:Int->List (Nat × (Int × Int))->List (Nat × (Int × Int)) × Int
 | rest,[]=>([],rest)
 | rest,x :: l=>if rest<=0 then ([],rest) else (x :: (qz (rest - x.2.2) l).1,(qz (rest - x.2.2) l).2)
theorem GY:∀ (l:List (Nat × (Int × Int))) (a b:Int),(∀ x∈l,1<=x.2.2)->b<=a->(qz a l).2<=0->(qz b l).2<=0
 | [],a,b,_,h,k=>by
  simp only [qz] at k ⊢;omega
 | x :: l,a,b,hl,h,k=>by
  unfold qz at k ⊢;split at k
  ·rename_i ha
   rw [aw Tcd];dsimp only;omega
  ·dsimp only at k
   by_cases hb:b<=0
   ·rw [aw hb]
    exact hb
   ·rw [bh hb]
    exact GY l (a - x.2.2) (b - x.2.2) (fun y hy=>hl y (kn _ hy)) Tcd k
end Go.Proofs.YtjdfihglehfelaaGreatDoor
namespace Go.Proofs.YtjdfihglehfelaaGreatDoor
open Go.Proofs.Tryz
open Go.RowKit
def Gy (n:Nat):Code->Option Code
 | .rangeFunc _ _ a b=>match kX n a with
  | some c=>some c
  | none=>kX n b
 | .seq a b=>match Gy n a with
  | some c=>some c
  | none=>Gy n b
 | .block _ c=>Gy n c
 | .loop c=>Gy n c
 | .scope c=>Gy n c
 | .cond _ a b=>match Gy n a with
  | some c=>some c
  | none=>Gy n b
 | _=>none
noncomputable def Gz (f:Func)(n:Nat):Code:=((f.body.bind (Gy n)).getD .skip)
def I6 (e:Int)(l:List (Nat × (Int × Int))):Bool:=l.any fun x=>decide (e<=x.2.2)
open Classical in
noncomputable def Ar (e:Int)(an:Bool)(c:ByteArray):Nat->Int->List ByteArray->List ByteArray
 | 0,_,m=>m
 | f+1,n,m=>if e<=n/\(an=true\/c ∉ m) then Ar e an c f (n - e) (c :: m) else m
noncomputable def Cw (e:Int)(an:Bool)(cl:Nat->ByteArray)(N:Nat):List (Nat × (Int × Int))->List ByteArray->List ByteArray
 | [],m=>m
 | x :: l,m=>Cw e an cl N l (Ar e an (cl x.1) (N - m.length) x.2.2 m)
theorem Aw (e:Int)(an:Bool)(c:ByteArray):∀ (f:Nat) (n:Int) (m:List ByteArray),m.length<=(Ar e an c f n m).length/\(Ar e an c f n m).length<=m.length+f
 | 0,_,_=>⟨bk _,bk _⟩
 | f+1,n,m=>by
  unfold Ar;split
  ·have:=Aw e an c f (n - e) (c :: m)
   rw [cS] at this;omega
  ·omega
theorem H6 (e:Int)(an:Bool)(cl:Nat->ByteArray)(N:Nat):∀ (l:List (Nat × (Int × Int))) (m:List ByteArray),m.length<=N->m.length<=(Cw e an cl N l m).length/\(Cw e an cl N l m).length<=N
 | [],_,h=>⟨bk _,h⟩
 | x :: l,m,h=>by
  have h1:=Aw e an (cl x.1) (N - m.length) x.2.2 m;have h2:=H6 e an cl N l (Ar e an (cl x.1) (N - m.length) x.2.2 m) Tcd;exact ⟨by show _<=(Cw e an cl N l _).length;omega,h2.2⟩
theorem Ht {e e':Int}(he:e'<=e)(c:ByteArray):∀ (f f':Nat) (n n':Int) (m m':List ByteArray),n<=n'->m.length<=m'.length ->
  (Ar e' true c f' n' m').length=m'.length+f'\/(Ar e true c f n m).length<=(Ar e' true c f' n' m').length
 | 0,f',_,n',_,m',_,h=>.inr (cA h (Aw e' true c f' n' m').1)
 | f+1,0,_,_,_,_,_,_=>.inl rfl
 | f+1,f'+1,n,n',m,m',hn,h=>by
  by_cases h1:e<=n
  ·have h2:e'<=n':=by omega
   rw [Ar,aw ⟨h2,.inl rfl⟩,Ar,aw ⟨h1,.inl rfl⟩];have:=Ht he c f f' (n - e) (n' - e') (c :: m) (c :: m') Tcd TcG;rw [cS] at this;omega
  ·refine .inr (cA ?_ (Aw e' true c (f'+1) n' m').1)
   rw [Ar,bh fun q=>h1 q.1];exact h
theorem Ia {e e':Int}(he:e'<=e)(cl:Nat->ByteArray)(N N':Nat):∀ (l:List (Nat × (Int × Int))) (m m':List ByteArray),m'.length<=N'->(N'<=m'.length\/m.length<=m'.length) ->
  (N'<=(Cw e' true cl N' l m').length\/(Cw e true cl N l m).length<=(Cw e' true cl N' l m').length)
 | [],_,_,_,h=>h
 | x :: l,m,m',hl,h=>by
  have h1:=Aw e' true (cl x.1) (N' - m'.length) x.2.2 m';refine Ia he cl N N' l _ _ Tcd ?_;rcases h with h | h
  ·exact .inl Tcd
  ·rcases Ht he (cl x.1) (N - m.length) (N' - m'.length) x.2.2 x.2.2 m m' (Int.le_refl _) h with q | q
   ·exact .inl Tcd
   ·exact .inr q
variable {e e':Int}
open Classical in
theorem Iz (e:Int)(c:ByteArray)(f:Nat)(n:Int)(m:List ByteArray):Ar e false c f n m=if 0<f/\e<=n/\c ∉ m then c :: m else m:=by
 cases f with
 | zero=>simp [Ar]
 | succ f =>
  by_cases h:e<=n/\c ∉ m
  ·rw [Ar,aw ⟨h.1,.inr h.2⟩,aw ⟨Tcd,h⟩]
   cases f with
   | zero=>rfl
   | succ f=>rw [Ar,bh fun q=>by rcases q.2 with q | q;exact absurd q Tcg;exact q (cG ..)]
  ·rw [Ar,bh fun q=>h ⟨q.1,by rcases q.2 with q | q;exact absurd q Tcg;exact q⟩,bh fun q=>h q.2]
theorem IJ (he:e'<=e)(cl:Nat->ByteArray)(N N':Nat):∀ (l:List (Nat × (Int × Int))) (m m':List ByteArray),m'.length<=N'->m.Nodup->(N'<=m'.length\/∀ x∈m,x∈m') ->
  (Cw e false cl N l m).Nodup/\(N'<=(Cw e' false cl N' l m').length\/∀ x∈Cw e false cl N l m,x∈Cw e' false cl N' l m')
 | [],_,_,_,hd,h=>⟨hd,h⟩
 | x :: l,m,m',hl,hd,h=>by
  have h1:=Aw e' false (cl x.1) (N' - m'.length) x.2.2 m';refine IJ he cl N N' l _ _ Tcd ?_ ?_
  ·rw [Iz]
   split
   ·rename_i q
    exact List.nodup_cons.2 ⟨q.2.2,hd⟩
   ·exact hd
  ·rcases h with h | h
   ·exact .inl Tcd
   ·by_cases hN:N'<=m'.length
    ·exact .inl Tcd
    ·refine .inr fun y hy=>?_
     rw [Iz] at hy ⊢
     by_cases hc:cl x.1∈m'
     ·rw [bh fun q=>q.2.2 hc]
      split at hy
      ·rcases List.mem_cons.1 hy with rfl | hy
       ·exact hc
       ·exact h y hy
      ·exact h y hy
     ·by_cases hx:e<=x.2.2
      ·rw [aw ⟨Tcd,Tcd,hc⟩]
       split at hy
       ·rcases List.mem_cons.1 hy with rfl | hy
        ·exact cG ..
        ·exact kn _ (h y hy)
       ·exact kn _ (h y hy)
      ·rw [bh fun q=>hx q.2.1] at hy
       split
       ·exact kn _ (h y hy)
       ·exact h y hy
theorem GQ:∀ (a b:List ByteArray),a.Nodup->(∀ x∈a,x∈b)->a.length<=b.length
 | [],_,_,_=>cg _
 | x :: t,b,hd,h=>by
  obtain ⟨b1,b2,rfl⟩:=List.append_of_mem (h x (cG ..));have hd2:=List.nodup_cons.1 hd
  have h1:=GQ t (b1++b2) hd2.2 fun y hy=>by
   have:=h y (kn _ hy);rw [oT,dr] at this;rw [oT];rcases this with q | rfl | q
   ·exact .inl q
   ·exact absurd hy hd2.1
   ·exact .inr q
  simp only [cD,cS] at h1 ⊢;omega
theorem Jq (an:Bool)(c:ByteArray)(f:Nat){n:Int}(m:List ByteArray)(h:¬ e<=n):Ar e an c f n m=m:=by
 cases f with
 | zero=>rfl
 | succ f=>rw [Ar,bh fun q=>h q.1]
theorem Ie (an:Bool)(cl:Nat->ByteArray)(N:Nat):∀ (l:List (Nat × (Int × Int))) (m:List ByteArray),(∀ x∈l,¬ e<=x.2.2)->Cw e an cl N l m=m
 | [],_,_=>rfl
 | x :: l,m,h=>by
  rw [Cw,Jq _ _ _ _ (h x (cG ..))];exact Ie an cl N l m fun y hy=>h y (kn _ hy)
theorem JI (h:e<=0)(l:List (Nat × (Int × Int))):(qz e l).2=e:=by
 cases l with
 | nil=>rfl
 | cons x l=>rw [qz,aw h]
theorem H8:∀ (l:List (Nat × (Int × Int))) (e:Int),(∀ x∈l,1<=x.2.2)->(∃ x∈l,e<=x.2.2)->(qz e l).2<=0
 | [],_,_,h=>by obtain ⟨x,hx,_⟩:=h;cases hx
 | y :: l,e,hl,⟨x,hx,Kn⟩=>by
  rw [qz];split
  ·assumption
  ·show (qz (e - y.2.2) l).2<=0
   have hy:=hl y (cG ..);rcases List.mem_cons.1 hx with rfl | hx
   ·rw [JI Tcd]
    omega
   ·exact H8 l _ (fun z hz=>hl z (kn _ hz)) ⟨x,hx,Tcd⟩
noncomputable def Ho (e:Int)(N:Nat)(p:Int)(cl:Nat->ByteArray)(l:List (Nat × (Int × Int))):Bool :=
 if 1<N then decide ((Cw e (p == 5) cl N l []).length=N) else if p=1 then I6 e l else decide ((qz e l).2<=0)
theorem IZ {N:Nat}{p:Int}{cl:Nat->ByteArray}{l:List (Nat × (Int × Int))}(he:e'<=e)(hl:∀ x∈l,1<=x.2.2)(N':Nat)(hN:N'<=N)(h1:1<=N')(h:Ho e N p cl l=true):Ho e' N' p cl l=true:=by
 unfold Ho at h ⊢
 by_cases hn:1<N
 ·rw [aw hn,fk] at h
  by_cases hn':1<N'
  ·rw [aw hn',fk]
   have hb:=(H6 e' (p == 5) cl N' l [] (cg _)).2;refine Nat.le_antisymm hb ?_;cases hp:(p == 5) with
   | true =>
    rw [hp] at h;rcases Ia he cl N N' l [] [] (cg _) (.inr (bk _)) with q | q
    ·exact q
    ·omega
   | false =>
    rw [hp] at h;obtain ⟨q1,q | q⟩:=IJ he cl N N' l [] [] (cg _) List.nodup_nil (.inr fun _ hx=>hx)
    ·exact q
    ·have:=GQ _ _ q1 q
     omega
  ·have hx:∃ x∈l,e<=x.2.2:=Classical.byContradiction fun q=>by
    rw [Ie _ cl N l [] fun x hx Kn=>q ⟨x,hx,Kn⟩,gi] at h;omega
   rw [bh hn'];obtain ⟨x,hx,Kn⟩:=hx;split
   ·exact List.any_eq_true.2 ⟨x,hx,eA Tcd⟩
   ·exact eA (H8 l _ hl ⟨x,hx,Tcd⟩)
 ·rw [bh hn] at h
  rw [bh Tcd];split
  ·rename_i hp
   rw [aw hp] at h;obtain ⟨x,hx,Kn⟩:=List.any_eq_true.1 h;exact List.any_eq_true.2 ⟨x,hx,eA (by have:=of_decide_eq_true Kn;omega)⟩
  ·rename_i hp
   rw [bh hp,fk] at h;exact eA (GY l e e' hl he h)
section
variable {n l:Nat}{P:Program}{ops:Array Oper}{Q:Exit->Act->World->Prop}{md:Region.Mode}
variable {i:Nat}{o:Oper}{w:World}{K:Act->World->Prop}{a:Act}
def EC (ops:Array Oper):Bool:=ops.all fun o=>match o.op with
 | .defer _=>false
 | _=>true
theorem Hf (h:EC ops=true)(ho:ops[i]?=some o):∀ c,o.op≠.defer c:=fun c e=>by
 have hm:=Array.mem_of_getElem? ho;have:=(Array.all_eq_true'.1 h) o hm;rw [e] at this;cases this
theorem IM {f:FuncId}{args:Array Value}{R:Ending->World->Prop}(h:Calls P f args w R):CallsIn (Fence.wide.inRound l) n P f args w R:=(callsIn_wide.2 h).inRound l
theorem JV (ho:∀ c,o.op≠.defer c)(h:o.wp P a w K Q):o.wpIn (Fence.wide.inRound l) n P a w K Q:=by
 refine ⟨fun _ _=>trivial,?_⟩;rw [Fence.inRound_round,Oper.semAt_some _ _ _ ho];unfold Oper.wp at h;generalize (execOp a.eval o).run P w=r at *
 match r with
 | .ok (.value u) w'=>exact h
 | .ok .skip w'=>exact h
 | .ok (.defer d) w'=>exact h
 | .ok (.enter f args) w'=>exact ⟨fun q=>by simp [Fence.wide,Fence.inRound] at q,CallsIn.mono (IM h) fun e w'' he=>by cases e <;> exact he⟩
 | .ok (.row row args) w'=>exact ⟨fun q=>by simp [Fence.wide,Fence.inRound] at q,fun c cs _=>by
   obtain ⟨v,w'',r,s⟩:=h c cs
   exact ⟨v,w'',r,stepsIn_wide.2 s⟩⟩
 | .ok (.round l f tmps assign body) w'=>exact h.elim
 | .halt (.panic u) w'=>exact h
theorem Jw (hd:EC ops=true)(hl:¬ LetsOut Q)(h:wpOp P ops Q i K a w):wpOpIn (Fence.wide.inRound l) n P ops Q i K a w:=by
 unfold wpOp at h;unfold wpOpIn;cases ho:ops[i]? with
 | none=>simp only [ho] at h;exact h
 | some o =>
  simp only [ho] at h ⊢;split at h
  ·rename_i hw
   rw [aw hw];exact JV (Hf hd ho) (h.resolve_right fun q=>hl q.2)
  ·rename_i hw
   rw [bh hw];exact ⟨fun _ _=>trivial,h⟩
theorem Gw (hd:EC ops=true)(hl:¬ LetsOut Q):∀ (fuel:Nat) (listed:Array Bool) (a:Act) (w:World),wpAny P md ops Q fuel listed a w->wpAnyIn (Fence.wide.inRound l) n P md ops Q fuel listed a w
 | 0,_,_,_,h=>h
 | fuel+1,_,_,_,h=>⟨h.1,fun i hi=>wpOpIn_mono (fun a' w' h'=>Gw hd hl fuel _ a' w' h') (Jw hd hl (h.2 i hi))⟩
theorem Eb {id:Nat}(S:World->Prop)(m:Nat)(ws:List Nat)(hd:EC ops=true)(hl:¬ LetsOut Q)(hm:P.follows .mixedOrders=true)(hS:S w.drew)
  (h:S w.drew->bG P .any ops Q S (needs m ws) ops.size (Array.replicate ops.size false) a w.drew):(Code.region id ops true).wpIn (Fence.wide.inRound l) n P Q a w :=
 wpIn_region_any hm (Gw hd hl _ _ _ _ (mF _ _ _ _ (h hS)))
end
open Go.Maps Go.Shelf
theorem iC.notT {B k:Nat}{w:World}{v:Value}{l:List aR}{cs:Array Value}{t:TypeId}{z:Nat × Nat}(h:iC B w v l)(hk:w.heap[k]?=some (.cells cs t z))(ht:t≠60):v.ownBlock≠some k:=fun e=>by
 obtain ⟨_,ho,_⟩:=h;rcases ho.2 with ⟨rfl,_⟩ | ⟨g,cap,cur,rfl,_,gA,_⟩
 ·cases e
 ·obtain rfl:g=k:=by injection e
  rw [hk] at gA;injection gA with gA
  injection gA with _ gA _
  exact ht gA
theorem JE {ok:Nat->Prop}(Q:Exit->Act->World->Prop)(lr nn:Nat){c0 c2 c3 c5 c8 c9 c10 c11 c12 c13 c14 c15 c16 c17 c18 c19 c20 c21 c22 c23 c24 c25 c26 c27 c28 c29 c30 c31 c32:Value}(w:World)(g:af)(a:bN)(r:aY)(pv v:Value)(B Bt Bl Br k:Nat)(d:az)(p:Int × Int)(l:List aR)
  (ht:w.heap[Bt]?=some (.cells (Taf g a r pv) 120 (0,0))) (hl:w.heap[Bl]?=some (.cells #[v] 57 (0,0))) (hr:w.heap[Br]?=some (.cells #[.int .i64 p.1,.int .i64 p.2] 62 (0,0))) (hO:iC B w v l) (hB:B<=w.heap.size) (Tl:l.length<=100000)
  (kf:ck aO 7 ok w [.slice a.dp g.Gb.length a.dc] g.Gb) (hd:g.Gb[k]?=some d) (CD:g.Gb.length<=1000000)
  (HK:Hid (∀ (v':Value) (W':World) (u17 u18 u19 u20 u21 u22 u23 u24:Value),iC B W' v' (l++[⟨false,d.name,p.1⟩])->W'.heap[Bl]?=some (.cells #[v'] 57 (0,0))->(∀ b,b<w.heap.size->b≠Bl->v.ownBlock≠some b->W'.heap[b]?=w.heap[b]?)->w.heap.size<=W'.heap.size->W'.os=w.os->W'.tape=w.tape->W'.output=w.output->Q .normal ⟨#[c0,.pointer (some Bt),c2,c3,.pointer (some Bl),c5,.int .i64 (k:Int),.pointer (some Br),c8,c9,c10,c11,c12,c13,c14,c15,c16,u17,u18,u19,u20,u21,u22,u23,u24,c25,c26,c27,c28,c29,c30,c31,c32],[]⟩ W'))
  (hQ:∀ c (a:Act) (d:Tmp) (v:Value) w,Q (.panic c) (a.put (some d) v) w->Q (.panic c) a w) (Tj:¬ LetsOut Q) :
  (Gz Tryz.f70 7).wpIn (Fence.wide.inRound lr) nn prog Q ⟨#[c0,.pointer (some Bt),c2,c3,.pointer (some Bl),c5,.int .i64 (k:Int),.pointer (some Br),c8,c9,c10,c11,c12,c13,c14,c15,c16,c17,c18,c19,c20,c21,c22,c23,c24,c25,c26,c27,c28,c29,c30,c31,c32],[]⟩ w:=by
 conv=>arg 4;whnf
 have MC:=aq ht;have hbl:=aq hl;have hbr:=aq hr;have HO:=aa hO;clear hO;have HL:=aa hl;have hne:=HO.o.notT hl Tcg;obtain ⟨i0,hi,hz0,hz1,hz2⟩:=ei kL;have HI:=aa hi;clear hi;have H0:=aa hz0;clear hz0;have H1:=aa hz1;clear hz1;have H2:=aa hz2;clear hz2;have B2:=aa kf;clear kf;have HD:=aa hd;clear hd;have HS:Hid (∀ w':World,Below w.heap.size w w'->w'.heap[Bt]?=some (.cells (Taf g a r pv) 120 (0,0))/\w'.heap[Bl]?=some (.cells #[v] 57 (0,0))/\w'.heap[Br]?=some (.cells #[.int .i64 p.1,.int .i64 p.2] 62 (0,0))):=aa fun w' e=>⟨(e.block _ MC).trans ht,(e.block _ hbl).trans hl,(e.block _ hbr).trans hr⟩;clear ht hl hr;refine Eb (fun w'=>w'.heap[Bt]?=some (.cells (Taf g a r pv) 120 (0,0))/\w'.heap[Bl]?=some (.cells #[v] 57 (0,0))/\w'.heap[Br]?=some (.cells #[.int .i64 p.1,.int .i64 p.2] 62 (0,0))) 7 [] Tcf Tj Tcf (HS.o _ (bj _ _).drew) (fun hHeld=>?_)
 (refine o7 (i:=0) (v:=?_) rfl rfl Tcf (fun _ _ _ h=>hQ _ _ _ _ _ h) (Or.inl ⟨Tci,?_⟩) hHeld ?_;rotate_left;(intro w hSw;have l0:=cz hSw.2.1 0 _ rfl;clear hSw;go_simp;(try (with_reducible rfl)));(try simp only [aS]))
 (refine o7 (i:=1) (v:=?_) rfl rfl Tcf (fun _ _ _ h=>hQ _ _ _ _ _ h) (Or.inl ⟨Tci,?_⟩) hHeld ?_;rotate_left;(intro w hSw;have s0:=cz hSw.1 0 _ rfl;have s1:=cz hSw.1 1 _ rfl;have s2:=cz hSw.1 2 _ rfl;have s3:=cz hSw.1 3 _ rfl;have s4:=cz hSw.1 4 _ rfl;have s5:=cz hSw.1 5 _ rfl;have s6:=cz hSw.1 6 _ rfl;have s7:=cz hSw.1 7 _ rfl;have s8:=cz hSw.1 8 _ rfl;have s9:=cz hSw.1 9 _ rfl;have s10:=cz hSw.1 10 _ rfl;have s11:=cz hSw.1 11 _ rfl;have s12:=cz hSw.1 12 _ rfl;have s13:=cz hSw.1 13 _ rfl;have s14:=cz hSw.1 14 _ rfl;have s15:=cz hSw.1 15 _ rfl;have s16:=cz hSw.1 16 _ rfl;clear hSw;go_simp;(try (with_reducible rfl)));(try simp only [aS]))
 refine cH hQ 2 hHeld ?_;try simp only [ak];refine cH hQ 3 hHeld ?_;try simp only [ak]
 (refine o7 (i:=4) (v:=?_) rfl rfl Tcf (fun _ _ _ h=>hQ _ _ _ _ _ h) (Or.inl ⟨Tci,?_⟩) hHeld ?_;rotate_left;(intro w hSw;have r0:=cz hSw.2.2 0 _ rfl;clear hSw;go_simp;(try (with_reducible rfl)));(try simp only [aS]))
 refine lR 5 fun K hK=>?_;go_simp;refine (Hg (ok:=ok) g a r pv k p.1 d w.drew ((ck.moves aO.moves).mv ⟨bk _,fun b _ hb=>⟨hb,rfl⟩⟩ B2.o) HD.o CD).mono ?_;rintro e w6 ⟨rfl,hb6⟩;have hb6':Below w.heap.size w w6:=⟨hb6.os,hb6.tape,hb6.output,hb6.size,hb6.block⟩;refine hK.o _ _ (HS.o _ hb6') ?_;clear hK K hHeld;have qs:=aa hb6';clear hb6 hb6';have hHeld:=HS.o _ qs.o;have G2:=ae w6 (.cells (Tau d.name p.1) 60);have HO3:=aa ((HO.o.below qs.o).below G2);have pL:=aa G2;have PF:=cA hB qs.o.size;have HN6:=aa (b9 w6 (.cells (Tau d.name p.1) 60));clear G2;refine lR 6 fun K hK=>?_;go_simp;refine hK.o _ _ (HS.o _ (qs.o.trans (pL.o.mono qs.o.size))) ?_;clear hK K hHeld;generalize hW7:World.alloc w6 _=w7 at *;generalize hB7:w6.heap.size=b7 at *;clear hW7;refine aP Tcf rfl ?_;simp only [cQ,cL,km]
 go_wp2_with (at_builtin;refine dX aQ.moves underlying57 HI.o H0.o H1.o H2.o rfl Tcg Tcg rfl _ _ rfl B (fun _=>False) v l ⟨false,d.name,p.1⟩ rfl HO3.o b7 1 [.bool false,.string d.name,.int .i64 p.1] rfl rfl rfl ?d3 ?d4 ?d5 ?d6 (fun _ _ f=>f) ?_)
 all_goals first | (case d3=>(simp [Value.oneCell'])) | (case d4=>(intro j y hy;rw [eJ];exact cz HN6.o j y hy)) | (case d4=>(intro j y hy;exact cz HN6.o j y hy)) | (case d5=>omega) | (case d6=>omega) | (case d6=>(have:=pL.o.size;omega)) | skip
 intro gb cap w3 hp;have CT:∀ j,j<w.heap.size->v.ownBlock≠some j->w3.heap[j]?=w.heap[j]?:=fun j hj hn=>(hp.grown.block j (by have:=qs.o.size;have:=pL.o.size;omega) (fun e=>hn e.symm)).trans ((pL.o.block j (by have:=qs.o.size;omega)).trans (qs.o.block j hj));have hl3:=(CT Bl hbl hne).trans HL.o;have z0:=cz hl3 0 _ rfl;have zf:=uy hl3;have QP:=aa hl3;have HOW:=aa hp.own;have HK3:=aa CT;have PS:Hid (w.heap.size<=w3.heap.size/\w3.os=w.os/\w3.tape=w.tape/\w3.output=w.output):=aa ⟨by have:=qs.o.size;have:=pL.o.size;have:=hp.grown.size;omega,hp.grown.os.trans (pL.o.os.trans qs.o.os),hp.grown.tape.trans (pL.o.tape.trans qs.o.tape),hp.grown.output.trans (pL.o.output.trans qs.o.output)⟩;clear hp hl3 CT;go_wp2;refine HK.o _ _ _ _ _ _ _ _ _ _ ?_ (block_setCell (i:=0) _ QP.o) (fun b hb h1 h2=>(bw _ _ _ _ h1).trans (HK3.o b hb h2)) (by simp [World.setCell];exact PS.o.1) PS.o.2.1 PS.o.2.2.1 PS.o.2.2.2;exact iC.keep (B:=B) HOW.o Tcq fun j e=>bw _ _ _ _ (fun e'=>by subst e';exact iC.notT (B:=B) HOW.o QP.o Tcg e)
end Go.Proofs.YtjdfihglehfelaaGreatDoor
