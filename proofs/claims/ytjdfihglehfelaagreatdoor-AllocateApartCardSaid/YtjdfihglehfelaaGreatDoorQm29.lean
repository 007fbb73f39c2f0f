/- Lemmas: MkR. -/
import Derived.Test.YtjdfihglehfelaaGreatDoorQm28
set_option maxRecDepth 100000
set_option maxHeartbeats 32000000
set_option linter.all false
namespace Go.Proofs.YtjdfihglehfelaaGreatDoor
open Go.Proofs.Tryz
open Go.RowKit
def TaF (x0:Int)(x1:Int):Taa #[.int .i64 x0,.int .i64 x1,.int .i64 8,.slice none 0 0,.int .i64 0,.slice none 0 0,.string ⟨#[]⟩,.string ⟨#[]⟩,.int .i64 0,.int .i64 0,.int .i64 0]:=⟨⟩
def TaB (x0:Int)(x1:Int):Taa #[.int .i64 x0,.int .i64 x1,.int .i64 10,.slice none 0 0,.int .i64 0,.slice none 0 0,.string ⟨#[]⟩,.string ⟨#[]⟩,.int .i64 0,.int .i64 0,.int .i64 0]:=⟨⟩
def TaE (x0:Int)(x1:Int):Taa #[.int .i64 x0,.int .i64 x1,.int .i64 9,.slice none 0 0,.int .i64 0,.slice none 0 0,.string ⟨#[]⟩,.string ⟨#[]⟩,.int .i64 0,.int .i64 0,.int .i64 0]:=⟨⟩
def TaD (x0:Int)(x1:Int):Taa #[.int .i64 x0,.int .i64 x1,.int .i64 1,.slice none 0 0,.int .i64 0,.slice none 0 0,.string ⟨#[]⟩,.string ⟨#[]⟩,.int .i64 0,.int .i64 0,.int .i64 0]:=⟨⟩
def TaS (x0:ByteArray):Taa #[.string x0,.int .u64 0,.bool false,.bool false,.slice none 0 0,.slice none 0 0]:=⟨⟩
theorem Tdm {p:Prop}(h:p:=by simp [iG,aV]):p:=h
theorem Tcr {p:Prop}(h:p:=by rw [show ((c - 1:Nat):Int)=(c:Int) - 1 by omega]):p:=h
theorem TcI {p:Prop}(h:p:=by first | omega | (simp only [cD,cS,gi];omega)):p:=h
theorem CE (X:Nat->Prop)(bs bb sb tn tc:Nat)(tp:Option Addr)(nv vv:Value)(g:af)(next:List Int)(w:World)(h:eW X w bs bb nv vv g next)(hk:Ld g next)(name:ByteArray)(id:Int)(hidden ro:Bool)(x0:aB)(hx0:0<=x0.length/\x0.length<=1000)
  (P9:iL bC 11 (okB X bb nv vv) w (.slice (some sb) 1 1) [x0]) :
  Calls prog 44 #[.pointer (some bb),.agg #[.string name,.int .u64 id,.bool hidden,.bool ro,.slice tp tn tc,.slice (some sb) 1 1]] w (FT X bs bb nv vv g next name id hidden ro (.slice tp tn tc) x0 w):=by
 have k2:=hk.dk.pos;have k3:=hk.dk.le
 have hsb:sb<w.heap.size:=by
  obtain ⟨b,olds,e,hb,_⟩:=P9;injection e with e
  injection e with e
  injection e with e
  omega
 go_enter func44,ntmps44;have cX:=h.Gj;have gO:=h.lt
 have c0:∀ o p,((w.alloc o).alloc p).cell? bb=some (.pointer (some bs)):=fun o p=>by
  have e:((w.alloc o).alloc p).heap[bb]?=w.heap[bb]?:=by rw [cj _ _ _ Tcj,cj _ _ _ cX]
  exact (cd (w:=w) e).trans h.c0
 generalize hcs:(fun v:Value=>#[Value.string name,.int .u64 id,.bool hidden,.bool ro,.slice tp tn tc,v])=cs;have SS:∀ v,cs v=#[.string name,.int .u64 id,.bool hidden,.bool ro,.slice tp tn tc,v]:=fun v=>by rw [<- hcs]
 have ME:=aa SS;clear SS hcs
 have M0:py X bs bb nv vv g next w w.heap.size cs [x0] (.slice (some sb) 1 1) [x0] [] next ((w.alloc (.cells #[.string name,.int .u64 id,.bool hidden,.bool ro,.slice tp tn tc,.slice (some sb) 1 1] 55)).alloc (.cells (TaS es) 55)):=by
  have hb:Below w.heap.size w ((w.alloc (.cells #[.string name,.int .u64 id,.bool hidden,.bool ro,.slice tp tn tc,.slice (some sb) 1 1] 55)).alloc (.cells (TaS es) 55)):=((bj _ _).alloc (bk _) _).alloc Tce _
  have hno:∀ k,eO X w.heap.size (.slice (some sb) 1 1) k->X k\/k=w.heap.size\/k=w.heap.size+1:=by
   rintro k (q | q | q | q)
   ·exact .inl q
   ·exact .inr (.inl q)
   ·exact .inr (.inr q)
   ·obtain rfl:sb=k:=by injection q.1
    have:=q.2;omega
  refine ⟨(aH.refl h).fresh hb (fun k hk=>?_),?_,⟨#[.string es,.int .u64 0,.bool false,.bool false,.slice none 0 0,.slice none 0 0],rfl,?_⟩,.inl ⟨P9.moves bC.moves ⟨hb.size,fun b hb' ho=>⟨⟨ho.1,ho.2.1,ho.2.2.1,fun q=>?_⟩,hb.block b hb'⟩⟩,fun b e=>?_⟩,.nil,.nil _,Tce,fun x hx=>?_,bk _,Tce⟩
  ·rcases hno k hk with q | q | q
   ·exact .inl q
   ·exact .inr ⟨Tcd,Tcj⟩
   ·exact .inr ⟨Tcd,Tcj⟩
  ·rw [cj _ _ _ Tce,b9,ME.o]
  ·have:=b9 (w.alloc (.cells #[.string name,.int .u64 id,.bool hidden,.bool ro,.slice tp tn tc,.slice (some sb) 1 1] 55)) (.cells (TaS es) 55)
   rw [cW] at this;exact this
  ·rcases hno b q with q | q | q
   ·exact ho.2.2.2 q
   ·omega
   ·omega
  ·obtain rfl:sb=b:=by injection e
   omega
  ·simp only [dr,cY,dg] at hx
   rw [hx];exact hx0
 go_wp2_with fail
 refine (bY bs 3 _ Tcd Tcd M0.post.bld.src).mono ?_;rintro e w1 ⟨cv,rfl,hc1,hc2,hs1,hm1⟩;have M1:=M0.read hs1 hm1;clear hm1 hs1 c0 M0 P9;obtain ⟨c,rfl⟩:∃ u:Nat,cv=u:=⟨cv.toNat,Tcd⟩;go_wp2
 go_loopw [5] (fun i wr=>∃ (c:Nat) (sv:Value) (Gf:List aB) (ps:List (ByteArray × Int × Int)) (nx:List Int),c+Gf.length<=3/\i=.int .i64 c/\py X bs bb nv vv g next w w.heap.size cs [x0] sv Gf ps nx wr) (fun i _=>(intOf i).toNat)
 case atStart=>exact ⟨c,_,_,_,_,Tcj,rfl,M1⟩
 case round =>
  obtain ⟨c,sv,Gf,ps,nx,Kj,rfl,M⟩:=hrel;have GF:Gf.length<=3:=by omega
  obtain ⟨sp,mL,PO,s1,s2,s3⟩:=(M.st.rd bC.moves Tcg (ok':=fun _=>True) (fun _ _ _=>trivial) (fun _ _=>trivial)).form;subst PO;have HS3:=aa s3;clear s3
  by_cases hc0:c=0
  ·subst hc0
   have PQ:wr.heap[w.heap.size]?=some (.cells #[.string name,.int .u64 id,.bool hidden,.bool ro,.slice tp tn tc,.slice sp Gf.length mL] 55 (0,0)):=by rw [<- ME.o];exact M.bv
   have qL:=cr PQ
   obtain ⟨q0,q1,q2,q3,q4,q5⟩:=XP qL;obtain ⟨zs,hzs,hr⟩:=M.br
   obtain ⟨z0,z1,z2,z3,z4,z5,rfl⟩:∃ z0 z1 z2 z3 z4 z5,zs=#[z0,z1,z2,z3,z4,z5]:=by
    obtain ⟨l⟩:=zs
    match l,hzs with
    | [a,b,c,d,e,f],_=>exact ⟨a,b,c,d,e,f,rfl⟩
   obtain ⟨r0,r1,r2,r3,r4,r5⟩:=XP (cr hr)
   have rf:=sr hr
   have HQ:=aa qL;clear qL;have HR:=aa hr;clear hr;have VD:=aa PQ;clear PQ
   have RD:ck bC 11 (fun b=>okB X bb nv vv b/\b≠w.heap.size+1) wr [.slice sp Gf.length mL] Gf:=M.st.rd bC.moves Tcg (fun b _ ho=>⟨⟨ho.1,ho.2.1,ho.2.2.1,fun q=>ho.2.2.2 (.inl q)⟩,fun e=>ho.2.2.2 (.inr (.inr (.inl e)))⟩) (fun b hb=>by
    have hy:eO X w.heap.size (.slice sp Gf.length mL) b:=.inr (.inr (.inr hb));have:=hb.2
    exact ⟨⟨(M.post.bld.xlt b hy).1,fun q=>M.post.bld.xn b q hy,fun q=>M.post.bld.xv b q hy,fun q=>by have:=(h.xlt b q).2;omega⟩,Tcd⟩)
   have PP:aH X bs bb nv vv w ((((((wr.setCell (Tab (w.heap.size+1) 0) (.string name)).setCell (Tab (w.heap.size+1) 1) (.int .u64 id)).setCell (Tab (w.heap.size+1) 2) (.bool hidden)).setCell (Tab (w.heap.size+1) 3) (.bool ro)).setCell (Tab (w.heap.size+1) 4) (.slice tp tn tc)).setCell (Tab (w.heap.size+1) 5) (.slice sp Gf.length mL)) nv vv g nx :=
    ((((((M.post.put _ 0 _ (.inr (.inr (.inl rfl))) Tcd).put _ 1 _ (.inr (.inr (.inl rfl))) Tcd).put _ 2 _ (.inr (.inr (.inl rfl))) Tcd).put _ 3 _ (.inr (.inr (.inl rfl))) Tcd).put _ 4 _ (.inr (.inr (.inl rfl))) Tcd).put _ 5 _ (.inr (.inr (.inl rfl))) Tcd).fewer (fun k hk=>.inl hk)
   have RF:ck bC 11 (okB X bb nv vv) ((((((wr.setCell (Tab (w.heap.size+1) 0) (.string name)).setCell (Tab (w.heap.size+1) 1) (.int .u64 id)).setCell (Tab (w.heap.size+1) 2) (.bool hidden)).setCell (Tab (w.heap.size+1) 3) (.bool ro)).setCell (Tab (w.heap.size+1) 4) (.slice tp tn tc)).setCell (Tab (w.heap.size+1) 5) (.slice sp Gf.length mL)) [.slice sp Gf.length mL] Gf :=
    (ck.moves bC.moves).mv ⟨Tcq,fun b _ ho=>⟨ho.1,by rw [bw _ _ _ _ ho.2,bw _ _ _ _ ho.2,bw _ _ _ _ ho.2,bw _ _ _ _ ho.2,bw _ _ _ _ ho.2,bw _ _ _ _ ho.2]⟩⟩ RD
   have HPP:=aa PP;clear PP;have HRF:=aa RF;clear RF RD;go_wp2;refine eC (v:=.agg #[.string name,.int .u64 id,.bool hidden,.bool ro,.slice tp tn tc,.slice sp Gf.length mL]) (by simp [results,Tryz.results44,go_sem,r0,r1,r2,r3,r4,r5]) rfl ⟨_,Gf,ps,nx,rfl,M.more,GF,M.took,M.sub,HPP.o,HRF.o⟩
  ·have dk:=M.took.ok hk.dk
   have PQ:wr.heap[w.heap.size]?=some (.cells #[.string name,.int .u64 id,.bool hidden,.bool ro,.slice tp tn tc,.slice sp Gf.length mL] 55 (0,0)):=by rw [<- ME.o];exact M.bv
   have q5:=cr PQ 5 _ rfl
   have VD:=aa PQ;clear PQ;have hd0:decide ((0:Int)<(c:Int))=true:=by simp;omega
   go_wp2
   go_loop [6,7] (fun s i=>∃ k:Nat,k<=Gf.length/\i=.int .i64 k/\s=.int .i64 (bg (Gf.take k))) (fun _ i=>Gf.length - (intOf i).toNat)
   case atStart=>exact ⟨0,Tcd,rfl,rfl⟩
   case round =>
    obtain ⟨k,Ol,rfl,rfl⟩:=hrel;have SU:=Bb (Gf.take k) (fun x hx=>M.len x (List.mem_of_mem_take hx));have Xa:((Gf.take k).length:Int)<=3:=by rw [ey];omega
    have Xb:=SU.1;have Xc:bg (Gf.take k)<=3000:=by omega
    clear SU Xa
    by_cases hlt:k<Gf.length
    ·obtain ⟨b,off,rfl,hb,_,hcv⟩:=HS3.o Tcd
     obtain ⟨y,hy⟩:=aj Gf k hlt;have Nz:=M.len y (ct hy);have ad4:=Nz.1;have ad5:=Nz.2
     have hcy:wr.cell? (b,off+k*11+1)=some (.int .i64 y.length):=by
      obtain ⟨u,_,⟨a,t,rfl,_⟩,hc⟩:=hcv k y hy;exact hc 1 _ rfl
     have V2:=aa (om Gf k y hy);clear hcv hy Nz;go_wp2;go_round
     case rel=>exact ⟨k+1,Tcd,Tch,by rw [V2.o]⟩
     case measure=>simp [intOf];omega
    ·obtain rfl:k=Gf.length:=by omega
     rw [cI] at Xb Xc ⊢;have c0:=M.post.bld.c0
     go_wp2_with fail
     refine (bO bs 1 3 _ Tcd Tcd Tcd M.post.bld.src).mono ?_;rintro e w2 ⟨n,rfl,hn1,hn2,hs2,hm2⟩;have M2:=M.read hs2 hm2;clear hm2 hs2 c0 q5;have c0:=M2.post.bld.c0;have M3:=M2.below (ae w2 (.cells #[.int .i64 1,.int .i64 9,.int .i64 10,.int .i64 8] 3));have hb2:=M2.post.bld.Gj;have Q7:=M2.post.bld.lt;have Zc:ig (w2.alloc (.cells #[.int .i64 1,.int .i64 9,.int .i64 10,.int .i64 8] 3)) w2.heap.size 0 [1,9,10,8]:=mo w2 _ [1,9,10,8];have UF:=aa Zc;clear Zc
     go_wp2_with fail
     refine (jD bs w2.heap.size 4 [1,9,10,8] _ Tce Tce Tce Tcd Tce Tcd UF.o M3.post.bld.src).mono ?_;rintro e w4 ⟨kd,rfl,zE,hs4,hm4⟩;have M4:=M3.read hs4 hm4;clear hm4 hs4 c0 M2 M3;simp only [dr,cY,dg] at zE;rcases zE with rfl | rfl | rfl | rfl
     ·have M5:fw (fD X w4.heap.size) bs bb nv vv g next w w.heap.size cs [x0] (.slice sp Gf.length mL) Gf ps nx w4.heap.size #[.int .i64 (bg Gf),.int .i64 n,.int .i64 1,.slice none 0 0,.int .i64 0,.slice none 0 0,.string ⟨#[]⟩,.string ⟨#[]⟩,.int .i64 0,.int .i64 0,.int .i64 0] (w4.alloc (.cells (TaD (bg Gf) n) 79)):=⟨M4.fresh (.cells (TaD (bg Gf) n) 79),b9 w4 _,.inr rfl⟩
      have hL4:=M4.hB;have hL5:(Value.slice sp Gf.length mL).ownBlock≠some w4.heap.size:=fun e=>by have:=M4.svLt e;omega
      have Lt:(w4.alloc (.cells (TaD (bg Gf) n) 79)).cell? (Tab w4.heap.size 2)=some (.int .i64 1):=aD rfl rfl
      go_upto_region 12 with (fail)
      clear Lt;generalize hW5:w4.alloc _=W5 at *;generalize Kd:w4.heap.size=L4 at *;clear hW5 Kd;refine qB M5 hk n hn1 hn2 _ _ (fun _ _ _ _ _ h=>h) (aa ?_);intro A on s ok ps1 nx1 w5 u60 u61 u62 u63 u64 u65 u66 u67 u68 u69 u70 u71 u72 u73 u74 u75 u76 hA UA gw M6 hX;clear hX M5;cases ok with
      | false =>
       go_wp2;go_roundw
       case rel=>exact ⟨c - 1,_,Gf,_,_,TcI,Tcr,M6.m.drop⟩
       case measure=>simp [intOf];omega
      | true =>
       obtain rfl:=gw rfl;clear gw;obtain ⟨a0,a1,a2⟩:=UN (cr hA)
       obtain ⟨M7,Lc,L6⟩:=M6.lit hL4 hL5 #[.bool false,.string on,.int .i64 s];simp only [xT,List.set_cons_zero,List.set_cons_succ] at M7;have l3:(w5.alloc (.cells (Tau on s) 60)).cell? (Tab L4 3)=some (.slice none 0 0):=by rw [cd (w:=w5) (cj _ _ _ (aq M6.lx))];simp [World.cell?,M6.lx]
       have lf:(w5.alloc (.cells (Tau on s) 60)).frozen? (Tab L4 3)=false:=by rw [rh (w:=w5) (cj _ _ _ (aq M6.lx))];simp [World.frozen?,M6.lx]
       have l2:((w5.alloc (.cells (Tau on s) 60)).setCell (Tab L4 3) (.slice (some w5.heap.size) 1 1)).cell? (Tab L4 2)=some (.int .i64 1):=by simp [World.cell?,M7.lx]
       have HA:=aa hA;clear hA;have Xd:=aa Lc;clear Lc;have Qy:=aa L6;clear L6;have Qx:=aa M7;clear M7 M6
       go_upto_region 19 with (fail)
       clear a0 a1 a2 l3 lf l2;generalize hW7:World.setCell (w5.alloc _) _ _=W7 at *;generalize Xe:w5.heap.size=Sb at *;clear hW7 Xe;have M7:=Qx.o
       go_upto_region 19 with (fail)
       refine jW (M7.drop (.inr rfl)) ME Tcd (ck.one (V:=aQ) (u:=[.bool false,.string on,.int .i64 s]) (x:=(⟨false,on,s⟩:aR)) Xd.o ⟨Qy.o.1,Qy.o.2.1,Qy.o.2.2.1,fun q=>Qy.o.2.2.2 (q.imp .inl (fun z=>z))⟩ rfl (show _=_ from rfl)) (.lin M.more ⟨hn1,hn2⟩) (M.more.sub M.sub (x:=aV (bg Gf) n 1 [⟨false,on,s⟩] 0) Tdm) hn1 hn2 _ _ _ _ _ _ _ _ _ _ _ _ _ _ _ _ _ _ _ _ _ _ _ _ _ _ _ _ _ _ _ _ _ _ _ _ _ _ _ _ _ _ _ _ _ _ _ _ _ _ _ _ _ _ _ _ _ _ _ _ _ _ _ _ _ _ _ _ _ _ _ _ _ _ _ _ _ _ _ _ _ _ _ _ _ _ _ _ _ _ _ _ _ _ _ _ _ _ _ _ _ _ _ _ _ _ _ _ _ _ _ _ _ _ _ _ _ _ _ _ _ _ _ _ (aa ?_);intro sv' w9 u118 u119 u120 u121 u122 u123 M9;go_wp2;go_roundw
       case rel=>exact ⟨c - 1,_,(Gf++[aV (bg Gf) n 1 [⟨false,on,s⟩] 0]),_,_,TcI,Tcr,M9⟩
       case measure=>simp [intOf];omega
     ·have M5:fw (fD X w4.heap.size) bs bb nv vv g next w w.heap.size cs [x0] (.slice sp Gf.length mL) Gf ps nx w4.heap.size #[.int .i64 (bg Gf),.int .i64 n,.int .i64 9,.slice none 0 0,.int .i64 0,.slice none 0 0,.string ⟨#[]⟩,.string ⟨#[]⟩,.int .i64 0,.int .i64 0,.int .i64 0] (w4.alloc (.cells (TaE (bg Gf) n) 79)):=⟨M4.fresh (.cells (TaE (bg Gf) n) 79),b9 w4 _,.inr rfl⟩
      have hL4:=M4.hB;have hL5:(Value.slice sp Gf.length mL).ownBlock≠some w4.heap.size:=fun e=>by have:=M4.svLt e;omega
      have Lt:(w4.alloc (.cells (TaE (bg Gf) n) 79)).cell? (Tab w4.heap.size 2)=some (.int .i64 9):=aD rfl rfl
      go_upto_region 19 with (fail)
      clear Lt;generalize hW5:w4.alloc _=W5 at *;generalize Kd:w4.heap.size=L4 at *;clear hW5 Kd
      go_upto_region 19 with (fail)
      refine jW M5 ME Tcd (ck.nil) (.void M.more ⟨hn1,hn2⟩ (.inl rfl)) (by have:=M.more.sub M.sub (x:=aV (bg Gf) n 9 [] 0) (ps1:=[]) Tdm;simpa using this) hn1 hn2 _ _ _ _ _ _ _ _ _ _ _ _ _ _ _ _ _ _ _ _ _ _ _ _ _ _ _ _ _ _ _ _ _ _ _ _ _ _ _ _ _ _ _ _ _ _ _ _ _ _ _ _ _ _ _ _ _ _ _ _ _ _ _ _ _ _ _ _ _ _ _ _ _ _ _ _ _ _ _ _ _ _ _ _ _ _ _ _ _ _ _ _ _ _ _ _ _ _ _ _ _ _ _ _ _ _ _ _ _ _ _ _ _ _ _ _ _ _ _ _ _ _ _ _ (aa ?_);intro sv' w9 u118 u119 u120 u121 u122 u123 M9;go_wp2;go_roundw
      case rel=>exact ⟨c - 1,_,(Gf++[aV (bg Gf) n 9 [] 0]),_,_,TcI,Tcr,M9⟩
      case measure=>simp [intOf];omega
     ·have M5:fw (fD X w4.heap.size) bs bb nv vv g next w w.heap.size cs [x0] (.slice sp Gf.length mL) Gf ps nx w4.heap.size #[.int .i64 (bg Gf),.int .i64 n,.int .i64 10,.slice none 0 0,.int .i64 0,.slice none 0 0,.string ⟨#[]⟩,.string ⟨#[]⟩,.int .i64 0,.int .i64 0,.int .i64 0] (w4.alloc (.cells (TaB (bg Gf) n) 79)):=⟨M4.fresh (.cells (TaB (bg Gf) n) 79),b9 w4 _,.inr rfl⟩
      have hL4:=M4.hB;have hL5:(Value.slice sp Gf.length mL).ownBlock≠some w4.heap.size:=fun e=>by have:=M4.svLt e;omega
      have Lt:(w4.alloc (.cells (TaB (bg Gf) n) 79)).cell? (Tab w4.heap.size 2)=some (.int .i64 10):=aD rfl rfl
      go_upto_region 19 with (fail)
      clear Lt;generalize hW5:w4.alloc _=W5 at *;generalize Kd:w4.heap.size=L4 at *;clear hW5 Kd
      go_upto_region 19 with (fail)
      refine jW M5 ME Tcd (ck.nil) (.void M.more ⟨hn1,hn2⟩ (.inr rfl)) (by have:=M.more.sub M.sub (x:=aV (bg Gf) n 10 [] 0) (ps1:=[]) Tdm;simpa using this) hn1 hn2 _ _ _ _ _ _ _ _ _ _ _ _ _ _ _ _ _ _ _ _ _ _ _ _ _ _ _ _ _ _ _ _ _ _ _ _ _ _ _ _ _ _ _ _ _ _ _ _ _ _ _ _ _ _ _ _ _ _ _ _ _ _ _ _ _ _ _ _ _ _ _ _ _ _ _ _ _ _ _ _ _ _ _ _ _ _ _ _ _ _ _ _ _ _ _ _ _ _ _ _ _ _ _ _ _ _ _ _ _ _ _ _ _ _ _ _ _ _ _ _ _ _ _ _ (aa ?_);intro sv' w9 u118 u119 u120 u121 u122 u123 M9;go_wp2;go_roundw
      case rel=>exact ⟨c - 1,_,(Gf++[aV (bg Gf) n 10 [] 0]),_,_,TcI,Tcr,M9⟩
      case measure=>simp [intOf];omega
     ·have M5:fw (fD X w4.heap.size) bs bb nv vv g next w w.heap.size cs [x0] (.slice sp Gf.length mL) Gf ps nx w4.heap.size #[.int .i64 (bg Gf),.int .i64 n,.int .i64 8,.slice none 0 0,.int .i64 0,.slice none 0 0,.string ⟨#[]⟩,.string ⟨#[]⟩,.int .i64 0,.int .i64 0,.int .i64 0] (w4.alloc (.cells (TaF (bg Gf) n) 79)):=⟨M4.fresh (.cells (TaF (bg Gf) n) 79),b9 w4 _,.inr rfl⟩
      have hL4:=M4.hB;have hL5:(Value.slice sp Gf.length mL).ownBlock≠some w4.heap.size:=fun e=>by have:=M4.svLt e;omega
      have Lt:(w4.alloc (.cells (TaF (bg Gf) n) 79)).cell? (Tab w4.heap.size 2)=some (.int .i64 8):=aD rfl rfl
      go_upto_region 12 with (fail)
      clear Lt;generalize hW5:w4.alloc _=W5 at *;generalize Kd:w4.heap.size=L4 at *;clear hW5 Kd;refine qB M5 hk n hn1 hn2 _ _ (fun _ _ _ _ _ h=>h) (aa ?_);intro A on s ok ps1 nx1 w5 u60 u61 u62 u63 u64 u65 u66 u67 u68 u69 u70 u71 u72 u73 u74 u75 u76 hA UA gw M6 hX;clear hX M5;cases ok with
      | false =>
       go_wp2;go_roundw
       case rel=>exact ⟨c - 1,_,Gf,_,_,TcI,Tcr,M6.m.drop⟩
       case measure=>simp [intOf];omega
      | true =>
       obtain rfl:=gw rfl;clear gw;obtain ⟨a0,a1,a2⟩:=UN (cr hA)
       obtain ⟨M7,Lc,L6⟩:=M6.lit hL4 hL5 #[.bool false,.string on,.int .i64 s];simp only [xT,List.set_cons_zero,List.set_cons_succ] at M7;have l3:(w5.alloc (.cells (Tau on s) 60)).cell? (Tab L4 3)=some (.slice none 0 0):=by rw [cd (w:=w5) (cj _ _ _ (aq M6.lx))];simp [World.cell?,M6.lx]
       have lf:(w5.alloc (.cells (Tau on s) 60)).frozen? (Tab L4 3)=false:=by rw [rh (w:=w5) (cj _ _ _ (aq M6.lx))];simp [World.frozen?,M6.lx]
       have l2:((w5.alloc (.cells (Tau on s) 60)).setCell (Tab L4 3) (.slice (some w5.heap.size) 1 1)).cell? (Tab L4 2)=some (.int .i64 8):=by simp [World.cell?,M7.lx]
       have HA:=aa hA;clear hA;have Xd:=aa Lc;clear Lc;have Qy:=aa L6;clear L6;have Qx:=aa M7;clear M7 M6
       go_upto_region 16 with (fail)
       clear a0 a1 a2 l3 lf l2;generalize hW7:World.setCell (w5.alloc _) _ _=W7 at *;generalize Xe:w5.heap.size=Sb at *;clear hW7 Xe;have M7:=Qx.o;refine zM M7 hk n hn1 hn2 _ _ (fun _ _ _ _ _ h=>h) (aa ?_);intro A2 on2 s2 ok2 ps2 nx2 w8 v85 v86 v87 v88 v89 v90 v91 v92 v93 v94 v95 v96 v97 v98 v99 v100 v101 hA2 Xf MQ M8 hX;have Lc:=(hX Sb (.inr rfl)).trans Xd.o;clear hX M7 Qx;have M9:=M8.drop (.inr rfl);clear M8;cases ok2 with
       | false =>
        go_wp2;go_roundw
        case rel=>exact ⟨c - 1,_,Gf,_,_,TcI,Tcr,M9.m.drop⟩
        case measure=>simp [intOf];omega
       | true =>
        obtain rfl:=MQ rfl;clear MQ
        go_upto_region 18 with (fail)
        refine yX M9 hL4 hL5 Xf Lc Qy.o hA2 hn1 hn2 _ _ (fun _ _ _ _ _ h=>h) (aa ?_);intro gb cap dn w10 x104 x105 x106 x107 x108 x109 x110 x111 x112 x113 x114 x115 x116 x117 PN SR M10 hR10;clear M9 Lc hA2;have Xg:=aa ((ck.moves aQ.moves).mv (ok':=okB (eO X w.heap.size (.slice sp Gf.length mL)) bb nv vv) ⟨bk _,fun b _ ho=>⟨⟨ho.1,ho.2.1,ho.2.2.1,fun q=>ho.2.2.2 (q.imp .inl (fun z=>z))⟩,rfl⟩⟩ hR10);clear hR10
        go_upto_region 19 with (fail)
        refine jW M10 ME Tcd (Xg.o) (.move M.more ⟨hn1,hn2⟩ ⟨PN,SR⟩) (by have:=M.more.sub M.sub (x:=aV (bg Gf) n 8 [⟨false,on,s⟩,⟨false,on2,s2⟩] dn) (ps1:=[(on,s,n),(on2,s2,n)]) Tdm;rw [cV];exact this) hn1 hn2 _ _ _ _ _ _ _ _ _ _ _ _ _ _ _ _ _ _ _ _ _ _ _ _ _ _ _ _ _ _ _ _ _ _ _ _ _ _ _ _ _ _ _ _ _ _ _ _ _ _ _ _ _ _ _ _ _ _ _ _ _ _ _ _ _ _ _ _ _ _ _ _ _ _ _ _ _ _ _ _ _ _ _ _ _ _ _ _ _ _ _ _ _ _ _ _ _ _ _ _ _ _ _ _ _ _ _ _ _ _ _ _ _ _ _ _ _ _ _ _ _ _ _ _ (aa ?_);intro sv' w9 u118 u119 u120 u121 u122 u123 M9;go_wp2;go_roundw
        case rel=>exact ⟨c - 1,_,(Gf++[aV (bg Gf) n 8 [⟨false,on,s⟩,⟨false,on2,s2⟩] dn]),_,_,TcI,Tcr,M9⟩
        case measure=>simp [intOf];omega
end Go.Proofs.YtjdfihglehfelaaGreatDoor
