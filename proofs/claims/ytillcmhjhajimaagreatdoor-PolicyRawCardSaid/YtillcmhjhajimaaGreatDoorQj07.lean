/- Lemmas: MkR, MkN. -/
import Derived.Test.YtillcmhjhajimaaGreatDoorQj06
set_option maxRecDepth 100000
set_option maxHeartbeats 32000000
set_option linter.all false
namespace Go.Proofs.YtillcmhjhajimaaGreatDoor
open Go.Proofs.Tryz
open Go.RowKit
variable {α:Type}{sz B k:Nat}{t:TypeId}{w w':World}{v:Value}{lengths:List Int}
def TaE(x0:Int)(x1:Int):Tab #[.int .i64 x0,.int .i64 x1,.int .i64 8,.slice none 0 0,.int .i64 0,.slice none 0 0,.string ⟨#[]⟩,.string ⟨#[]⟩,.int .i64 0,.int .i64 0,.int .i64 0]:=⟨⟩
def TaB(x0:Int)(x1:Int):Tab #[.int .i64 x0,.int .i64 x1,.int .i64 10,.slice none 0 0,.int .i64 0,.slice none 0 0,.string ⟨#[]⟩,.string ⟨#[]⟩,.int .i64 0,.int .i64 0,.int .i64 0]:=⟨⟩
def TaD(x0:Int)(x1:Int):Tab #[.int .i64 x0,.int .i64 x1,.int .i64 9,.slice none 0 0,.int .i64 0,.slice none 0 0,.string ⟨#[]⟩,.string ⟨#[]⟩,.int .i64 0,.int .i64 0,.int .i64 0]:=⟨⟩
def TaC(x0:Int)(x1:Int):Tab #[.int .i64 x0,.int .i64 x1,.int .i64 1,.slice none 0 0,.int .i64 0,.slice none 0 0,.string ⟨#[]⟩,.string ⟨#[]⟩,.int .i64 0,.int .i64 0,.int .i64 0]:=⟨⟩
def TaK(x0:ByteArray):Tab #[.string x0,.int .u64 0,.bool false,.bool false,.slice none 0 0,.slice none 0 0]:=⟨⟩
theorem Tee{p:Prop}(h:p:=by simp[iG,aV]):p:=h
theorem Tc2{p:Prop}(h:p:=by rw[show((c-1:Nat):Int)=(c:Int)-1 by omega]):p:=h
theorem Tdm{p:Prop}(h:p:=by first|omega|(simp only[cD,cS,Ox];omega)):p:=h
theorem CE(X:Nat->Prop)(bs bb sb tn tc:Nat)(tp:Option Addr)(nv vv:Value)(g:af)(next:List Int)(w:World)(h:eW X w bs bb nv vv g next)(hk:BOk g next)(name:ByteArray)(id:Int)(hidden ro:Bool)(x0:aB)(hx0:0<=x0.length/\x0.length<=1000)
  (hsv:iL bC 11 (okB X bb nv vv) w (.slice (some sb) 1 1) [x0]) :
  Calls prog 15 #[.pointer (some bb),.agg #[.string name,.int .u64 id,.bool hidden,.bool ro,.slice tp tn tc,.slice (some sb) 1 1]] w (FT X bs bb nv vv g next name id hidden ro (.slice tp tn tc) x0 w):=by
 have k2:=hk.dk.pos;have k3:=hk.dk.le;have hsb:sb<w.heap.size:=by
  obtain⟨b,olds,e,hb,_⟩:=hsv;injection e with e;injection e with e;injection e with e;omega
 go_enter func15,ntmps15;have cX:=h.Gj;have gO:=h.lt
 have c0:∀o p,((w.alloc o).alloc p).cell? bb=some (.pointer (some bs)):=fun o p=>by
  have e:((w.alloc o).alloc p).heap[bb]?=w.heap[bb]?:=by rw[cj _ _ _ TcS,cj _ _ _ cX]
  exact(cd (w:=w) e).trans h.c0
 generalize hcs:(fun v:Value=>#[Value.string name,.int .u64 id,.bool hidden,.bool ro,.slice tp tn tc,v])=cs;have SS:∀v,cs v=#[.string name,.int .u64 id,.bool hidden,.bool ro,.slice tp tn tc,v]:=fun v=>by rw[<- hcs]
 have ME:=aa SS;clear SS hcs;have M0:yy X bs bb nv vv g next w w.heap.size cs [x0] (.slice (some sb) 1 1) [x0] [] next ((w.alloc (.cells #[.string name,.int .u64 id,.bool hidden,.bool ro,.slice tp tn tc,.slice (some sb) 1 1] 57)).alloc (.cells (TaK es) 57)):=by
  have hb:Below w.heap.size w ((w.alloc (.cells #[.string name,.int .u64 id,.bool hidden,.bool ro,.slice tp tn tc,.slice (some sb) 1 1] 57)).alloc (.cells (TaK es) 57)):=((bj _ _).alloc (bk _) _).alloc TcO _;have hno:∀k,eO X w.heap.size (.slice (some sb) 1 1) k->X k\/k=w.heap.size\/k=w.heap.size+1:=by
   rintro k (q|q|q|q)
   ·exact .inl q
   ·exact .inr (.inl q)
   ·exact .inr (.inr q)
   obtain rfl:sb=k:=by injection q.1
   have:=q.2;omega
  refine⟨(aH.refl h).fresh hb (fun k hk=>?_),?_,⟨#[.string es,.int .u64 0,.bool false,.bool false,.slice none 0 0,.slice none 0 0],rfl,?_⟩,.inl ⟨hsv.moves bC.moves ⟨hb.size,fun b hb' ho=>⟨⟨ho.1,ho.2.1,ho.2.2.1,fun q=>?_⟩,hb.block b hb'⟩⟩,fun b e=>?_⟩,.nil,.nil _,TcO,fun x hx=>?_,bk _,TcO⟩
  ·rcases hno k hk with q|q|q
   ·exact .inl q
   ·exact .inr ⟨TcN,TcS⟩
   exact .inr ⟨TcN,TcS⟩
  ·rw[cj _ _ _ TcO,b9,ME.o]
  ·have:=b9 (w.alloc (.cells #[.string name,.int .u64 id,.bool hidden,.bool ro,.slice tp tn tc,.slice (some sb) 1 1] 57)) (.cells (TaK es) 57);rw[cW]at this;exact this
  ·rcases hno b q with q|q|q
   ·exact ho.2.2.2 q
   ·omega
   omega
  ·obtain rfl:sb=b:=by injection e
   omega
  simp only[dr,cY,dg]at hx;rw[hx];exact hx0
 go_wp2_with fail;refine(bY bs 3 _ TcN TcN M0.post.bld.src).mono ?_;rintro e w1 ⟨cv,rfl,hc1,hc2,hs1,hm1⟩;have M1:=M0.read hs1 hm1;clear hm1 hs1 c0 M0 hsv;obtain⟨c,rfl⟩:∃u:Nat,cv=u:=⟨cv.toNat,TcN⟩;go_wp2
 go_loopw[5] (fun i wr=>∃(c:Nat) (sv:Value) (Gf:List aB) (ps:List (ByteArray × Int × Int)) (nx:List Int),c+Gf.length<=3/\i=.int .i64 c/\yy X bs bb nv vv g next w w.heap.size cs [x0] sv Gf ps nx wr) (fun i _=>(intOf i).toNat)
 exact⟨c,_,_,_,_,TcS,rfl,M1⟩;obtain⟨c,sv,Gf,ps,nx,XJ,rfl,M⟩:=hrel;have GF:Gf.length<=3:=by omega
 obtain⟨sp,mL,PO,s1,s2,s3⟩:=(M.st.rd bC.moves TcQ (ok':=fun _=>True) (fun _ _ _=>trivial) (fun _ _=>trivial)).form;subst PO;have HS3:=aa s3;clear s3;by_cases hc0:c=0
 ·subst hc0;have PQ:wr.heap[w.heap.size]?=some (.cells #[.string name,.int .u64 id,.bool hidden,.bool ro,.slice tp tn tc,.slice sp Gf.length mL] 57 (0,0)):=by rw[<- ME.o];exact M.bv
  have qL:=cr PQ;obtain⟨q0,q1,q2,q3,q4,q5⟩:=sv6 qL;obtain⟨zs,hzs,hr⟩:=M.br;obtain⟨z0,z1,z2,z3,z4,z5,rfl⟩:∃z0 z1 z2 z3 z4 z5,zs=#[z0,z1,z2,z3,z4,z5]:=by
   obtain⟨l⟩:=zs
   match l,hzs with
   |[a,b,c,d,e,f],_=>exact⟨a,b,c,d,e,f,rfl⟩
  obtain⟨r0,r1,r2,r3,r4,r5⟩:=sv6 (cr hr);have rf:=sr hr;have HQ:=aa qL;clear qL;have HR:=aa hr;clear hr;have VD:=aa PQ;clear PQ;have RD:b6 bC 11 (fun b=>okB X bb nv vv b/\b≠w.heap.size+1) wr [.slice sp Gf.length mL] Gf:=M.st.rd bC.moves TcQ (fun b _ ho=>⟨⟨ho.1,ho.2.1,ho.2.2.1,fun q=>ho.2.2.2 (.inl q)⟩,fun e=>ho.2.2.2 (.inr (.inr (.inl e)))⟩) (fun b hb=>by
   have hy:eO X w.heap.size (.slice sp Gf.length mL) b:=.inr (.inr (.inr hb));have:=hb.2;exact⟨⟨(M.post.bld.xlt b hy).1,fun q=>M.post.bld.xn b q hy,fun q=>M.post.bld.xv b q hy,fun q=>by have:=(h.xlt b q).2;omega⟩,TcN⟩)
  have PP:aH X bs bb nv vv w ((((((wr.setCell (Tac (w.heap.size+1) 0) (.string name)).setCell (Tac (w.heap.size+1) 1) (.int .u64 id)).setCell (Tac (w.heap.size+1) 2) (.bool hidden)).setCell (Tac (w.heap.size+1) 3) (.bool ro)).setCell (Tac (w.heap.size+1) 4) (.slice tp tn tc)).setCell (Tac (w.heap.size+1) 5) (.slice sp Gf.length mL)) nv vv g nx :=
   ((((((M.post.put _ 0 _ (.inr (.inr (.inl rfl))) TcN).put _ 1 _ (.inr (.inr (.inl rfl))) TcN).put _ 2 _ (.inr (.inr (.inl rfl))) TcN).put _ 3 _ (.inr (.inr (.inl rfl))) TcN).put _ 4 _ (.inr (.inr (.inl rfl))) TcN).put _ 5 _ (.inr (.inr (.inl rfl))) TcN).fewer (fun k hk=>.inl hk)
  have RF:b6 bC 11 (okB X bb nv vv) ((((((wr.setCell (Tac (w.heap.size+1) 0) (.string name)).setCell (Tac (w.heap.size+1) 1) (.int .u64 id)).setCell (Tac (w.heap.size+1) 2) (.bool hidden)).setCell (Tac (w.heap.size+1) 3) (.bool ro)).setCell (Tac (w.heap.size+1) 4) (.slice tp tn tc)).setCell (Tac (w.heap.size+1) 5) (.slice sp Gf.length mL)) [.slice sp Gf.length mL] Gf :=
   (b6.moves bC.moves).mv ⟨TcY,fun b _ ho=>⟨ho.1,by rw[bw _ _ _ _ ho.2,bw _ _ _ _ ho.2,bw _ _ _ _ ho.2,bw _ _ _ _ ho.2,bw _ _ _ _ ho.2,bw _ _ _ _ ho.2]⟩⟩ RD
  have HPP:=aa PP;clear PP;have HRF:=aa RF;clear RF RD;go_wp2;refine eC (v:=.agg #[.string name,.int .u64 id,.bool hidden,.bool ro,.slice tp tn tc,.slice sp Gf.length mL]) (by simp[results,Tryz.results15,go_sem,r0,r1,r2,r3,r4,r5]) rfl ⟨_,Gf,ps,nx,rfl,M.more,GF,M.took,M.sub,HPP.o,HRF.o⟩
 have dk:=M.took.ok hk.dk;have PQ:wr.heap[w.heap.size]?=some (.cells #[.string name,.int .u64 id,.bool hidden,.bool ro,.slice tp tn tc,.slice sp Gf.length mL] 57 (0,0)):=by rw[<- ME.o];exact M.bv
 have q5:=cr PQ 5 _ rfl;have VD:=aa PQ;clear PQ;have hd0:decide ((0:Int)<(c:Int))=true:=by simp;omega
 go_wp2;go_loop[6,7] (fun s i=>∃k:Nat,k<=Gf.length/\i=.int .i64 k/\s=.int .i64 (bg (Gf.take k))) (fun _ i=>Gf.length-(intOf i).toNat)
 exact⟨0,TcN,rfl,rfl⟩;obtain⟨k,Tt,rfl,rfl⟩:=hrel;have SU:=Bb (Gf.take k) (fun x hx=>M.len x (tR hx));have Xa:((Gf.take k).length:Int)<=3:=by rw[ey];omega
 have Xb:=SU.1;have Xc:bg (Gf.take k)<=3000:=by omega
 clear SU Xa;by_cases hlt:k<Gf.length
 ·obtain⟨b,off,rfl,hb,_,hcv⟩:=HS3.o TcN;obtain⟨y,hy⟩:=aj Gf k hlt;have Nz:=M.len y (ct hy);have ad4:=Nz.1;have ad5:=Nz.2;have hcy:wr.cell? (b,off+k*11+1)=some (.int .i64 y.length):=by
   obtain⟨u,_,⟨a,t,rfl,_⟩,hc⟩:=hcv k y hy;exact hc 1 _ rfl
  have V2:=aa (om Gf k y hy);clear hcv hy Nz;go_wp2;go_round;exact⟨k+1,TcN,TcR,by rw[V2.o]⟩;simp[intOf];omega
 obtain rfl:k=Gf.length:=by omega
 rw[cI]at Xb Xc ⊢;have c0:=M.post.bld.c0;go_wp2_with fail;refine(bO bs 1 3 _ TcN TcN TcN M.post.bld.src).mono ?_;rintro e w2 ⟨n,rfl,hn1,hn2,hs2,hm2⟩;have M2:=M.read hs2 hm2;clear hm2 hs2 c0 q5;have c0:=M2.post.bld.c0;have M3:=M2.below (ae w2 (.cells #[.int .i64 1,.int .i64 9,.int .i64 10,.int .i64 8] 3));have hb2:=M2.post.bld.Gj;have Q7:=M2.post.bld.lt;have Zc:ig (w2.alloc (.cells #[.int .i64 1,.int .i64 9,.int .i64 10,.int .i64 8] 3)) w2.heap.size 0 [1,9,10,8]:=mo w2 _ [1,9,10,8];have UF:=aa Zc;clear Zc;go_wp2_with fail;refine(jD bs w2.heap.size 4 [1,9,10,8] _ TcO TcO TcO TcN TcO TcN UF.o M3.post.bld.src).mono ?_;rintro e w4 ⟨kd,rfl,zE,hs4,hm4⟩;have M4:=M3.read hs4 hm4;clear hm4 hs4 c0 M2 M3;simp only[dr,cY,dg]at zE;rcases zE with rfl|rfl|rfl|rfl
 ·have M5:fw (fD X w4.heap.size) bs bb nv vv g next w w.heap.size cs [x0] (.slice sp Gf.length mL) Gf ps nx w4.heap.size #[.int .i64 (bg Gf),.int .i64 n,.int .i64 1,.slice none 0 0,.int .i64 0,.slice none 0 0,.string ⟨#[]⟩,.string ⟨#[]⟩,.int .i64 0,.int .i64 0,.int .i64 0] (w4.alloc (.cells (TaC (bg Gf) n) 88)):=⟨M4.fresh (.cells (TaC (bg Gf) n) 88),b9 w4 _,.inr rfl⟩
  have hL4:=M4.hB;have hL5:(Value.slice sp Gf.length mL).ownBlock≠some w4.heap.size:=fun e=>by have:=M4.svLt e;omega
  have hxk:(w4.alloc (.cells (TaC (bg Gf) n) 88)).cell? (Tac w4.heap.size 2)=some (.int .i64 1):=aD rfl rfl;go_upto_region 12 with(fail);clear hxk;generalize hW5:w4.alloc _=W5 at *;generalize Kd:w4.heap.size=L4 at *;clear hW5 Kd;refine qB M5 hk n hn1 hn2 _ _ (fun _ _ _ _ _ h=>h) (aa ?_);intro A on s ok ps1 nx1 w5 u60 u61 u62 u63 u64 u65 u66 u67 u68 u69 u70 u71 u72 u73 u74 u75 u76 hA UA gw M6 hX;clear hX M5;cases ok with
  |false =>
   go_wp2;go_roundw;exact⟨c-1,_,Gf,_,_,Tdm,Tc2,M6.m.drop⟩;simp[intOf];omega
  |true =>
   obtain rfl:=gw rfl;clear gw;obtain⟨a0,a1,a2⟩:=sv3 (cr hA);obtain⟨M7,hSb,aD6⟩:=M6.lit hL4 hL5 #[.bool false,.string on,.int .i64 s];simp only[xT,List.set_cons_zero,List.set_cons_succ]at M7;have l3:(w5.alloc (.cells (Tas on s) 83)).cell? (Tac L4 3)=some (.slice none 0 0):=by rw[cd (w:=w5) (cj _ _ _ (aq M6.lx))];simp[World.cell?,M6.lx]
   have lf:(w5.alloc (.cells (Tas on s) 83)).frozen? (Tac L4 3)=false:=by rw[rh (w:=w5) (cj _ _ _ (aq M6.lx))];simp[World.frozen?,M6.lx]
   have l2:((w5.alloc (.cells (Tas on s) 83)).setCell (Tac L4 3) (.slice (some w5.heap.size) 1 1)).cell? (Tac L4 2)=some (.int .i64 1):=by simp[World.cell?,M7.lx]
   have HA:=aa hA;clear hA;have Xd:=aa hSb;clear hSb;have Qy:=aa aD6;clear aD6;have Qx:=aa M7;clear M7 M6;go_upto_region 19 with(fail);clear a0 a1 a2 l3 lf l2;generalize hW7:World.setCell (w5.alloc _) _ _=W7 at *;generalize Xe:w5.heap.size=Sb at *;clear hW7 Xe;have M7:=Qx.o;go_upto_region 19 with(fail);refine jW (M7.drop (.inr rfl)) ME TcN (b6.one (V:=aQ) (u:=[.bool false,.string on,.int .i64 s]) (x:=(⟨false,on,s⟩:aR)) Xd.o ⟨Qy.o.1,Qy.o.2.1,Qy.o.2.2.1,fun q=>Qy.o.2.2.2 (q.imp .inl (fun z=>z))⟩ rfl (show _=_ from rfl)) (.lin M.more ⟨hn1,hn2⟩) (M.more.sub M.sub (x:=aV (bg Gf) n 1 [⟨false,on,s⟩] 0) Tee) hn1 hn2 _ _ _ _ _ _ _ _ _ _ _ _ _ _ _ _ _ _ _ _ _ _ _ _ _ _ _ _ _ _ _ _ _ _ _ _ _ _ _ _ _ _ _ _ _ _ _ _ _ _ _ _ _ _ _ _ _ _ _ _ _ _ _ _ _ _ _ _ _ _ _ _ _ _ _ _ _ _ _ _ _ _ _ _ _ _ _ _ _ _ _ _ _ _ _ _ _ _ _ _ _ _ _ _ _ _ _ _ _ _ _ _ _ _ _ _ _ _ _ _ _ _ _ _ (aa ?_);intro sv' w9 u118 u119 u120 u121 u122 u123 M9;go_wp2;go_roundw;exact⟨c-1,_,(Gf++[aV (bg Gf) n 1 [⟨false,on,s⟩] 0]),_,_,Tdm,Tc2,M9⟩;simp[intOf];omega
 ·have M5:fw (fD X w4.heap.size) bs bb nv vv g next w w.heap.size cs [x0] (.slice sp Gf.length mL) Gf ps nx w4.heap.size #[.int .i64 (bg Gf),.int .i64 n,.int .i64 9,.slice none 0 0,.int .i64 0,.slice none 0 0,.string ⟨#[]⟩,.string ⟨#[]⟩,.int .i64 0,.int .i64 0,.int .i64 0] (w4.alloc (.cells (TaD (bg Gf) n) 88)):=⟨M4.fresh (.cells (TaD (bg Gf) n) 88),b9 w4 _,.inr rfl⟩
  have hL4:=M4.hB;have hL5:(Value.slice sp Gf.length mL).ownBlock≠some w4.heap.size:=fun e=>by have:=M4.svLt e;omega
  have hxk:(w4.alloc (.cells (TaD (bg Gf) n) 88)).cell? (Tac w4.heap.size 2)=some (.int .i64 9):=aD rfl rfl;go_upto_region 19 with(fail);clear hxk;generalize hW5:w4.alloc _=W5 at *;generalize Kd:w4.heap.size=L4 at *;clear hW5 Kd;go_upto_region 19 with(fail);refine jW M5 ME TcN (b6.nil) (.void M.more ⟨hn1,hn2⟩ (.inl rfl)) (by have:=M.more.sub M.sub (x:=aV (bg Gf) n 9 [] 0) (ps1:=[]) Tee;simpa using this) hn1 hn2 _ _ _ _ _ _ _ _ _ _ _ _ _ _ _ _ _ _ _ _ _ _ _ _ _ _ _ _ _ _ _ _ _ _ _ _ _ _ _ _ _ _ _ _ _ _ _ _ _ _ _ _ _ _ _ _ _ _ _ _ _ _ _ _ _ _ _ _ _ _ _ _ _ _ _ _ _ _ _ _ _ _ _ _ _ _ _ _ _ _ _ _ _ _ _ _ _ _ _ _ _ _ _ _ _ _ _ _ _ _ _ _ _ _ _ _ _ _ _ _ _ _ _ _ (aa ?_);intro sv' w9 u118 u119 u120 u121 u122 u123 M9;go_wp2;go_roundw;exact⟨c-1,_,(Gf++[aV (bg Gf) n 9 [] 0]),_,_,Tdm,Tc2,M9⟩;simp[intOf];omega
 ·have M5:fw (fD X w4.heap.size) bs bb nv vv g next w w.heap.size cs [x0] (.slice sp Gf.length mL) Gf ps nx w4.heap.size #[.int .i64 (bg Gf),.int .i64 n,.int .i64 10,.slice none 0 0,.int .i64 0,.slice none 0 0,.string ⟨#[]⟩,.string ⟨#[]⟩,.int .i64 0,.int .i64 0,.int .i64 0] (w4.alloc (.cells (TaB (bg Gf) n) 88)):=⟨M4.fresh (.cells (TaB (bg Gf) n) 88),b9 w4 _,.inr rfl⟩
  have hL4:=M4.hB;have hL5:(Value.slice sp Gf.length mL).ownBlock≠some w4.heap.size:=fun e=>by have:=M4.svLt e;omega
  have hxk:(w4.alloc (.cells (TaB (bg Gf) n) 88)).cell? (Tac w4.heap.size 2)=some (.int .i64 10):=aD rfl rfl;go_upto_region 19 with(fail);clear hxk;generalize hW5:w4.alloc _=W5 at *;generalize Kd:w4.heap.size=L4 at *;clear hW5 Kd;go_upto_region 19 with(fail);refine jW M5 ME TcN (b6.nil) (.void M.more ⟨hn1,hn2⟩ (.inr rfl)) (by have:=M.more.sub M.sub (x:=aV (bg Gf) n 10 [] 0) (ps1:=[]) Tee;simpa using this) hn1 hn2 _ _ _ _ _ _ _ _ _ _ _ _ _ _ _ _ _ _ _ _ _ _ _ _ _ _ _ _ _ _ _ _ _ _ _ _ _ _ _ _ _ _ _ _ _ _ _ _ _ _ _ _ _ _ _ _ _ _ _ _ _ _ _ _ _ _ _ _ _ _ _ _ _ _ _ _ _ _ _ _ _ _ _ _ _ _ _ _ _ _ _ _ _ _ _ _ _ _ _ _ _ _ _ _ _ _ _ _ _ _ _ _ _ _ _ _ _ _ _ _ _ _ _ _ (aa ?_);intro sv' w9 u118 u119 u120 u121 u122 u123 M9;go_wp2;go_roundw;exact⟨c-1,_,(Gf++[aV (bg Gf) n 10 [] 0]),_,_,Tdm,Tc2,M9⟩;simp[intOf];omega
 have M5:fw (fD X w4.heap.size) bs bb nv vv g next w w.heap.size cs [x0] (.slice sp Gf.length mL) Gf ps nx w4.heap.size #[.int .i64 (bg Gf),.int .i64 n,.int .i64 8,.slice none 0 0,.int .i64 0,.slice none 0 0,.string ⟨#[]⟩,.string ⟨#[]⟩,.int .i64 0,.int .i64 0,.int .i64 0] (w4.alloc (.cells (TaE (bg Gf) n) 88)):=⟨M4.fresh (.cells (TaE (bg Gf) n) 88),b9 w4 _,.inr rfl⟩
 have hL4:=M4.hB;have hL5:(Value.slice sp Gf.length mL).ownBlock≠some w4.heap.size:=fun e=>by have:=M4.svLt e;omega
 have hxk:(w4.alloc (.cells (TaE (bg Gf) n) 88)).cell? (Tac w4.heap.size 2)=some (.int .i64 8):=aD rfl rfl;go_upto_region 12 with(fail);clear hxk;generalize hW5:w4.alloc _=W5 at *;generalize Kd:w4.heap.size=L4 at *;clear hW5 Kd;refine qB M5 hk n hn1 hn2 _ _ (fun _ _ _ _ _ h=>h) (aa ?_);intro A on s ok ps1 nx1 w5 u60 u61 u62 u63 u64 u65 u66 u67 u68 u69 u70 u71 u72 u73 u74 u75 u76 hA UA gw M6 hX;clear hX M5;cases ok with
 |false =>
  go_wp2;go_roundw;exact⟨c-1,_,Gf,_,_,Tdm,Tc2,M6.m.drop⟩;simp[intOf];omega
 |true =>
  obtain rfl:=gw rfl;clear gw;obtain⟨a0,a1,a2⟩:=sv3 (cr hA);obtain⟨M7,hSb,aD6⟩:=M6.lit hL4 hL5 #[.bool false,.string on,.int .i64 s];simp only[xT,List.set_cons_zero,List.set_cons_succ]at M7;have l3:(w5.alloc (.cells (Tas on s) 83)).cell? (Tac L4 3)=some (.slice none 0 0):=by rw[cd (w:=w5) (cj _ _ _ (aq M6.lx))];simp[World.cell?,M6.lx]
  have lf:(w5.alloc (.cells (Tas on s) 83)).frozen? (Tac L4 3)=false:=by rw[rh (w:=w5) (cj _ _ _ (aq M6.lx))];simp[World.frozen?,M6.lx]
  have l2:((w5.alloc (.cells (Tas on s) 83)).setCell (Tac L4 3) (.slice (some w5.heap.size) 1 1)).cell? (Tac L4 2)=some (.int .i64 8):=by simp[World.cell?,M7.lx]
  have HA:=aa hA;clear hA;have Xd:=aa hSb;clear hSb;have Qy:=aa aD6;clear aD6;have Qx:=aa M7;clear M7 M6;go_upto_region 16 with(fail);clear a0 a1 a2 l3 lf l2;generalize hW7:World.setCell (w5.alloc _) _ _=W7 at *;generalize Xe:w5.heap.size=Sb at *;clear hW7 Xe;have M7:=Qx.o;refine zM M7 hk n hn1 hn2 _ _ (fun _ _ _ _ _ h=>h) (aa ?_);intro A2 on2 s2 ok2 ps2 nx2 w8 v85 v86 v87 v88 v89 v90 v91 v92 v93 v94 v95 v96 v97 v98 v99 v100 v101 hA2 Xf MQ M8 hX;have hSb:=(hX Sb (.inr rfl)).trans Xd.o;clear hX M7 Qx;have M9:=M8.drop (.inr rfl);clear M8;cases ok2 with
  |false =>
   go_wp2;go_roundw;exact⟨c-1,_,Gf,_,_,Tdm,Tc2,M9.m.drop⟩;simp[intOf];omega
  |true =>
   obtain rfl:=MQ rfl;clear MQ;go_upto_region 18 with(fail);refine yX M9 hL4 hL5 Xf hSb Qy.o hA2 hn1 hn2 _ _ (fun _ _ _ _ _ h=>h) (aa ?_);intro gb cap dn w10 x104 x105 x106 x107 x108 x109 x110 x111 x112 x113 x114 x115 x116 x117 PN SR M10 hR10;clear M9 hSb hA2;have Xg:=aa ((b6.moves aQ.moves).mv (ok':=okB (eO X w.heap.size (.slice sp Gf.length mL)) bb nv vv) ⟨bk _,fun b _ ho=>⟨⟨ho.1,ho.2.1,ho.2.2.1,fun q=>ho.2.2.2 (q.imp .inl (fun z=>z))⟩,rfl⟩⟩ hR10);clear hR10;go_upto_region 19 with(fail);refine jW M10 ME TcN (Xg.o) (.move M.more ⟨hn1,hn2⟩ ⟨PN,SR⟩) (by have:=M.more.sub M.sub (x:=aV (bg Gf) n 8 [⟨false,on,s⟩,⟨false,on2,s2⟩] dn) (ps1:=[(on,s,n),(on2,s2,n)]) Tee;rw[cV];exact this) hn1 hn2 _ _ _ _ _ _ _ _ _ _ _ _ _ _ _ _ _ _ _ _ _ _ _ _ _ _ _ _ _ _ _ _ _ _ _ _ _ _ _ _ _ _ _ _ _ _ _ _ _ _ _ _ _ _ _ _ _ _ _ _ _ _ _ _ _ _ _ _ _ _ _ _ _ _ _ _ _ _ _ _ _ _ _ _ _ _ _ _ _ _ _ _ _ _ _ _ _ _ _ _ _ _ _ _ _ _ _ _ _ _ _ _ _ _ _ _ _ _ _ _ _ _ _ _ (aa ?_);intro sv' w9 u118 u119 u120 u121 u122 u123 M9;go_wp2;go_roundw;exact⟨c-1,_,(Gf++[aV (bg Gf) n 8 [⟨false,on,s⟩,⟨false,on2,s2⟩] dn]),_,_,Tdm,Tc2,M9⟩;simp[intOf];omega
structure Loc(w:World)(B Lx Ln Ll:Nat)(ft fx av:Value)(names:List ByteArray)(lengths:List Int)(Ga:List aR)(xs:Value->Array Value):Prop where
 bn:w.heap[Ln]?=some (.cells #[ft] 27 (0,0))
 bl:w.heap[Ll]?=some (.cells #[fx] 22 (0,0))
 bx:w.heap[Lx]?=some (.cells (xs av) 88 (0,0))
 on:bF aF 1 9 B (fun _=>False) w ft names
 ol:bF cO 1 3 B (fun _=>False) w fx lengths
 oa:bF aQ 3 83 B (fun _=>False) w av Ga
 nl:∀k,ft.ownBlock=some k->fx.ownBlock≠some k
 na:∀k,ft.ownBlock=some k->av.ownBlock≠some k
 la:∀k,fx.ownBlock=some k->av.ownBlock≠some k
 d1:Lx<Ln
 d2:Ln<Ll
 d3:Ll<B
def nJ(Lx Ln Ll:Nat)(ft fx av:Value):Nat->Prop:=fun k=>k=Lx\/k=Ln\/k=Ll\/ft.ownBlock=some k\/fx.ownBlock=some k\/av.ownBlock=some k
theorem bF.ge{V:jx α}{ok:Nat->Prop}{l:List α}(h:bF V sz t B ok w v l)(e:v.ownBlock=some k):B<=k/\k<w.heap.size:=by
 exact Tcs
theorem bF.Gl{V:jx α}(hV:Moves V){l:List α}(h:bF V sz t B (fun _=>False) w v l)(hz:w.heap.size<=w'.heap.size)(hk:∀k,v.ownBlock=some k->w'.heap[k]?=w.heap[k]?):bF V sz t B (fun _=>False) w' v l:=by
 obtain⟨cs,ho,hf⟩:=h;exact⟨cs,aC ho hk,Flat.moves hV ⟨hz,fun _ _ f=>f.elim⟩ _ _ hf⟩
theorem bF.ty{V:jx α}{ok:Nat->Prop}{l:List α}(h:bF V sz t B ok w v l)(e:v.ownBlock=some k):∃cs,w.heap[k]?=some (.cells cs t (0,0)):=by
 obtain⟨cs,⟨_,h2⟩,_⟩:=h;rcases h2 with⟨rfl,_⟩|⟨g,cap,cur,rfl,_,hg,_⟩
 ·cases e
 obtain rfl:g=k:=by injection e
 exact⟨cur,hg⟩
theorem bF.ne{β:Type}{V:jx α}{V':jx β}{sz' B':Nat}{t':TypeId}{ok ok':Nat->Prop}{v':Value}{l:List α}{l':List β}(h:bF V sz t B ok w v l)(h':bF V' sz' t' B' ok' w v' l')(ht:t≠t'):∀k,v.ownBlock=some k->v'.ownBlock≠some k:=fun k e e'=>by
 obtain⟨c,hc⟩:=h.ty e;obtain⟨c',hc'⟩:=h'.ty e';rw[hc]at hc';injection hc' with hc';injection hc' with _ q _;exact ht q
theorem bF.form{V:jx α}{ok:Nat->Prop}{l:List α}(h:bF V sz t B ok w v l):∃p cap,v=.slice p l.length cap/\l.length<=cap/\cap<=9223372036854775807:=by
 obtain⟨cs,⟨_,h2⟩,_⟩:=h;rcases h2 with⟨rfl,hn⟩|⟨g,cap,cur,rfl,_,_,vr,hcm,_⟩
 ·exact⟨none,0,by rw[hn],TcN,TcN⟩
 exact⟨_,cap,rfl,vr,Tc4⟩
theorem Loc.keep{Lx Ln Ll:Nat}{ft fx av:Value}{names:List ByteArray}{Ga:List aR}{xs:Value->Array Value}(h:Loc w B Lx Ln Ll ft fx av names lengths Ga xs)(hz:w.heap.size<=w'.heap.size)(hk:∀k,nJ Lx Ln Ll ft fx av k->w'.heap[k]?=w.heap[k]?):Loc w' B Lx Ln Ll ft fx av names lengths Ga xs :=
 ⟨(hk Ln (.inr (.inl rfl))).trans h.bn,(hk Ll (.inr (.inr (.inl rfl)))).trans h.bl,(hk Lx (.inl rfl)).trans h.bx,h.on.Gl aF.moves hz (fun k e=>hk k (.inr (.inr (.inr (.inl e))))),h.ol.Gl cO.moves hz (fun k e=>hk k (.inr (.inr (.inr (.inr (.inl e)))))),h.oa.Gl aQ.moves hz (fun k e=>hk k (.inr (.inr (.inr (.inr (.inr e)))))),h.nl,h.na,h.la,h.d1,h.d2,h.d3⟩
structure FO(w:World)(B Lx Ln Ll:Nat)(ft fx av:Value)(names:List ByteArray)(lengths:List Int)(Ga:List aR)(xs:Value->Array Value)(s:ByteArray)(n:Int)(ar3 Kf av':Value)(w':World):Prop where
 loc:Loc w' B Lx Ln Ll ar3 Kf av' (names++[s]) (lengths++[n]) (Ga++[⟨true,s,0⟩]) xs
 mod:cR (nJ Lx Ln Ll ft fx av) w w'
 fr:∀k,nJ Lx Ln Ll ar3 Kf av' k->nJ Lx Ln Ll ft fx av k\/(w.heap.size<=k/\k<w'.heap.size)
theorem jA(h:w.grownBy w' v.ownBlock):cR (fun k=>v.ownBlock=some k) w w':=⟨h.os,h.tape,h.output,h.size,fun k hk hn=>h.block k hk fun e=>hn e.symm⟩
theorem Tbn{p:Prop}(h:p:=by
 have hk5:=(NC.ge q).2;obtain rfl:g2=k:=by injection q
 rcases t2 with q1|q1
 ·exact .inl (.inr (.inr (.inr (.inr (.inl q1)))))
 exact .inr ⟨TcN,hk5⟩):p:=h
theorem Tbs{p:Prop}(h:p:=by
 have hk5:=(on5.ge q).2;obtain rfl:g1=k:=by injection q
 rcases t1 with q1|q1
 ·exact .inl (.inr (.inr (.inr (.inl q1))))
 exact .inr ⟨TcN,hk5⟩):p:=h
theorem Ta9{p:Prop}(h:p:=by
 rw[<- hW];exact((hm.mono (G:=nJ Lx Ln Ll ft fx av) (fun k q=>q.elim (fun q=>.inr (.inr (.inr (.inl q)))) (fun q=>.inr (.inr (.inr (.inr (.inl q))))))).setCell (p:=Ln) (.inl (.inr (.inl rfl))) _).setCell (p:=Ll) (.inl (.inr (.inr (.inl rfl)))) _):p:=h
theorem Tci{p:Prop}(h:p:=by
 rw[<- hW];exact block_setCell (cs:=#[_]) (i:=0) _ ((bw _ _ _ _ (Ne.symm x1)).trans bl)):p:=h
theorem Tbf{p:Prop}(h:p:=by
 refine⟨fun q=>(hC.1 q).Gl aF.moves hp.grown.size (fun k e=>hp.grown.block k ((hC.1 q).ge e).2 (fun e'=>hd.nl k e e'.symm)),fun q=>by simp at q,hC.2.2.trans (jA hp.grown) (fun k e=>.inl (.inr e))⟩):p:=h
theorem TbV{p:Prop}(h:p:=by
 obtain rfl:gb=k:=by injection ek
 rcases hat with q|q
 ·exact hd.nl gb q e7
 have:=(hd.ol.ge e7).2;omega):p:=h
theorem Tbe{p:Prop}(h:p:=by
 refine⟨fun q=>by simp at q,fun q=>(hC.2.1 q).Gl cO.moves hp.grown.size (fun k e=>hp.grown.block k ((hC.2.1 q).ge e).2 (fun e'=>hd.nl k e'.symm e)),hC.2.2.trans (jA hp.grown) (fun k e=>.inl (.inl e))⟩):p:=h
theorem Tco{p:Prop}(h:p:=by
 simp only[World.cell?,hb.2];simpa using hy):p:=h
theorem TbW{p:Prop}(h:p:=by
 obtain rfl:gb=k:=by injection ek
 rcases hat with q|q
 ·exact hd.nl gb e3 q
 have:=(hd.on.ge e3).2;omega):p:=h
theorem Tbg{p:Prop}(h:p:=by
 exact⟨fun q=>(hC.1 q).Gl aF.moves TcO (fun k e=>cj _ _ _ ((hC.1 q).ge e).2),fun q=>(hC.2.1 q).Gl cO.moves TcO (fun k e=>cj _ _ _ ((hC.2.1 q).ge e).2),hC.2.2.alloc _⟩):p:=h
theorem TdZ{p:Prop}(h:p:=by have:=(oa.ge e).1;omega):p:=h
theorem Td0{p:Prop}(h:p:=by have:=(o2.ge e).1;omega):p:=h
theorem Td1{p:Prop}(h:p:=by have:=(o1.ge e).1;omega):p:=h
theorem jM(w:World)(B Lx Ln Ll:Nat)(ft fx av:Value)(names:List ByteArray)(lengths:List Int)(Ga:List aR)(xs:Value->Array Value)(x0 x1 x2 x4 x5 x6 x7 x8 x9 x10:Value)(hxs:∀v,xs v=#[x0,x1,x2,v,x4,x5,x6,x7,x8,x9,x10])(h:Loc w B Lx Ln Ll ft fx av names lengths Ga xs)(hB:B<=w.heap.size)(s:ByteArray)(n:Int)(hn:names.length<=100)(hl:lengths.length<=100)(ha:Ga.length<=100) :
  Calls prog 37 #[.string s,.int .i64 n,.pointer (some Ln),.pointer (some Ll),.pointer (some Lx)] w (fun e w'=>e=.returned (.tuple #[])/\∃ar3 Kf av',FO w B Lx Ln Ll ft fx av names lengths Ga xs s n ar3 Kf av' w'):=by
 have cn:=cr h.bn 0 _ rfl;have cl:=cr h.bl 0 _ rfl;have hd1:=h.d1;have hd2:=h.d2;have hd3:=h.d3;go_enter func37,ntmps37;go_wp2;refine aZ (fun w'=>w'.cell? Ln=some ft/\w'.cell? Ll=some fx) 8 [1,5] TcP ⟨cn,cl⟩ (fun hHeld=>?_);refine fz 1 ?_;refine fz 5 ?_;refine fS 0 hHeld ?_;refine fS 4 hHeld ?_;have hd:Loc w.drew B Lx Ln Ll ft fx av names lengths Ga xs:=h.keep (bk _) (fun _ _=>rfl);have Gk:cR (fun _=>False) w w.drew:=(cR.refl _ _).drewN 1;have hBd:B<=w.drew.heap.size:=hB;generalize hwd:w.drew=wd at *;clear hwd;have AH:∀k,k<B->¬(ft.ownBlock=some k\/fx.ownBlock=some k):=fun k hk q=>q.elim (fun e=>by have:=(hd.on.ge e).1;omega) (fun e=>by have:=(hd.ol.ge e).1;omega);obtain⟨i1,hi1,hz10,hz11,hz12⟩:=gg o5;obtain⟨i2,hi2,hz20,hz21,hz22⟩:=gg tZ
 refine fE (idx:=[(2,9),(3,10),(6,13),(7,14)]) (fun i=>[i])
  (fun i vs w'=>match i with
   |2=>∃b,vs 2=.slice (some ⟨b,0,none⟩) 1 1/\dS wd.heap.size 9 [.string s] b w'
   |3=>∃gb cap,vs 3=.slice (some ⟨gb,0,none⟩) (names.length+1) cap/\bF aF 1 9 B (fun _=>False) w' (.slice (some ⟨gb,0,none⟩) (names.length+1) cap) (names++[s])/\(ft.ownBlock=some gb\/wd.heap.size<=gb)
   |6=>∃b,vs 6=.slice (some ⟨b,0,none⟩) 1 1/\dS wd.heap.size 3 [.int .i64 n] b w'
   |7=>∃gb cap,vs 7=.slice (some ⟨gb,0,none⟩) (lengths.length+1) cap/\bF cO 1 3 B (fun _=>False) w' (.slice (some ⟨gb,0,none⟩) (lengths.length+1) cap) (lengths++[n])/\(fx.ownBlock=some gb\/wd.heap.size<=gb)
   |_=>True)
  (fun d w'=>(d 3=false->bF aF 1 9 B (fun _=>False) w' ft names)/\(d 7=false->bF cO 1 3 B (fun _=>False) w' fx lengths)/\cR (fun k=>ft.ownBlock=some k\/fx.ownBlock=some k) wd w')
  (fun i w1 w2=>w1.heap.size<=w2.heap.size/\∀k,k<w1.heap.size->(i=3->ft.ownBlock≠some k)->(i=7->fx.ownBlock≠some k)->w2.heap[k]?=w1.heap[k]?) TcP rfl ?cs ?st (fun _ _ _ _ h=>h) ?c0 ?ob ?fin
 case c0=>exact⟨fun _=>hd.on,fun _=>hd.ol,cR.refl _ _⟩
 case cs =>
  intro d w' hC;have hm:=hC.2.2;refine⟨?_,?_⟩
  ·rw[hm.cell (p:=Ln) (aq hd.bn) (AH Ln TcN)];simp[World.cell?,hd.bn]
  rw[hm.cell (p:=Ll) (aq hd.bl) (AH Ll TcN)];simp[World.cell?,hd.bl]
 case st =>
  intro p hp q _ hne vs us w1 w2 ha hF he;simp only[dr,cY,dg]at hp;rcases hp with rfl|rfl|rfl|rfl
  ·obtain⟨b,e,hb⟩:=hF;exact⟨b,(ha 2 (cG ..)).trans e,hb.1,(he.2 b (aq hb.2) (fun _ e=>by have:=(hd.on.ge e).2;have:=hb.1;omega) (fun _ e=>by have:=(hd.ol.ge e).2;have:=hb.1;omega)).trans hb.2⟩
  ·obtain⟨gb,cap,e,ho,hat⟩:=hF;refine⟨gb,cap,(ha 3 (cG ..)).trans e,ho.Gl aF.moves he.1 (fun k ek=>he.2 k (ho.ge ek).2 (fun q3=>absurd q3 hne) (fun _ e7=>?_)),hat⟩;exact TbV
  ·obtain⟨b,e,hb⟩:=hF;exact⟨b,(ha 6 (cG ..)).trans e,hb.1,(he.2 b (aq hb.2) (fun _ e=>by have:=(hd.on.ge e).2;have:=hb.1;omega) (fun _ e=>by have:=(hd.ol.ge e).2;have:=hb.1;omega)).trans hb.2⟩
  obtain⟨gb,cap,e,ho,hat⟩:=hF;refine⟨gb,cap,(ha 7 (cG ..)).trans e,ho.Gl cO.moves he.1 (fun k ek=>he.2 k (ho.ge ek).2 (fun _ e3=>?_) (fun q7=>absurd q7 hne)),hat⟩;exact TbW
 case ob =>
  refine kA.cons (deps:=[]) rfl rfl TcP (fun vs d w' h0 hC hF K hK=>?_) ?_
  ·clear hF;simp only[over,cq,Act.put];go_simp;refine hK.o (.slice (some w'.heap.size) 1 1) _ ?_ ⟨TcO,fun k hk _ _=>cj _ _ _ hk⟩ ⟨_,aw rfl,dS.new hC.2.2.size⟩ _ ?_
   ·simp only[show(d 3||(3:Nat)==2)=d 3 from by simp,show(d 7||(7:Nat)==2)=d 7 from by simp];exact Tbg
   simp only[over,cq,aS]
  refine kA.cons (deps:=[(2,9)]) rfl rfl TcP (fun vs d w' h0 hC hF K hK=>?_) ?_
  ·have f:=(hF (2,9) TcO).2;clear hF;simp only[over,cq,cF,aS]at f ⊢;obtain⟨b,e2,hb⟩:=f;rw[e2];simp only at h0;have hz:=hC.2.2.size;refine mU aF.moves underlying27 hi1 hz10 hz11 hz12 rfl TcQ TcQ rfl _ _ TcT B (fun _=>False) ft names s TcT (hC.1 h0) b 1 [.string s] TcT TcT rfl Tc0 (fun j y hy=>?_) TcN TcN (fun _ _ f=>f) (fun gb cap w3 hp=>?_)
   ·exact Tco
   refine hK.o (.slice (some gb) (names.length+1) cap) w3 ?_ ⟨hp.grown.size,fun k hk q3 q7=>hp.grown.block k hk fun e=>q3 rfl e.symm⟩ ⟨gb,cap,aw rfl,hp.own,hp.at'.imp id (fun q=>by omega)⟩ _ ?_
   ·simp only[show(d 7||(7:Nat)==3)=d 7 from by simp];exact Tbe
   simp only[over,cq,cF,aS,e2]
  refine kA.cons (deps:=[]) rfl rfl TcP (fun vs d w' h0 hC hF K hK=>?_) ?_
  ·clear hF;simp only[over,cq,Act.put];go_simp;refine hK.o (.slice (some w'.heap.size) 1 1) _ ?_ ⟨TcO,fun k hk _ _=>cj _ _ _ hk⟩ ⟨_,aw rfl,dS.new hC.2.2.size⟩ _ ?_
   ·simp only[show(d 3||(3:Nat)==6)=d 3 from by simp,show(d 7||(7:Nat)==6)=d 7 from by simp];exact Tbg
   simp only[over,cq,aS]
  refine kA.cons (deps:=[(6,13)]) rfl rfl TcP (fun vs d w' h0 hC hF K hK=>?_) trivial;have f:=(hF (6,13) TcO).2;clear hF;simp only[over,cq,cF,aS]at f ⊢;obtain⟨b,e2,hb⟩:=f;rw[e2];simp only at h0;have hz:=hC.2.2.size;refine mU cO.moves underlying22 hi2 hz20 hz21 hz22 rfl TcQ TcQ rfl _ _ TcT B (fun _=>False) fx lengths n TcT (hC.2.1 h0) b 1 [.int .i64 n] TcT TcT rfl Tc0 (fun j y hy=>?_) TcN TcN (fun _ _ f=>f) (fun gb cap w3 hp=>?_)
  ·exact Tco
  refine hK.o (.slice (some gb) (lengths.length+1) cap) w3 ?_ ⟨hp.grown.size,fun k hk q3 q7=>hp.grown.block k hk fun e=>q7 rfl e.symm⟩ ⟨gb,cap,aw rfl,hp.own,hp.at'.imp id (fun q=>by omega)⟩ _ ?_
  ·simp only[show(d 3||(3:Nat)==7)=d 3 from by simp];exact Tbf
  simp only[over,cq,cF,aS,e2]
 case fin =>
  intro vs d w' hC hF;have f3:=(hF (3,10) TcO).2;have f7:=(hF (7,14) TcO).2;clear hF;simp only[over,cq,cF,aS,cQ,cL]at f3 f7 ⊢;obtain⟨g1,p1,e3,o1,t1⟩:=f3;obtain⟨g2,p2,e7,o2,t2⟩:=f7;rw[e3,e7];generalize vs 2=v2;generalize vs 6=v6;have hm:=hC.2.2;clear hC e3 e7;have hz:=hm.size;have nLn:=AH Ln TcN;have nLl:=AH Ll TcN;have nLx:=AH Lx TcN;have bn:=(hm.block Ln (aq hd.bn) nLn).trans hd.bn;have bl:=(hm.block Ll (aq hd.bl) nLl).trans hd.bl;have bx:=(hm.block Lx (aq hd.bx) nLx).trans hd.bx;have oa:bF aQ 3 83 B (fun _=>False) w' av Ga:=hd.oa.Gl aQ.moves hz (fun k e=>hm.block k (hd.oa.ge e).2 (fun q=>q.elim (fun q=>hd.na k q e) (fun q=>hd.la k q e)));have q1:=cr bn 0 _ rfl;have q2:w'.frozen? Ln=false:=by simp[World.frozen?,bn]
  have q3:=cr bl 0 _ rfl;have q4:w'.frozen? Ll=false:=by simp[World.frozen?,bl]
  have x1:Ln≠Ll:=by omega
  have x2:Lx≠Ln:=by omega
  have x3:Lx≠Ll:=by omega
  generalize hW:(w'.setCell Ln (.slice (some g1) (names.length+1) p1)).setCell Ll (.slice (some g2) (lengths.length+1) p2)=W;have hWk:∀k,k≠Ln->k≠Ll->W.heap[k]?=w'.heap[k]?:=fun k e1 e2=>by rw[<- hW,bw _ _ _ _ e2,bw _ _ _ _ e1]
  have Ph:W.heap.size=w'.heap.size:=by rw[<- hW];simp[World.setCell]
  have Zd:W.heap[Ln]?=some (.cells #[.slice (some g1) (names.length+1) p1] 27 (0,0)):=by
   rw[<- hW,bw _ _ _ _ x1];exact block_setCell (cs:=#[_]) (i:=0) _ bn
  have Ze:W.heap[Ll]?=some (.cells #[.slice (some g2) (lengths.length+1) p2] 22 (0,0)):=by
   exact Tci
  have UG:W.heap[Lx]?=some (.cells (xs av) 88 (0,0)):=(hWk Lx x2 x3).trans bx;have SV:bF aQ 3 83 B (fun _=>False) W av Ga:=oa.Gl aQ.moves TcN (fun k e=>hWk k TdZ TdZ);have UH:bF aF 1 9 B (fun _=>False) W (.slice (some g1) (names.length+1) p1) (names++[s]):=o1.Gl aF.moves TcN (fun k e=>hWk k Td1 Td1);have UI:bF cO 1 3 B (fun _=>False) W (.slice (some g2) (lengths.length+1) p2) (lengths++[n]):=o2.Gl cO.moves TcN (fun k e=>hWk k Td0 Td0);have hmW:cR (nJ Lx Ln Ll ft fx av) wd W:=by
   exact Ta9
  have g1B:=o1.ge (k:=g1) rfl;have g2B:=o2.ge (k:=g2) rfl;have OI:W.cell? (Tac Lx 3)=some av:=by simp[World.cell?,UG,hxs]
  have SX:Lx<W.heap.size:=aq UG;have aI1:∀o,(W.alloc o).cell? (Tac Lx 3)=some av:=fun o=>(cd (w:=W) (cj _ _ _ SX)).trans OI;obtain⟨i3,hi3,hz30,hz31,hz32⟩:=gg kL;have Zf:=aa Zd;clear Zd;have Zg:=aa Ze;clear Ze;have HWx:=aa UG;clear UG;have HWk:=aa hWk;clear hWk;have HI:=aa hi3;clear hi3;have H0:=aa hz30;clear hz30;have H1:=aa hz31;clear hz31;have H2:=aa hz32;clear hz32;have Xh:=aa Ph;clear Ph;have Xi:=aa hxs;clear hxs;clear bn bl bx hi1 hi2 hz10 hz11 hz12 hz20 hz21 hz22 cn cl
  go_wp2_with(at_builtin;refine dX aQ.moves underlying86 HI.o H0.o H1.o H2.o rfl TcQ TcQ rfl _ _ rfl B (fun _=>False) av Ga ⟨true,s,0⟩ rfl ?c1 W.heap.size 1 [.bool true,.string s,.int .i64 0] rfl rfl rfl ?c2 ?c3 ?c4 ?c5 (fun _ _ f=>f) ?_)
  case c1=>exact SV.Gl aQ.moves TcO (fun k e=>cj _ _ _ (SV.ge e).2)
  case c2=>simp[Value.oneCell']
  case c3 =>
   intro j y hy;exact aD rfl Tc6
  case c4=>omega
  case c5 =>
   have:=Xh.o;simp;omega
  intro g3 p3 w3 hp;have hz3:=hp.grown.size;rw[cW]at hz3;have Ph:=Xh.o;have k3:∀k,k<W.heap.size->av.ownBlock≠some k->w3.heap[k]?=W.heap[k]?:=fun k hk hn=>(hp.grown.block k TcS (fun e=>hn e.symm)).trans (cj _ _ _ hk);have nx:∀k,k<B->av.ownBlock≠some k:=fun k hk e=>by have:=(SV.ge e).1;omega
  have UJ:=(k3 Lx SX (nx Lx TcN)).trans HWx.o;have y1:w3.cell? (Tac Lx 3)=some av:=by simp[World.cell?,UJ,Xi.o]
  have y2:w3.frozen? (Tac Lx 3)=false:=by simp[World.frozen?,UJ]
  have cJ:=aa UJ;clear UJ;have HK3:=aa k3;clear k3;have HP:=aa hp;clear hp;clear OI aI1 Ph;go_wp2;go_end0
  have hg3:=HP.o.own.ge (k:=g3) rfl;have Xj:av.ownBlock=some g3\/g3=W.heap.size+1:=HP.o.at'.imp id (fun q=>by rw[q];simp);have Ph:=Xh.o;have kk:∀k,k≠Lx->(w3.setCell (Tac Lx 3) (.slice (some g3) (Ga.length+1) p3)).heap[k]?=w3.heap[k]?:=fun k e=>bw _ _ _ _ e;have hz5:(w3.setCell (Tac Lx 3) (.slice (some g3) (Ga.length+1) p3)).heap.size=w3.heap.size:=by simp[World.setCell]
  have on5:bF aF 1 9 B (fun _=>False) (w3.setCell (Tac Lx 3) (.slice (some g3) (Ga.length+1) p3)) (.slice (some g1) (names.length+1) p1) (names++[s]):=UH.Gl aF.moves TcN (fun k e=>(kk k (by have:=(UH.ge e).1;omega)).trans (HK3.o k (UH.ge e).2 (UH.ne SV TcQ k e)));have NC:bF cO 1 3 B (fun _=>False) (w3.setCell (Tac Lx 3) (.slice (some g3) (Ga.length+1) p3)) (.slice (some g2) (lengths.length+1) p2) (lengths++[n]):=UI.Gl cO.moves TcN (fun k e=>(kk k (by have:=(UI.ge e).1;omega)).trans (HK3.o k (UI.ge e).2 (UI.ne SV TcQ k e)));have Oq:bF aQ 3 83 B (fun _=>False) (w3.setCell (Tac Lx 3) (.slice (some g3) (Ga.length+1) p3)) (.slice (some g3) (Ga.length+1) p3) (Ga++[⟨true,s,0⟩]):=HP.o.own.Gl aQ.moves TcN (fun k e=>kk k (by have:=(HP.o.own.ge e).1;omega));refine⟨rfl,.slice (some g1) (names.length+1) p1,.slice (some g2) (lengths.length+1) p2,.slice (some g3) (Ga.length+1) p3,⟨?_,?_,?_,on5,NC,Oq,on5.ne NC TcQ,on5.ne Oq TcQ,NC.ne Oq TcQ,hd1,hd2,hd3⟩,?_,?_⟩
  ·exact(kk Ln (Ne.symm x2)).trans ((HK3.o Ln (aq Zf.o) (nx Ln TcN)).trans Zf.o)
  ·exact(kk Ll (Ne.symm x3)).trans ((HK3.o Ll (aq Zg.o) (nx Ll TcN)).trans Zg.o)
  ·have:=block_setCell (i:=3) (.slice (some g3) (Ga.length+1) p3) cJ.o;rw[this,Xi.o,Xi.o];rfl
  ·have m2:cR (nJ Lx Ln Ll ft fx av) w W:=(Gk.mono (G:=nJ Lx Ln Ll ft fx av) (fun _ f=>f.elim)).trans hmW (fun _ q=>.inl q);exact((m2.alloc _).trans (jA HP.o.grown) (fun k q=>.inl (.inr (.inr (.inr (.inr (.inr q))))))).setCell (p:=⟨Lx,3,none⟩) (.inl (.inl rfl)) _
  have mA:=Gk.size;have aj8:=hmW.size;rintro k (rfl|rfl|rfl|q|q|q)
  ·exact .inl (.inl rfl)
  ·exact .inl (.inr (.inl rfl))
  ·exact .inl (.inr (.inr (.inl rfl)))
  ·exact Tbs
  ·exact Tbn
  have hk5:=(Oq.ge q).2;obtain rfl:g3=k:=by injection q
  rcases Xj with q1|q1
  ·exact .inl (.inr (.inr (.inr (.inr (.inr q1)))))
  exact .inr ⟨TcN,hk5⟩
def digit(i:Nat):ByteArray:=⟨#[(48+i).toUInt8]⟩
def FX:ByteArray:=⟨#[95,108,101,103]⟩
def qm:ByteArray:=⟨#[95,108,111,103]⟩
def Ab:ByteArray:=⟨#[95,109,101,116,97]⟩
def Aj:ByteArray:=⟨#[95,100,97,116,97]⟩
def EO:ByteArray:=⟨#[95,108,101,103,48]⟩
def Ex(name:ByteArray)(i:Nat):ByteArray:=(name++FX)++digit i
def aI(name:ByteArray)(k:Nat):List ByteArray:=(List.range k).map (Ex name)
def gB(l:List ByteArray):List aR:=l.map fun s=>⟨true,s,0⟩
theorem sW(l:List ByteArray)(s:ByteArray):gB (l++[s])=gB l++[⟨true,s,0⟩]:=by simp[gB]
theorem lN(name:ByteArray)(k:Nat):aI name (k+1)=aI name k++[Ex name k]:=by simp[aI,List.range_succ]
inductive ik (e n:Int)(name:ByteArray):Int->List ByteArray->List Int->aB->Prop
 |mirror (k:Nat) (hk:2<=k/\k<=3) (c:Int) (hc:1<=c/\c<=4) (st:List Int) (hst:st=[]\/∃i:Int,0<=i/\i<k/\st=[i]):ik e n name 3 (aI name k) (List.replicate k n) ⟨0,n,3,gB (aI name k),c,st,es,es,0,0,0⟩
 |mirrorLog (k:Nat) (hk:2<=k/\k<=3) (c:Int) (hc:1<=c/\c<=4) (st:List Int) (hst:st=[]\/∃i:Int,0<=i/\i<k/\st=[i]):ik e n name 3 (aI name k++[name++qm]) (List.replicate k n++[1+(1+(n*e+63)/64)/e]) ⟨0,n,3,gB (aI name k),c,st,name++qm,es,0,0,0⟩
 |parity (k:Nat) (hk:3<=k/\k<=4) (c:Int) (hc:c=1\/c=e):ik e n name 4 (aI name k) (List.replicate k (n+(15+e)/e)) ⟨0,n*(k-1),4,gB (aI name k),c,[],es,es,0,0,0⟩
 |pool (l c:Int) (hl:1<=l/\l<=3) (hc:1<=c/\c<=8):ik e n name 5 [name++Ab,name++Aj] [l,n] ⟨0,n,5,gB [name++Ab,name++Aj],c,[],es,es,0,0,0⟩
 |cache (l m c:Int) (hl:1<=l/\l<=2) (hm:1<=m/\m<=2) (hc:1<=c/\c<=4):ik e n name 7 [name++EO,name++Aj,name++Ab] [n,l,1] ⟨0,n,7,gB [name++EO,name++Aj,name++Ab],c,[],es,es,0,m,0⟩
theorem Tc3{p:Prop}(h:p:=by simp[aI]):p:=h
theorem Tdz{p:Prop}(h:p:=by simp[aI];omega):p:=h
theorem ik.ok{e n:Int}{name:ByteArray}{kind:Int}{names:List ByteArray}{x:aB}(h:ik e n name kind names lengths x)(h1:1<=e)(h2:e<=16)(h3:1<=n)(h4:n<=3):names.length=lengths.length/\names.length<=8/\∀l∈lengths,1<=l/\l<=1000:=by
 have hq:∀a:Int,0<=a->a<=200->0<=a/e/\a/e<=200:=fun a ha hb=>⟨lz ha TcN,Int.le_trans (mS _ ha) hb⟩;cases h with
 |mirror k hk c hc st hst =>
  refine⟨Tc3,Tdz,fun l hl=>?_⟩;rw[tM]at hl;omega
 |mirrorLog k hk c hc st hst =>
  refine⟨Tc3,Tdz,fun l hl=>?_⟩;rcases List.mem_append.1 hl with hl|hl
  ·rw[tM]at hl;omega
  simp only[dr,cY,dg]at hl;have b1:0<=n*e/\n*e<=48:=by rcases(show n=1\/n=2\/n=3 by omega)with rfl|rfl|rfl<;>omega
  have:=hq (1+(n*e+63)/64) TcN TcN;omega
 |parity k hk c hc =>
  refine⟨Tc3,Tdz,fun l hl=>?_⟩;rw[tM]at hl;have:=hq (15+e) TcN TcN;omega
 |pool l c hl hc =>
  refine⟨rfl,TcO,fun l hl=>?_⟩;simp only[dr,cY,dg]at hl;omega
 |cache l m c hl hm hc =>
  refine⟨rfl,TcO,fun l hl=>?_⟩;simp only[dr,cY,dg]at hl;omega
def QA(len kind chunk:Int)(Oz:Value)(log:ByteArray)(mode:Int):Value->Array Value:=fun v=>#[.int .i64 0,.int .i64 len,.int .i64 kind,v,.int .i64 chunk,Oz,.string log,.string es,.int .i64 0,.int .i64 mode,.int .i64 0]
def Yc(X:Nat->Prop)(Lx Ln Ll:Nat)(ft fx av:Value):Nat->Prop:=fun k=>X k\/nJ Lx Ln Ll ft fx av k
structure vq(X:Nat->Prop)(bs bb:Nat)(nv vv:Value)(g:af)(next:List Int)(w0:World)(B Lx Ln Ll:Nat)(ft fx av Oz:Value)(names:List ByteArray)(lengths:List Int)(Ga:List aR)(st:List Int)(len kind chunk:Int)(log:ByteArray)(mode:Int)(w:World):Prop where
 loc:Loc w B Lx Ln Ll ft fx av names lengths Ga (QA len kind chunk Oz log mode)
 post:aH (Yc X Lx Ln Ll ft fx av) bs bb nv vv w0 w nv vv g next
 rs:b6 cO 1 (okB (Yc X Lx Ln Ll ft fx av) bb nv vv) w [Oz] st
 hB:B<=w.heap.size
 hL:w0.heap.size<=Lx
section
variable {X:Nat->Prop}{bs bb:Nat}{nv vv:Value}{g:af}{next:List Int}{w0 w w':World}{B Lx Ln Ll:Nat}{ft fx av Oz ar3 Kf av':Value}{names:List ByteArray}{lengths:List Int}{Ga:List aR}{st:List Int}{len kind chunk n:Int}{log s:ByteArray}{mode:Int}
theorem vq.ge(h:vq X bs bb nv vv g next w0 B Lx Ln Ll ft fx av Oz names lengths Ga st len kind chunk log mode w){k:Nat}(hk:nJ Lx Ln Ll ft fx av k):w0.heap.size<=k:=by
 have d1:=h.loc.d1;have d2:=h.loc.d2;have d3:=h.loc.d3;have hL:=h.hL;rcases hk with rfl|rfl|rfl|q|q|q
 ·exact hL
 ·omega
 ·omega
 ·have:=(h.loc.on.ge q).1;omega
 ·have:=(h.loc.ol.ge q).1;omega
 have:=(h.loc.oa.ge q).1;omega
theorem vq.below(h:vq X bs bb nv vv g next w0 B Lx Ln Ll ft fx av Oz names lengths Ga st len kind chunk log mode w)(hb:Below w.heap.size w w'):vq X bs bb nv vv g next w0 B Lx Ln Ll ft fx av Oz names lengths Ga st len kind chunk log mode w' :=
 ⟨h.loc.keep hb.size (fun k hk=>hb.block k (h.post.bld.xlt k (.inr hk)).2),h.post.after hb,(b6.moves cO.moves).mv ⟨hb.size,fun b hb' ho=>⟨ho,hb.block b hb'⟩⟩ h.rs,cA h.hB hb.size,h.hL⟩
theorem vq.read(h:vq X bs bb nv vv g next w0 B Lx Ln Ll ft fx av Oz names lengths Ga st len kind chunk log mode w)(hs:Src w' bs)(hm:cR (fun i=>i=bs) w w'):vq X bs bb nv vv g next w0 B Lx Ln Ll ft fx av Oz names lengths Ga st len kind chunk log mode w':=by
 have gO:=h.post.bld.lt;refine⟨h.loc.keep hm.size (fun k hk=>hm.block k (h.post.bld.xlt k (.inr hk)).2 (fun e=>by have:=(h.post.bld.xlt k (.inr hk)).1;omega)),h.post.read hs hm,(b6.moves cO.moves).mv ⟨hm.size,fun b hb' ho=>⟨ho,hm.block b hb' (fun e=>by have:=ho.1;omega)⟩⟩ h.rs,cA h.hB hm.size,h.hL⟩
theorem vq.add(h:vq X bs bb nv vv g next w0 B Lx Ln Ll ft fx av Oz names lengths Ga st len kind chunk log mode w)(p:FO w B Lx Ln Ll ft fx av names lengths Ga (QA len kind chunk Oz log mode) s n ar3 Kf av' w'):vq X bs bb nv vv g next w0 B Lx Ln Ll ar3 Kf av' Oz (names++[s]) (lengths++[n]) (Ga++[⟨true,s,0⟩]) st len kind chunk log mode w':=by
 refine⟨p.loc,h.post.move ⟨p.mod.os,p.mod.tape,p.mod.output,p.mod.size,fun k hk hn=>p.mod.block k hk fun q=>hn ⟨.inr q,h.ge q⟩⟩ (fun k hk=>?_),(b6.moves cO.moves).mv ⟨p.mod.size,fun b hb ho=>⟨⟨ho.1,ho.2.1,ho.2.2.1,fun q=>?_⟩,p.mod.block b hb fun q=>ho.2.2.2 (.inr q)⟩⟩ h.rs,cA h.hB p.mod.size,h.hL⟩
 ·rcases hk with q|q
  ·exact .inl (.inl q)
  exact(p.fr k q).imp (fun q=>.inr q) id
 rcases q with q|q
 ·exact ho.2.2.2 (.inl q)
 rcases p.fr b q with q|q
 ·exact ho.2.2.2 (.inr q)
 omega
theorem vq.put(h:vq X bs bb nv vv g next w0 B Lx Ln Ll ft fx av Oz names lengths Ga st len kind chunk log mode w)(i:Nat)(u:Value){len' Mb mode':Int}{log':ByteArray}(he:∀v,(QA len kind chunk Oz log mode v).setIfInBounds i u=QA len' kind Mb Oz log' mode' v):vq X bs bb nv vv g next w0 B Lx Ln Ll ft fx av Oz names lengths Ga st len' kind Mb log' mode' (w.setCell (Lx,i) u):=by
 have d1:=h.loc.d1;have d2:=h.loc.d2;have d3:=h.loc.d3;have hz:(w.setCell (Lx,i) u).heap.size=w.heap.size:=by simp[World.setCell]
 have kk:∀k,k≠Lx->(w.setCell (Lx,i) u).heap[k]?=w.heap[k]?:=fun k e=>bw _ _ _ _ e;refine⟨⟨(kk Ln TcN).trans h.loc.bn,(kk Ll TcN).trans h.loc.bl,?_,h.loc.on.Gl aF.moves TcN (fun k e=>kk k (by have:=(h.loc.on.ge e).1;omega)),h.loc.ol.Gl cO.moves TcN (fun k e=>kk k (by have:=(h.loc.ol.ge e).1;omega)),h.loc.oa.Gl aQ.moves TcN (fun k e=>kk k (by have:=(h.loc.oa.ge e).1;omega)),h.loc.nl,h.loc.na,h.loc.la,d1,d2,d3⟩,h.post.put Lx i u (.inr (.inl rfl)) h.hL,(b6.moves cO.moves).mv ⟨TcN,fun b hb ho=>⟨ho,kk b (fun e=>ho.2.2.2 (.inr (.inl e)))⟩⟩ h.rs,Td8,h.hL⟩
 rw[<- he];exact block_setCell (i:=i) u h.loc.bx
theorem vq.push2{w1:World}{g1 p1 g2 p2:Nat}(h:vq X bs bb nv vv g next w0 B Lx Ln Ll ft fx av Oz names lengths Ga st len kind chunk log mode w)(hm:cR (fun k=>ft.ownBlock=some k\/fx.ownBlock=some k) w w1)
  (o1:bF aF 1 9 B (fun _=>False) w1 (.slice (some g1) (names.length+1) p1) (names++[s])) (t1:ft.ownBlock=some g1\/w.heap.size<=g1)
  (o2:bF cO 1 3 B (fun _=>False) w1 (.slice (some g2) (lengths.length+1) p2) (lengths++[n])) (t2:fx.ownBlock=some g2\/w.heap.size<=g2) :
  vq X bs bb nv vv g next w0 B Lx Ln Ll (.slice (some g1) (names.length+1) p1) (.slice (some g2) (lengths.length+1) p2) av Oz (names++[s]) (lengths++[n]) Ga st len kind chunk log mode ((w1.setCell Ln (.slice (some g1) (names.length+1) p1)).setCell Ll (.slice (some g2) (lengths.length+1) p2)) /\
   w1.cell? Ln=some ft/\w1.frozen? Ln=false/\w1.cell? Ll=some fx/\w1.frozen? Ll=false:=by
 have hd:=h.loc;have d1:=hd.d1;have d2:=hd.d2;have d3:=hd.d3;have hz:=hm.size;have AH:∀k,k<B->¬(ft.ownBlock=some k\/fx.ownBlock=some k):=fun k hk q=>q.elim (fun e=>by have:=(hd.on.ge e).1;omega) (fun e=>by have:=(hd.ol.ge e).1;omega);have bn:=(hm.block Ln (aq hd.bn) (AH Ln TcN)).trans hd.bn;have bl:=(hm.block Ll (aq hd.bl) (AH Ll TcN)).trans hd.bl;have bx:=(hm.block Lx (aq hd.bx) (AH Lx TcN)).trans hd.bx;have x1:Ln≠Ll:=by omega
 have x2:Lx≠Ln:=by omega
 have x3:Lx≠Ll:=by omega
 have oa:bF aQ 3 83 B (fun _=>False) w1 av Ga:=hd.oa.Gl aQ.moves hz (fun k e=>hm.block k (hd.oa.ge e).2 (fun q=>q.elim (fun q=>hd.na k q e) (fun q=>hd.la k q e)));refine⟨?_,cr bn _ _ rfl,by simp[World.frozen?,bn],cr bl _ _ rfl,by simp[World.frozen?,bl]⟩;generalize hW:(w1.setCell Ln (.slice (some g1) (names.length+1) p1)).setCell Ll (.slice (some g2) (lengths.length+1) p2)=W;have hWk:∀k,k≠Ln->k≠Ll->W.heap[k]?=w1.heap[k]?:=fun k e1 e2=>by rw[<- hW,bw _ _ _ _ e2,bw _ _ _ _ e1]
 have Ph:W.heap.size=w1.heap.size:=by rw[<- hW];simp[World.setCell]
 have on5:=o1.Gl (w':=W) aF.moves TcN (fun k e=>hWk k Td1 Td1);have NC:=o2.Gl (w':=W) cO.moves TcN (fun k e=>hWk k Td0 Td0);have Oq:=oa.Gl (w':=W) aQ.moves TcN (fun k e=>hWk k TdZ TdZ);have hmW:cR (nJ Lx Ln Ll ft fx av) w W:=by
  exact Ta9
 have fr:∀k,nJ Lx Ln Ll (.slice (some g1) (names.length+1) p1) (.slice (some g2) (lengths.length+1) p2) av k->nJ Lx Ln Ll ft fx av k\/(w.heap.size<=k/\k<W.heap.size):=by
  rintro k (rfl|rfl|rfl|q|q|q)
  ·exact .inl (.inl rfl)
  ·exact .inl (.inr (.inl rfl))
  ·exact .inl (.inr (.inr (.inl rfl)))
  ·exact Tbs
  ·exact Tbn
  exact .inl (.inr (.inr (.inr (.inr (.inr q)))))
 refine⟨⟨?_,?_,(hWk Lx x2 x3).trans bx,on5,NC,Oq,on5.ne NC TcQ,on5.ne Oq TcQ,NC.ne Oq TcQ,d1,d2,d3⟩,h.post.move ⟨hmW.os,hmW.tape,hmW.output,hmW.size,fun k hk hn=>hmW.block k hk fun q=>hn ⟨.inr q,h.ge q⟩⟩ (fun k hk=>?_),(b6.moves cO.moves).mv ⟨hmW.size,fun b hb ho=>⟨⟨ho.1,ho.2.1,ho.2.2.1,fun q=>?_⟩,hmW.block b hb fun q=>ho.2.2.2 (.inr q)⟩⟩ h.rs,cA h.hB hmW.size,h.hL⟩
 ·rw[<- hW,bw _ _ _ _ x1];exact block_setCell (cs:=#[_]) (i:=0) _ bn
 ·exact Tci
 ·rcases hk with q|q
  ·exact .inl (.inl q)
  exact(fr k q).imp (fun q=>.inr q) id
 rcases q with q|q
 ·exact ho.2.2.2 (.inl q)
 rcases fr b q with q|q
 ·exact ho.2.2.2 (.inr q)
 omega
theorem vq.stale{b:Nat}{i:Int}(h:vq X bs bb nv vv g next w0 B Lx Ln Ll ft fx av Oz names lengths Ga st len kind chunk log mode w)(hb:w.heap[b]?=some (.cells #[.int .i64 i] 3 (0,0)))(pC:bb<b)(hn:¬Yc X Lx Ln Ll ft fx av b)(hbn:nv.ownBlock≠some b)(vA:vv.ownBlock≠some b) :
  vq X bs bb nv vv g next w0 B Lx Ln Ll ft fx av (.slice (some b) 1 1) names lengths Ga [i] len kind chunk log mode (w.setCell (Tac Lx 5) (.slice (some b) 1 1)):=by
 have d1:=h.loc.d1;have d2:=h.loc.d2;have d3:=h.loc.d3;have hz:(w.setCell (Tac Lx 5) (.slice (some b) 1 1)).heap.size=w.heap.size:=by simp[World.setCell]
 have kk:∀k,k≠Lx->(w.setCell (Tac Lx 5) (.slice (some b) 1 1)).heap[k]?=w.heap[k]?:=fun k e=>bw _ _ _ _ e;refine⟨⟨(kk Ln TcN).trans h.loc.bn,(kk Ll TcN).trans h.loc.bl,block_setCell (i:=5) _ h.loc.bx,h.loc.on.Gl aF.moves TcN (fun k e=>kk k (by have:=(h.loc.on.ge e).1;omega)),h.loc.ol.Gl cO.moves TcN (fun k e=>kk k (by have:=(h.loc.ol.ge e).1;omega)),h.loc.oa.Gl aQ.moves TcN (fun k e=>kk k (by have:=(h.loc.oa.ge e).1;omega)),h.loc.nl,h.loc.na,h.loc.la,d1,d2,d3⟩,h.post.put Lx 5 _ (.inr (.inl rfl)) h.hL,?_,Td8,h.hL⟩
 exact b6.one (u:=[.int .i64 i]) ((kk b (fun e=>hn (.inr (.inl e)))).trans hb) ⟨pC,hbn,vA,hn⟩ rfl rfl
theorem vq.cx(h:vq X bs bb nv vv g next w0 B Lx Ln Ll ft fx av Oz names lengths Ga st len kind chunk log mode w)(i:Nat){v:Value}(hv:(QA len kind chunk Oz log mode av)[i]?=some v):w.cell? (Lx,i)=some v/\w.frozen? (Lx,i)=false:=by
 refine⟨?_,by simp[World.frozen?,h.loc.bx]⟩;simp only[World.cell?,h.loc.bx];simpa using hv
end
theorem eW.c4{X:Nat->Prop}{w:World}{bs bb:Nat}{nv vv:Value}{g:af}{next:List Int}(h:eW X w bs bb nv vv g next):w.cell? (Tac bb 4)=some (.int .i64 g.Gd):=by
 exact Tcn
def EM(X:Nat->Prop)(bs bb:Nat)(nv vv:Value)(g:af)(next:List Int)(w0:World)(L:Nat)(n:Int)(name:ByteArray)(kind:Int)(w:World):Prop :=
 ∃(ft fx av Oz:Value) (names:List ByteArray) (lengths:List Int) (x:aB),ik g.Gd n name kind names lengths x/\vq X bs bb nv vv g next w0 (L+1+1+1) L (L+1) (L+1+1) ft fx av Oz names lengths x.Ga x.stale x.length kind x.chunk x.log x.mode w
def tT:ByteArray:=⟨#[116]⟩
def jY(name:ByteArray)(id len:Int)(i:Nat):ay:=⟨(name++tT)++digit i,id,false,false,[],[⟨0,len,6,[],0,[],es,name,i,0,0⟩]⟩
inductive iO (id:Int)(name:ByteArray)(k:Nat):Int->Nat->List ay->Prop
 |nil (c:Int):iO id name k c k []
 |snoc {c:Int} {j:Nat} {vl:List ay} {len:Int} (h:iO id name k c (j+1) vl) (hl:1<=len/\len<=4):iO id name k c j (vl++[jY name (oX id (c+vl.length)) len (j+1)])
def FD(X:Nat->Prop)(bs bb:Nat)(nv vv:Value)(g:af)(next:List Int)(name:ByteArray)(kind:Int)(w w':World):Prop :=
 (∃(j:Nat) (nv' pA:Value),j<=8/\aH X bs bb nv vv w w' nv' pA { g with next:=g.next+j } next) \/
 ∃(n:Int) (names:List ByteArray) (lengths:List Int) (x:aB) (ps:List (ByteArray × Int × Int)) (vl:List ay) (ro:Bool) (tags:List ByteArray) (k j:Nat) (tl:List ay) (next':List Int) (pA:Value),
  1<=n/\n<=3/\ik g.Gd n name kind names lengths x/\lD g.id g.next names lengths ps vl/\fZ g.Gb next ps next'/\List.Sublist tags iQ/\k<=2/\(kind≠5->k=j/\k=0)/\iO g.id name k (g.next+names.length+1+1) j tl /\
  aH X bs bb nv vv w w' nv pA { g with next:=g.next+names.length+1+tl.length,F9:=g.F9++vl++[⟨name,oX g.id (g.next+names.length+1),false,ro,tags,[x]⟩]++tl } next'
def iW(n:Nat):Code->Option Code
 |.block m c=>bif Nat.beq m n then some (.block m c) else iW n c
 |.seq a b=>match iW n a with
  |some c=>some c
  |none=>iW n b
 |.loop c=>iW n c
 |.scope c=>iW n c
 |.cond _ a b=>match iW n a with
  |some c=>some c
  |none=>iW n b
 |_=>none
noncomputable def u6:Code:=((Tryz.f17.body.bind (iW 0)).getD .skip)
def kG(X:Nat->Prop)(bs bb:Nat)(nv vv:Value)(g:af)(next:List Int)(w0:World)(L:Nat)(n:Int)(name:ByteArray)(kind:Int)(J:Act->World->Prop):Prop :=
 ∀(a':Act) (w':World),(∃u12 u13 u14 u16 u17 u18 u19 u20 u21 u22 u23 u24 u25 u26 u27 u28 u29 u31 u32 u33 u34 u35 u36 u37 u38 u39 u40 u41 u42 u43 u44 u45 u46 u47 u48 u49 u50 u51 u52 u53 u54 u55 u56 u57 u58 u59 u60 u61 u62 u63 u64 u65 u66 u67 u68 u69 u70 u71 u72 u73 u74 u75 u76 u77 u78 u79 u80 u81 u82 u83 u84 u85 u86 u87 u88 u89 u90 u91 u92 u93 u94 u95 u96 u97 u98 u99 u100 u101 u102 u103 u104 u105 u106 u107 u108 u109 u110 u111 u112 u113 u114 u115 u116 u117 u118 u119 u120 u121 u122 u123 u124 u125 u126 u127 u128 u129 u130 u131 u132 u133 u134 u135 u136 u137 u138 u139 u140 u141 u142 u143 u144 u145 u146 u147 u148 u149 u150 u151 u152 u153 u154 u155 u156 u157 u158 u159 u160 u161 u162 u163 u164 u165 u166 u167 u168 u169 u170 u171 u172 u173 u174 u175 u176 u177 u178 u179 u180 u181 u182 u183 u184 u185 u186 u187 u188 u189 u190 u191 u192 u193 u194 u195 u196 u197 u198 u199 u200 u201 u202 u203 u204 u205 u206 u207 u208 u209 u210 u211 u212 u213 u214 u215 u216 u217 u218 u219 u220 u221 u222 u223 u224 u225 u226 u227 u228 u229 u230 u231 u232 u233 u234 u235 u236 u237 u238 u239 u240 u241 u242 u243 u244 u245 u246 u247 u248 u249 u250 u251 u252 u253 u254 u255 u256 u257 u258 u259 u260 u261 u262 u263 u264 u265 u266 u267 u268 u269 u270 u271 u272 u273 u274 u275 u276 u277 u278:Value,EM X bs bb nv vv g next w0 L n name kind w'/\a'=⟨#[.pointer (some bb),.string name,.int .i64 kind,undef,undef,undef,.int .i64 g.Gd,.int .i64 n,.pointer (some L),.pointer (some (Tac (L+1) 0)),.pointer (some (Tac (L+1+1) 0)),.func (.func 37) #[] #[.pointer (some (Tac (L+1) 0)),.pointer (some (Tac (L+1+1) 0)),.pointer (some L)],u12,u13,u14,undef,u16,u17,u18,u19,u20,u21,u22,u23,u24,u25,u26,u27,u28,u29,.int .i64 kind,u31,u32,u33,u34,u35,u36,u37,u38,u39,u40,u41,u42,u43,u44,u45,u46,u47,u48,u49,u50,u51,u52,u53,u54,u55,u56,u57,u58,u59,u60,u61,u62,u63,u64,u65,u66,u67,u68,u69,u70,u71,u72,u73,u74,u75,u76,u77,u78,u79,u80,u81,u82,u83,u84,u85,u86,u87,u88,u89,u90,u91,u92,u93,u94,u95,u96,u97,u98,u99,u100,u101,u102,u103,u104,u105,u106,u107,u108,u109,u110,u111,u112,u113,u114,u115,u116,u117,u118,u119,u120,u121,u122,u123,u124,u125,u126,u127,u128,u129,u130,u131,u132,u133,u134,u135,u136,u137,u138,u139,u140,u141,u142,u143,u144,u145,u146,u147,u148,u149,u150,u151,u152,u153,u154,u155,u156,u157,u158,u159,u160,u161,u162,u163,u164,u165,u166,u167,u168,u169,u170,u171,u172,u173,u174,u175,u176,u177,u178,u179,u180,u181,u182,u183,u184,u185,u186,u187,u188,u189,u190,u191,u192,u193,u194,u195,u196,u197,u198,u199,u200,u201,u202,u203,u204,u205,u206,u207,u208,u209,u210,u211,u212,u213,u214,u215,u216,u217,u218,u219,u220,u221,u222,u223,u224,u225,u226,u227,u228,u229,u230,u231,u232,u233,u234,u235,u236,u237,u238,u239,u240,u241,u242,u243,u244,u245,u246,u247,u248,u249,u250,u251,u252,u253,u254,u255,u256,u257,u258,u259,u260,u261,u262,u263,u264,u265,u266,u267,u268,u269,u270,u271,u272,u273,u274,u275,u276,u277,u278],[]⟩)->J a' w'
def JR(k:Int):Prop :=
 ∀(X:Nat->Prop) (bs bb:Nat) (nv vv:Value) (g:af) (next:List Int) (w:World) (name:ByteArray) (_:name.size<=100) (_:1<=g.Gd) (_:g.Gd<=16) (n:Int) (_:1<=n) (_:n<=3) (L:Nat) (W:World)
  (_:vq X bs bb nv vv g next w (L+1+1+1) L (L+1) (L+1+1) (.slice none 0 0) (.slice none 0 0) (.slice none 0 0) (.slice none 0 0) [] [] [] [] n k 1 es 0 W)
  (J K':Act->World->Prop) (Q0:Ending->World->Prop)
  (_:kG X bs bb nv vv g next w L n name k J)
  (_:∀(a':Act) (w':World),Met J a' w'->K' a' w'),
  Code.wp prog u6 (Exit.then K' (bodyPost prog Tryz.f17 Q0)) ⟨#[.pointer (some bb),.string name,.int .i64 k,undef,undef,undef,.int .i64 g.Gd,.int .i64 n,.pointer (some L),.pointer (some (Tac (L+1) 0)),.pointer (some (Tac (L+1+1) 0)),.func (.func 37) #[] #[.pointer (some (Tac (L+1) 0)),.pointer (some (Tac (L+1+1) 0)),.pointer (some L)],undef,undef,undef,undef,.pointer (some bb),.pointer (some bb),.pointer (some (Tac bb 1)),.pointer (some (Tac bb 4)),.int .i64 g.Gd,.pointer (some bb),.pointer (some bb),.pointer (some bb),.pointer (some bs),.int .i64 n,.int .i64 n,.int .i64 k,.agg #[.int .i64 0,.int .i64 n,.int .i64 k,.slice none 0 0,.int .i64 1,.slice none 0 0,.string ⟨#[]⟩,.string ⟨#[]⟩,.int .i64 0,.int .i64 0,.int .i64 0],.func (.func 37) #[] #[.pointer (some (Tac (L+1) 0)),.pointer (some (Tac (L+1+1) 0)),.pointer (some L)],.int .i64 k,undef,undef,undef,undef,undef,undef,undef,undef,undef,undef,undef,undef,undef,undef,undef,undef,undef,undef,undef,undef,undef,undef,undef,undef,undef,undef,undef,undef,undef,undef,undef,undef,undef,undef,undef,undef,undef,undef,undef,undef,undef,undef,undef,undef,undef,undef,undef,undef,undef,undef,undef,undef,undef,undef,undef,undef,undef,undef,undef,undef,undef,undef,undef,undef,undef,undef,undef,undef,undef,undef,undef,undef,undef,undef,undef,undef,undef,undef,undef,undef,undef,undef,undef,undef,undef,undef,undef,undef,undef,undef,undef,undef,undef,undef,undef,undef,undef,undef,undef,undef,undef,undef,undef,undef,undef,undef,undef,undef,undef,undef,undef,undef,undef,undef,undef,undef,undef,undef,undef,undef,undef,undef,undef,undef,undef,undef,undef,undef,undef,undef,undef,undef,undef,undef,undef,undef,undef,undef,undef,undef,undef,undef,undef,undef,undef,undef,undef,undef,undef,undef,undef,undef,undef,undef,undef,undef,undef,undef,undef,undef,undef,undef,undef,undef,undef,undef,undef,undef,undef,undef,undef,undef,undef,undef,undef,undef,undef,undef,undef,undef,undef,undef,undef,undef,undef,undef,undef,undef,undef,undef,undef,undef,undef,undef,undef,undef,undef,undef,undef,undef,undef,undef,undef,undef,undef,undef,undef,undef,undef,undef,undef,undef,undef,undef,undef,undef,undef,undef,undef,undef,undef,undef,undef,undef,undef,undef,undef,undef,undef,undef,undef,undef,undef,undef,undef,undef,undef,undef,undef,undef,undef,undef,undef,undef,undef,undef,undef,undef],[]⟩ W
end Go.Proofs.YtillcmhjhajimaaGreatDoor
