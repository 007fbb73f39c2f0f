/- Lemmas: SpC, Mpv, Chk. -/
import Derived.Test.YtjdfihglehfelaaGreatDoorPf10
set_option maxRecDepth 100000
set_option maxHeartbeats 32000000
set_option linter.all false
namespace Go.Proofs.YtjdfihglehfelaaGreatDoor
open Go.Proofs.Tryz
open Go.RowKit
structure gy where
 vol:ByteArray
 disk:ByteArray
 start:Int
 len:Int
def FN (x:gy):Array Value:=#[.agg #[.string x.vol,.string x.disk,.int .i64 x.start,.int .i64 x.len]]
def aJ (name:ByteArray)(s:aB)(a:aR):gy:=⟨name,a.on,a.start,iB s.kind s.length s.Ga.length⟩
def fP (s:aB):Prop:=s.kind=1\/s.kind=2\/s.kind=8
instance (s:aB):Decidable (fP s):=inferInstanceAs (Decidable (_\/_\/_))
def aK (name:ByteArray)(s:aB):List gy:=if fP s then s.Ga.map (aJ name s) else []
def aW (v:ay):List gy:=v.Gf.flatMap (aK v.name)
def pieces (vs:List ay):List gy:=vs.flatMap aW
def qx (vs:List ay):Prop:=∀ v∈vs,v.Gf.length<=1000/\∀ s∈v.Gf,(0<=s.length/\s.length<=1000000)/\s.Ga.length<=1000/\(fP s->∀ a∈s.Ga,a.vol=false)
def FW (t:TypeId):Bool:=t == 55||t == 79
def JS (n₀:Nat)(W W':World):Prop:=Below n₀ W W'/\∀ (k:Nat) (cs:Array Value) (t:TypeId) (z:Nat × Nat),W.heap[k]?=some (.cells cs t z)->FW t=true->W'.heap[k]?=W.heap[k]?
theorem JS.trans {n₀:Nat}{A B C:World}(h:JS n₀ A B)(k:JS n₀ B C):JS n₀ A C:=⟨h.1.trans k.1,fun i cs t z e ht=>by
 have h1:=h.2 i cs t z e ht
 exact (k.2 i cs t z (h1.trans e) ht).trans h1⟩
theorem JS.of_below {n₀:Nat}{A B:World}(h:Below A.heap.size A B)(hn:n₀<=A.heap.size):JS n₀ A B:=⟨h.mono hn,fun i _cs _t _z e _=>h.block i (aq e)⟩
theorem cK {A B:World}(h:Below A.heap.size A B):A.grownBy B none:=⟨h.os,h.tape,h.output,h.size,fun k hk _=>h.block k hk⟩
theorem kz {F:Fence}{m:Nat}{P:Program}{l:Nat}{args:Array Value}{W:World}{R R':Ending->World->Prop}(h:YieldAt F m P l args W R)(hR:∀ e w,R e w->R' e w):YieldAt F m P l args W R':=by
 obtain ⟨fn,tmps,assign,body,hy,h⟩:=h;exact ⟨fn,tmps,assign,body,hy,h.mono hR⟩
theorem rz {α β:Type}{l:List α}{k:Nat}{x:α}(h:l[k]?=some x)(f:α->List β):l.flatMap f=(l.take k).flatMap f++(f x++(l.drop (k+1)).flatMap f):=by
 have hk:=(List.getElem?_eq_some_iff.1 h).1;have hx:=(List.getElem?_eq_some_iff.1 h).2;conv=>lhs;rw [<- rk k l,xt,tB hk,lB,hx]
theorem gq {α β:Type}{l:List α}{k:Nat}{x:α}(h:l[k]?=some x)(f:α->List β):(l.take (k+1)).flatMap f=(l.take k).flatMap f++f x:=by
 rw [take_snoc' l k x h];simp
theorem Fa {α β:Type}{l:List α}{k:Nat}{x:α}(h:l[k]?=some x)(f:α->β):l.map f=(l.take k).map f++(f x :: (l.drop (k+1)).map f):=by
 have hk:=(List.getElem?_eq_some_iff.1 h).1;have hx:=(List.getElem?_eq_some_iff.1 h).2;conv=>lhs;rw [<- rk k l,gl,tB hk,iu,hx]
theorem oz {vs:List ay}{v:ay}{s:aB}{a:aR}{k q p:Nat}(hv:vs[k]?=some v)(hs:v.Gf[q]?=some s)(ha:s.Ga[p]?=some a)(ho:fP s) :
  ∃ rest,pieces vs=(((vs.take k).flatMap aW++(v.Gf.take q).flatMap (aK v.name))++(s.Ga.take p).map (aJ v.name s))++(aJ v.name s a :: rest):=by
 refine ⟨(s.Ga.drop (p+1)).map (aJ v.name s)++((v.Gf.drop (q+1)).flatMap (aK v.name)++(vs.drop (k+1)).flatMap aW),?_⟩;unfold pieces;rw [rz hv,show aW v=v.Gf.flatMap (aK v.name) from rfl,rz hs,show aK v.name s=s.Ga.map (aJ v.name s) from aw ho,Fa ha];simp [cV]
theorem ck.elem {α:Type}{V:jx α}{sz:Nat}{ok:Nat->Prop}{w:World}{p:Option Addr}{cap:Nat}{l:List α}(h:ck V sz ok w [.slice p l.length cap] l){k:Nat}{x:α}(hk:l[k]?=some x) :
  ∃ b off u,p=some ⟨b,off,none⟩/\ok b/\b<w.heap.size/\u.length=sz/\V ok w u x/\∀ (j:Nat) (z:Value),u[j]?=some z->w.cell? ⟨b,off+k*sz+j,none⟩=some z:=by
 obtain ⟨p',cap',e,_,_,h3⟩:=h;obtain ⟨b,off,rfl,hb,ho,hc⟩:=h3 (by have:=(List.getElem?_eq_some_iff.1 hk).1;omega);obtain ⟨u,h1,h2,h3⟩:=hc k x hk;refine ⟨b,off,u,?_,ho,hb,h1,h2,h3⟩;injection e with e
 injection e with e
theorem ck.cap {α:Type}{V:jx α}{sz:Nat}{ok:Nat->Prop}{w:World}{v:Value}{l:List α}(h:ck V sz ok w [v] l):∃ p cap,v=.slice p l.length cap/\l.length<=cap/\cap<=9223372036854775807:=by
 obtain ⟨p,cap,e,h1,h2,_⟩:=h;exact ⟨p,cap,List.singleton_inj.1 e,h1,h2⟩
theorem zh (n n₀ Bg:Nat)(w:World)(vp:Option Addr)(IY:Nat)(vs:List ay)(hc:w.cell? ⟨Bg,7,none⟩=some (.slice vp vs.length IY))(Ms:Bg<w.heap.size)(hn:n₀<=w.heap.size)
  (hr:ck aN 6 (fun b=>b<n₀) w [.slice vp vs.length IY] vs) (ht:qx vs) (mb:vs.length<=1000) :
  SeqStopsK Fence.wide n prog 200 #[.pointer (some ⟨Bg,0,none⟩)] FN (JS n₀) (fun xs=>xs=pieces vs) (fun pre=>pre <+: pieces vs) (pieces vs).length w:=by
 intro l J Jx W hW hJ Z9 hY h0;refine callsIn_wide.2 ?_;show Calls prog 200 #[.func (.yield l) #[] #[],.pointer (some ⟨Bg,0,none⟩)] W _;have hcW:W.cell? ⟨Bg,7,none⟩=some (.slice vp vs.length IY):=(cd (w:=w) (hW.block Bg Ms)).trans hc;have HR:=aa ((ck.moves aN.moves).mv (ok':=fun b=>b<n₀) ⟨hW.size,fun b hb ho=>⟨ho,hW.block b hb⟩⟩ hr);have hnW:=cA hn hW.size;have HT:=aa ht;have HY:=aa hY;have HJ:=aa hJ;clear hc hr ht hY hJ Z9;go_enter func200,ntmps200;go_wp2
 go_loopw [12] (fun i wr=>∃ k:Nat,k<=vs.length/\i=.int .i64 k/\J ((vs.take k).flatMap aW) wr/\Below n₀ W wr/\W.heap.size<=wr.heap.size) (fun i _=>vs.length - (intOf i).toNat)
 case atStart=>exact ⟨0,cg _,rfl,by simpa using h0,bj _ _,bk _⟩
 case round =>
  obtain ⟨k,hk,rfl,hJs,hB,hz⟩:=hrel
  by_cases hlt:k<vs.length
  ·obtain ⟨v,hv⟩:=aj vs k hlt
   have Qd:=HT.o v (ct hv);have GF:=Qd.1;have Vc:=aa Qd.2;clear Qd;obtain ⟨b,off,u,rfl,gR,cX,ez,sA,hcv⟩:=HR.o.elem hv;obtain ⟨tv,gv,rfl,ew,hgr⟩:=sA;obtain ⟨tp,tc,rfl,_,_⟩:=ew.cap;obtain ⟨gp,gc,rfl,hg1,hg2⟩:=hgr.cap;have cT:wr.heap[b]?=W.heap[b]?:=hB.block b gR;have q0:=(cd (w:=W) (a:=⟨b,off+k*6,none⟩) cT).trans (hcv 0 _ rfl);have q1:=(cd (w:=W) (a:=⟨b,off+k*6+1,none⟩) cT).trans (hcv 1 _ rfl);have q2:=(cd (w:=W) (a:=⟨b,off+k*6+2,none⟩) cT).trans (hcv 2 _ rfl);have q3:=(cd (w:=W) (a:=⟨b,off+k*6+3,none⟩) cT).trans (hcv 3 _ rfl);have q4:=(cd (w:=W) (a:=⟨b,off+k*6+4,none⟩) cT).trans (hcv 4 _ rfl);have q5:=(cd (w:=W) (a:=⟨b,off+k*6+5,none⟩) cT).trans (hcv 5 _ rfl);have HV:=aa hv;clear hv;have Lm:=aa hgr;clear hgr;clear ew hcv ez cT;have hb1:=ae wr (.cells #[.string v.name,.int .u64 v.id,.bool v.hidden,.bool v.ro,.slice tp v.tags.length tc,.slice gp v.Gf.length gc] 55);have zv:=aa (b9 wr (.cells #[.string v.name,.int .u64 v.id,.bool v.hidden,.bool v.ro,.slice tp v.tags.length tc,.slice gp v.Gf.length gc] 55));have HJ1:=aa (HJ.o _ _ _ none hJs (cK hb1) (fun r e=>by cases e))
   have cU:=aa (hB.trans (hb1.mono (by omega)));have HZ1:=aa (cA hz hb1.size);clear hb1;clear hJs
   go_upto_block 2 with (fail)
   clear q0 q1 q2 q3 q4 q5;generalize hW1:wr.alloc _=W1 at *;generalize Vd:wr.heap.size=Bv at *;clear hW1 hB hz Vd;go_wp2
   go_loopw [19] (fun j wr2=>∃ q:Nat,q<=v.Gf.length/\j=.int .i64 q/\J ((vs.take k).flatMap aW++(v.Gf.take q).flatMap (aK v.name)) wr2/\Below n₀ W wr2/\W.heap.size<=wr2.heap.size/\wr2.heap[Bv]?=some (.cells #[.string v.name,.int .u64 v.id,.bool v.hidden,.bool v.ro,.slice tp v.tags.length tc,.slice gp v.Gf.length gc] 55 (0,0))) (fun j _=>v.Gf.length - (intOf j).toNat)
   case atStart=>exact ⟨0,cg _,rfl,by simpa using HJ1.o,cU.o,HZ1.o,zv.o⟩
   case round =>
    obtain ⟨q,hq,rfl,hJs,hB,hz,vA⟩:=hrel
    by_cases hlt2:q<v.Gf.length
    ·obtain ⟨s,hs⟩:=aj v.Gf q hlt2
     have OP:=Vc.o s (ct hs);have hl0:=OP.1.1;have hl1:=OP.1.2;have Jb:=OP.2.1;have JZ:=aa OP.2.2;clear OP;obtain ⟨b2,off2,u2,rfl,I0,C2,B5,eE,hcs⟩:=Lm.o.elem hs;obtain ⟨av,kp,rfl,gg,QT⟩:=eE;obtain ⟨ap,ac,rfl,ha1,ha2⟩:=gg.cap;obtain ⟨sp,sc,rfl,_,_⟩:=QT.cap;have cT:wr.heap[b2]?=W.heap[b2]?:=hB.block b2 I0;have q0:=(cd (w:=W) (a:=⟨b2,off2+q*11,none⟩) cT).trans (hcs 0 _ rfl);have q1:=(cd (w:=W) (a:=⟨b2,off2+q*11+1,none⟩) cT).trans (hcs 1 _ rfl);have q2:=(cd (w:=W) (a:=⟨b2,off2+q*11+2,none⟩) cT).trans (hcs 2 _ rfl);have q3:=(cd (w:=W) (a:=⟨b2,off2+q*11+3,none⟩) cT).trans (hcs 3 _ rfl);have q4:=(cd (w:=W) (a:=⟨b2,off2+q*11+4,none⟩) cT).trans (hcs 4 _ rfl);have q5:=(cd (w:=W) (a:=⟨b2,off2+q*11+5,none⟩) cT).trans (hcs 5 _ rfl);have q6:=(cd (w:=W) (a:=⟨b2,off2+q*11+6,none⟩) cT).trans (hcs 6 _ rfl);have q7:=(cd (w:=W) (a:=⟨b2,off2+q*11+7,none⟩) cT).trans (hcs 7 _ rfl);have q8:=(cd (w:=W) (a:=⟨b2,off2+q*11+8,none⟩) cT).trans (hcs 8 _ rfl);have q9:=(cd (w:=W) (a:=⟨b2,off2+q*11+9,none⟩) cT).trans (hcs 9 _ rfl);have q10:=(cd (w:=W) (a:=⟨b2,off2+q*11+10,none⟩) cT).trans (hcs 10 _ rfl);have B6:=aa hs;clear hs;have ya:=aa gg;clear gg;clear QT hcs B5 cT;have hb2:=ae wr (.cells #[.int .i64 s.start,.int .i64 s.length,.int .i64 s.kind,.slice ap s.Ga.length ac,.int .i64 s.chunk,.slice sp s.stale.length sc,.string s.log,.string s.pool,.int .i64 s.device,.int .i64 s.mode,.int .i64 s.done] 79);have lj:=aa (b9 wr (.cells #[.int .i64 s.start,.int .i64 s.length,.int .i64 s.kind,.slice ap s.Ga.length ac,.int .i64 s.chunk,.slice sp s.stale.length sc,.string s.log,.string s.pool,.int .i64 s.device,.int .i64 s.mode,.int .i64 s.done] 79));have J0:=aa ((hb2.block Bv (aq vA)).trans vA);have TX:=aa (HJ.o _ _ _ none hJs (cK hb2) (fun r e=>by cases e))
     have cm:=aa (hB.trans (hb2.mono (by omega)));have NV:=aa (cA hz hb2.size);have k2:(wr.alloc (.cells #[.int .i64 s.start,.int .i64 s.length,.int .i64 s.kind,.slice ap s.Ga.length ac,.int .i64 s.chunk,.slice sp s.stale.length sc,.string s.log,.string s.pool,.int .i64 s.device,.int .i64 s.mode,.int .i64 s.done] 79)).cell? ⟨wr.heap.size,2,none⟩=some (.int .i64 s.kind):=aD rfl rfl;have k3:(wr.alloc (.cells #[.int .i64 s.start,.int .i64 s.length,.int .i64 s.kind,.slice ap s.Ga.length ac,.int .i64 s.chunk,.slice sp s.stale.length sc,.string s.log,.string s.pool,.int .i64 s.device,.int .i64 s.mode,.int .i64 s.done] 79)).cell? ⟨wr.heap.size,3,none⟩=some (.slice ap s.Ga.length ac):=aD rfl rfl;clear hJs hb2 vA
     by_cases G0:fP s
     ·have OU:s.kind=1\/s.kind=2\/s.kind=8:=G0
      have E4:=aa G0;clear G0
      go_upto_region 6 with (fail)
      clear q0 q1 q2 q3 q4 q5 q6 q7 q8 q9 q10;generalize hW2:wr.alloc _=W2 at *;generalize I1:wr.heap.size=Bs at *;clear hW2 hB hz I1;rcases OU with zE | zE | zE
      ·have Lk:(s.kind != 1)=false:=by simp [zE]
       clear zE;go_wp2;clear k2 k3
       go_loopw [39] (fun m wr3=>∃ p:Nat,p<=s.Ga.length/\m=.int .i64 p/\J (((vs.take k).flatMap aW++(v.Gf.take q).flatMap (aK v.name))++(s.Ga.take p).map (aJ v.name s)) wr3/\Below n₀ W wr3/\W.heap.size<=wr3.heap.size/\wr3.heap[Bv]?=some (.cells #[.string v.name,.int .u64 v.id,.bool v.hidden,.bool v.ro,.slice tp v.tags.length tc,.slice (some ⟨b2,off2,none⟩) v.Gf.length gc] 55 (0,0))/\wr3.heap[Bs]?=some (.cells #[.int .i64 s.start,.int .i64 s.length,.int .i64 s.kind,.slice ap s.Ga.length ac,.int .i64 s.chunk,.slice sp s.stale.length sc,.string s.log,.string s.pool,.int .i64 s.device,.int .i64 s.mode,.int .i64 s.done] 79 (0,0))) (fun m _=>s.Ga.length - (intOf m).toNat)
       case atStart=>exact ⟨0,cg _,rfl,by simpa using TX.o,cm.o,NV.o,J0.o,lj.o⟩
       case round =>
        obtain ⟨p,hp,rfl,hJs,hB,hz,vA,gO⟩:=hrel
        by_cases hlt3:p<s.Ga.length
        ·obtain ⟨a,ha⟩:=aj s.Ga p hlt3
         have B4:=JZ.o E4.o a (ct ha);obtain ⟨b3,off3,u3,rfl,B7,wa,pT,JJ,mB⟩:=ya.o.elem ha;obtain rfl:u3=[.bool a.vol,.string a.on,.int .i64 a.start]:=JJ;rw [B4] at mB;have cT:wr.heap[b3]?=W.heap[b3]?:=hB.block b3 B7;have q0:=(cd (w:=W) (a:=⟨b3,off3+p*3,none⟩) cT).trans (mB 0 _ rfl);have q1:=(cd (w:=W) (a:=⟨b3,off3+p*3+1,none⟩) cT).trans (mB 1 _ rfl);have q2:=(cd (w:=W) (a:=⟨b3,off3+p*3+2,none⟩) cT).trans (mB 2 _ rfl);have hb3:=ae wr (.cells #[.bool false,.string a.on,.int .i64 a.start] 60);have yb:=aa (b9 wr (.cells #[.bool false,.string a.on,.int .i64 a.start] 60));have pZ:=aa ((hb3.block Bv (aq vA)).trans vA);have nB:=aa ((hb3.block Bs (aq gO)).trans gO);have QU:=aa (HJ.o _ _ _ none hJs (cK hb3) (fun r e=>by cases e))
         have cJ:=aa (hB.trans (hb3.mono (by omega)));have Lp:=aa (cA hz hb3.size);obtain ⟨rest,od⟩:=oz HV.o B6.o ha E4.o;have CI:=aa od;clear od;have HA:=aa ha;clear ha;clear hJs hb3 vA gO mB cT pT B4
         go_upto_region 10 with (fail)
         clear q0 q1 q2;generalize hW3:wr.alloc _=W3 at *;generalize Lr:wr.heap.size=Ba at *;clear hW3 hB hz Lr;refine lW (n':=n - 1) (name:=v.name) (on:=a.on) (s:=a.start) (R:=fun go w2=>(go=true/\J ((((vs.take k).flatMap aW++(v.Gf.take q).flatMap (aK v.name))++(s.Ga.take p).map (aJ v.name s))++[aJ v.name s a]) w2/\JS n₀ W3 w2)\/(go=false/\Jx ((((vs.take k).flatMap aW++(v.Gf.take q).flatMap (aK v.name))++(s.Ga.take p).map (aJ v.name s))++[aJ v.name s a]) w2)) (by simp [World.cell?,pZ.o]) yb.o nB.o hl0 hl1 Jb (aq pZ.o) ?_ _ _ _ _ _ _ _ _ _ _ _ _ _ _ _ _ _ _ _ _ _ _ _ _ _ _ _ _ _ _ _ _ _ _ _ _ _ _ _ _ _ _ _ _ _ _ _ _ _ _ _ _ _ _ _ _ _ _ _ _ _ (fun _ _ _ _ _ h=>h) (aa ?_)
         ·intro w' hb
          refine kz (HY.o (((vs.take k).flatMap aW++(v.Gf.take q).flatMap (aK v.name))++(s.Ga.take p).map (aJ v.name s)) (aJ v.name s a) w' (HJ.o _ _ _ none QU.o (cK hb) (fun r e=>by cases e)) (by have e:=fj List.length CI.o;rw [cD,cS] at e;omega)) (fun e w2 q=>?_)
          rcases q with ⟨rfl,h1,h2⟩ | ⟨rfl,h1⟩
          ·exact ⟨true,rfl,.inl ⟨rfl,h1,(JS.of_below hb (by have:=Lp.o;omega)).trans h2⟩⟩
          ·exact ⟨false,rfl,.inr ⟨rfl,h1⟩⟩
         ·intro go w5 u43 u44 u45 u46 u47 u48 u49 u50 u51 u52 u53 u54 u55 u56 u57 u58 hR
          rcases hR with ⟨rfl,hJ5,hk5⟩ | ⟨rfl,Jk⟩
          ·have Ls:=aa hJ5;clear hJ5
           have HK5:=aa hk5;clear hk5;go_wp2;go_roundw
           case rel=>exact ⟨p+1,by omega,by go_num,by rw [take_snoc' _ _ _ HA.o,gl,<- cV];exact Ls.o,cJ.o.trans HK5.o.1,cA Lp.o HK5.o.1.size,(HK5.o.2 Bv _ _ _ pZ.o rfl).trans pZ.o,(HK5.o.2 Bs _ _ _ nB.o rfl).trans nB.o⟩
           case measure=>simp [intOf];omega
          ·have Ls:=aa Jk;clear Jk
           go_wp2;refine eC (results_none rfl _ _ _) rfl ⟨⟨_,rfl⟩,.inr ⟨_,⟨rest,?_⟩,Ls.o⟩⟩;rw [CI.o,cV];rfl
        ·obtain rfl:p=s.Ga.length:=by omega
         rw [cI] at hJs;have OV:=aa hJs;clear hJs;have Qe:=aa vA;clear vA;have Kz:=aa gO;clear gO;go_wp2;go_roundw
         case rel=>exact ⟨q+1,by omega,by go_num,by rw [gq B6.o,show aK v.name s=s.Ga.map (aJ v.name s) from aw E4.o,<- cV];exact OV.o,hB,hz,Qe.o⟩
         case measure=>simp [intOf];omega
      ·have Lk:(s.kind != 1)=true:=by simp [zE]
       have QV:(s.kind != 2)=false:=by simp [zE]
       clear zE;go_wp2;clear k2 k3
       go_loopw [39] (fun m wr3=>∃ p:Nat,p<=s.Ga.length/\m=.int .i64 p/\J (((vs.take k).flatMap aW++(v.Gf.take q).flatMap (aK v.name))++(s.Ga.take p).map (aJ v.name s)) wr3/\Below n₀ W wr3/\W.heap.size<=wr3.heap.size/\wr3.heap[Bv]?=some (.cells #[.string v.name,.int .u64 v.id,.bool v.hidden,.bool v.ro,.slice tp v.tags.length tc,.slice (some ⟨b2,off2,none⟩) v.Gf.length gc] 55 (0,0))/\wr3.heap[Bs]?=some (.cells #[.int .i64 s.start,.int .i64 s.length,.int .i64 s.kind,.slice ap s.Ga.length ac,.int .i64 s.chunk,.slice sp s.stale.length sc,.string s.log,.string s.pool,.int .i64 s.device,.int .i64 s.mode,.int .i64 s.done] 79 (0,0))) (fun m _=>s.Ga.length - (intOf m).toNat)
       case atStart=>exact ⟨0,cg _,rfl,by simpa using TX.o,cm.o,NV.o,J0.o,lj.o⟩
       case round =>
        obtain ⟨p,hp,rfl,hJs,hB,hz,vA,gO⟩:=hrel
        by_cases hlt3:p<s.Ga.length
        ·obtain ⟨a,ha⟩:=aj s.Ga p hlt3
         have B4:=JZ.o E4.o a (ct ha);obtain ⟨b3,off3,u3,rfl,B7,wa,pT,JJ,mB⟩:=ya.o.elem ha;obtain rfl:u3=[.bool a.vol,.string a.on,.int .i64 a.start]:=JJ;rw [B4] at mB;have cT:wr.heap[b3]?=W.heap[b3]?:=hB.block b3 B7;have q0:=(cd (w:=W) (a:=⟨b3,off3+p*3,none⟩) cT).trans (mB 0 _ rfl);have q1:=(cd (w:=W) (a:=⟨b3,off3+p*3+1,none⟩) cT).trans (mB 1 _ rfl);have q2:=(cd (w:=W) (a:=⟨b3,off3+p*3+2,none⟩) cT).trans (mB 2 _ rfl);have hb3:=ae wr (.cells #[.bool false,.string a.on,.int .i64 a.start] 60);have yb:=aa (b9 wr (.cells #[.bool false,.string a.on,.int .i64 a.start] 60));have pZ:=aa ((hb3.block Bv (aq vA)).trans vA);have nB:=aa ((hb3.block Bs (aq gO)).trans gO);have QU:=aa (HJ.o _ _ _ none hJs (cK hb3) (fun r e=>by cases e))
         have cJ:=aa (hB.trans (hb3.mono (by omega)));have Lp:=aa (cA hz hb3.size);obtain ⟨rest,od⟩:=oz HV.o B6.o ha E4.o;have CI:=aa od;clear od;have HA:=aa ha;clear ha;clear hJs hb3 vA gO mB cT pT B4
         go_upto_region 10 with (fail)
         clear q0 q1 q2;generalize hW3:wr.alloc _=W3 at *;generalize Lr:wr.heap.size=Ba at *;clear hW3 hB hz Lr;refine lW (n':=n - 1) (name:=v.name) (on:=a.on) (s:=a.start) (R:=fun go w2=>(go=true/\J ((((vs.take k).flatMap aW++(v.Gf.take q).flatMap (aK v.name))++(s.Ga.take p).map (aJ v.name s))++[aJ v.name s a]) w2/\JS n₀ W3 w2)\/(go=false/\Jx ((((vs.take k).flatMap aW++(v.Gf.take q).flatMap (aK v.name))++(s.Ga.take p).map (aJ v.name s))++[aJ v.name s a]) w2)) (by simp [World.cell?,pZ.o]) yb.o nB.o hl0 hl1 Jb (aq pZ.o) ?_ _ _ _ _ _ _ _ _ _ _ _ _ _ _ _ _ _ _ _ _ _ _ _ _ _ _ _ _ _ _ _ _ _ _ _ _ _ _ _ _ _ _ _ _ _ _ _ _ _ _ _ _ _ _ _ _ _ _ _ _ _ (fun _ _ _ _ _ h=>h) (aa ?_)
         ·intro w' hb
          refine kz (HY.o (((vs.take k).flatMap aW++(v.Gf.take q).flatMap (aK v.name))++(s.Ga.take p).map (aJ v.name s)) (aJ v.name s a) w' (HJ.o _ _ _ none QU.o (cK hb) (fun r e=>by cases e)) (by have e:=fj List.length CI.o;rw [cD,cS] at e;omega)) (fun e w2 q=>?_)
          rcases q with ⟨rfl,h1,h2⟩ | ⟨rfl,h1⟩
          ·exact ⟨true,rfl,.inl ⟨rfl,h1,(JS.of_below hb (by have:=Lp.o;omega)).trans h2⟩⟩
          ·exact ⟨false,rfl,.inr ⟨rfl,h1⟩⟩
         ·intro go w5 u43 u44 u45 u46 u47 u48 u49 u50 u51 u52 u53 u54 u55 u56 u57 u58 hR
          rcases hR with ⟨rfl,hJ5,hk5⟩ | ⟨rfl,Jk⟩
          ·have Ls:=aa hJ5;clear hJ5
           have HK5:=aa hk5;clear hk5;go_wp2;go_roundw
           case rel=>exact ⟨p+1,by omega,by go_num,by rw [take_snoc' _ _ _ HA.o,gl,<- cV];exact Ls.o,cJ.o.trans HK5.o.1,cA Lp.o HK5.o.1.size,(HK5.o.2 Bv _ _ _ pZ.o rfl).trans pZ.o,(HK5.o.2 Bs _ _ _ nB.o rfl).trans nB.o⟩
           case measure=>simp [intOf];omega
          ·have Ls:=aa Jk;clear Jk
           go_wp2;refine eC (results_none rfl _ _ _) rfl ⟨⟨_,rfl⟩,.inr ⟨_,⟨rest,?_⟩,Ls.o⟩⟩;rw [CI.o,cV];rfl
        ·obtain rfl:p=s.Ga.length:=by omega
         rw [cI] at hJs;have OV:=aa hJs;clear hJs;have Qe:=aa vA;clear vA;have Kz:=aa gO;clear gO;go_wp2;go_roundw
         case rel=>exact ⟨q+1,by omega,by go_num,by rw [gq B6.o,show aK v.name s=s.Ga.map (aJ v.name s) from aw E4.o,<- cV];exact OV.o,hB,hz,Qe.o⟩
         case measure=>simp [intOf];omega
      ·have Lk:(s.kind != 1)=true:=by simp [zE]
       have QV:(s.kind != 2)=true:=by simp [zE]
       have Ve:(s.kind != 8)=false:=by simp [zE]
       clear zE;go_wp2;clear k2 k3
       go_loopw [39] (fun m wr3=>∃ p:Nat,p<=s.Ga.length/\m=.int .i64 p/\J (((vs.take k).flatMap aW++(v.Gf.take q).flatMap (aK v.name))++(s.Ga.take p).map (aJ v.name s)) wr3/\Below n₀ W wr3/\W.heap.size<=wr3.heap.size/\wr3.heap[Bv]?=some (.cells #[.string v.name,.int .u64 v.id,.bool v.hidden,.bool v.ro,.slice tp v.tags.length tc,.slice (some ⟨b2,off2,none⟩) v.Gf.length gc] 55 (0,0))/\wr3.heap[Bs]?=some (.cells #[.int .i64 s.start,.int .i64 s.length,.int .i64 s.kind,.slice ap s.Ga.length ac,.int .i64 s.chunk,.slice sp s.stale.length sc,.string s.log,.string s.pool,.int .i64 s.device,.int .i64 s.mode,.int .i64 s.done] 79 (0,0))) (fun m _=>s.Ga.length - (intOf m).toNat)
       case atStart=>exact ⟨0,cg _,rfl,by simpa using TX.o,cm.o,NV.o,J0.o,lj.o⟩
       case round =>
        obtain ⟨p,hp,rfl,hJs,hB,hz,vA,gO⟩:=hrel
        by_cases hlt3:p<s.Ga.length
        ·obtain ⟨a,ha⟩:=aj s.Ga p hlt3
         have B4:=JZ.o E4.o a (ct ha);obtain ⟨b3,off3,u3,rfl,B7,wa,pT,JJ,mB⟩:=ya.o.elem ha;obtain rfl:u3=[.bool a.vol,.string a.on,.int .i64 a.start]:=JJ;rw [B4] at mB;have cT:wr.heap[b3]?=W.heap[b3]?:=hB.block b3 B7;have q0:=(cd (w:=W) (a:=⟨b3,off3+p*3,none⟩) cT).trans (mB 0 _ rfl);have q1:=(cd (w:=W) (a:=⟨b3,off3+p*3+1,none⟩) cT).trans (mB 1 _ rfl);have q2:=(cd (w:=W) (a:=⟨b3,off3+p*3+2,none⟩) cT).trans (mB 2 _ rfl);have hb3:=ae wr (.cells #[.bool false,.string a.on,.int .i64 a.start] 60);have yb:=aa (b9 wr (.cells #[.bool false,.string a.on,.int .i64 a.start] 60));have pZ:=aa ((hb3.block Bv (aq vA)).trans vA);have nB:=aa ((hb3.block Bs (aq gO)).trans gO);have QU:=aa (HJ.o _ _ _ none hJs (cK hb3) (fun r e=>by cases e))
         have cJ:=aa (hB.trans (hb3.mono (by omega)));have Lp:=aa (cA hz hb3.size);obtain ⟨rest,od⟩:=oz HV.o B6.o ha E4.o;have CI:=aa od;clear od;have HA:=aa ha;clear ha;clear hJs hb3 vA gO mB cT pT B4
         go_upto_region 10 with (fail)
         clear q0 q1 q2;generalize hW3:wr.alloc _=W3 at *;generalize Lr:wr.heap.size=Ba at *;clear hW3 hB hz Lr;refine lW (n':=n - 1) (name:=v.name) (on:=a.on) (s:=a.start) (R:=fun go w2=>(go=true/\J ((((vs.take k).flatMap aW++(v.Gf.take q).flatMap (aK v.name))++(s.Ga.take p).map (aJ v.name s))++[aJ v.name s a]) w2/\JS n₀ W3 w2)\/(go=false/\Jx ((((vs.take k).flatMap aW++(v.Gf.take q).flatMap (aK v.name))++(s.Ga.take p).map (aJ v.name s))++[aJ v.name s a]) w2)) (by simp [World.cell?,pZ.o]) yb.o nB.o hl0 hl1 Jb (aq pZ.o) ?_ _ _ _ _ _ _ _ _ _ _ _ _ _ _ _ _ _ _ _ _ _ _ _ _ _ _ _ _ _ _ _ _ _ _ _ _ _ _ _ _ _ _ _ _ _ _ _ _ _ _ _ _ _ _ _ _ _ _ _ _ _ (fun _ _ _ _ _ h=>h) (aa ?_)
         ·intro w' hb
          refine kz (HY.o (((vs.take k).flatMap aW++(v.Gf.take q).flatMap (aK v.name))++(s.Ga.take p).map (aJ v.name s)) (aJ v.name s a) w' (HJ.o _ _ _ none QU.o (cK hb) (fun r e=>by cases e)) (by have e:=fj List.length CI.o;rw [cD,cS] at e;omega)) (fun e w2 q=>?_)
          rcases q with ⟨rfl,h1,h2⟩ | ⟨rfl,h1⟩
          ·exact ⟨true,rfl,.inl ⟨rfl,h1,(JS.of_below hb (by have:=Lp.o;omega)).trans h2⟩⟩
          ·exact ⟨false,rfl,.inr ⟨rfl,h1⟩⟩
         ·intro go w5 u43 u44 u45 u46 u47 u48 u49 u50 u51 u52 u53 u54 u55 u56 u57 u58 hR
          rcases hR with ⟨rfl,hJ5,hk5⟩ | ⟨rfl,Jk⟩
          ·have Ls:=aa hJ5;clear hJ5
           have HK5:=aa hk5;clear hk5;go_wp2;go_roundw
           case rel=>exact ⟨p+1,by omega,by go_num,by rw [take_snoc' _ _ _ HA.o,gl,<- cV];exact Ls.o,cJ.o.trans HK5.o.1,cA Lp.o HK5.o.1.size,(HK5.o.2 Bv _ _ _ pZ.o rfl).trans pZ.o,(HK5.o.2 Bs _ _ _ nB.o rfl).trans nB.o⟩
           case measure=>simp [intOf];omega
          ·have Ls:=aa Jk;clear Jk
           go_wp2;refine eC (results_none rfl _ _ _) rfl ⟨⟨_,rfl⟩,.inr ⟨_,⟨rest,?_⟩,Ls.o⟩⟩;rw [CI.o,cV];rfl
        ·obtain rfl:p=s.Ga.length:=by omega
         rw [cI] at hJs;have OV:=aa hJs;clear hJs;have Qe:=aa vA;clear vA;have Kz:=aa gO;clear gO;go_wp2;go_roundw
         case rel=>exact ⟨q+1,by omega,by go_num,by rw [gq B6.o,show aK v.name s=s.Ga.map (aJ v.name s) from aw E4.o,<- cV];exact OV.o,hB,hz,Qe.o⟩
         case measure=>simp [intOf];omega
     ·have n1:¬ s.kind=1:=fun e=>G0 (.inl e)
      have n2:¬ s.kind=2:=fun e=>G0 (.inr (.inl e));have n8:¬ s.kind=8:=fun e=>G0 (.inr (.inr e));have Lk:(s.kind != 1)=true:=by simpa using n1
      have QV:(s.kind != 2)=true:=by simpa using n2
      have Ve:(s.kind != 8)=true:=by simpa using n8
      clear n1 n2 n8;have E4:=aa G0;clear G0
      go_upto_region 6 with (fail)
      clear q0 q1 q2 q3 q4 q5 q6 q7 q8 q9 q10;generalize hW2:wr.alloc _=W2 at *;generalize I1:wr.heap.size=Bs at *;clear hW2 hB hz I1;go_wp2;go_roundw
      case rel=>exact ⟨q+1,by omega,by go_num,by rw [gq B6.o,show aK v.name s=[] from bh E4.o,eM];exact TX.o,cm.o,NV.o,J0.o⟩
      case measure=>simp [intOf];omega
    ·obtain rfl:q=v.Gf.length:=by omega
     rw [cI] at hJs;have OV:=aa hJs;clear hJs;have Qe:=aa vA;clear vA;go_wp2;go_roundw
     case rel=>exact ⟨k+1,by omega,by go_num,by rw [gq HV.o];exact OV.o,hB,hz⟩
     case measure=>simp [intOf];omega
  ·obtain rfl:k=vs.length:=by omega
   rw [cI] at hJs;go_wp2
   go_end0
   exact ⟨⟨_,rfl⟩,.inl ⟨_,rfl,hJs⟩⟩
open Go Go.Maps Go.MapKept Go.ChangeMaps
def FJ (v:Value):Option (DataW Value × List MemPlace):=some (.held v,[])
def zK:Option Value->DataW Value
 | some v=>.held v
 | none=>.nil
theorem oQ {o:Option Value}{v:Value}(h:zK o=.held v):o=some v:=by
 cases o with
 | none=>cases h
 | some u=>cases h;rfl
theorem oP {o:Option Value}(h:zK o=.nil):o=none:=by
 cases o with
 | none=>rfl
 | some u=>cases h
def bi (P:Program)(k:TypeId)(w:World)(b n:Nat)(f:Value->Option Value):Prop :=
 ∃ D:DataW Value,w.ownsMap P k FJ b n D/\∀ key kl,keyOf P k key=some kl->D.atKey kl .nil=zK (f key)
open Classical in
noncomputable def upd (f:Value->Option Value)(key v:Value):Value->Option Value:=fun x=>if x=key then some v else f x
theorem upd_same (f:Value->Option Value)(key v:Value):upd f key v key=some v:=by simp [upd]
theorem bP {f:Value->Option Value}{key v x:Value}(h:x≠key):upd f key v x=f x:=by simp [upd,h]
variable {P:Program}{k:TypeId}{w w':World}{b n:Nat}{f:Value->Option Value}
theorem bi.made (P:Program)(k:TypeId)(w:World):bi P k (w.alloc (.map #[] 0)) w.heap.size 0 (fun _=>none) :=
 ⟨.map [],World.ownsMap_made w P k FJ,fun _ _ _=>rfl⟩
theorem bi.lt (h:bi P k w b n f):b<w.heap.size:=by
 obtain ⟨D,h,_⟩:=h;exact h.lt
theorem bi.mono {m:Nat}(h:bi P k w b n f)(hm:n<=m):bi P k w b m f:=by
 obtain ⟨D,h,hf⟩:=h;exact ⟨D,h.mono hm,hf⟩
theorem bi.block (h:bi P k w b n f)(hb:w'.heap[b]?=w.heap[b]?):bi P k w' b n f:=by
 obtain ⟨D,⟨es,clock,h1,h2⟩,hf⟩:=h;exact ⟨D,⟨es,clock,hb.trans h1,h2⟩,hf⟩
theorem bi.congr {g:Value->Option Value}(h:bi P k w b n f)(hg:∀ key kl,keyOf P k key=some kl->g key=f key):bi P k w b n g:=by
 obtain ⟨D,h,hf⟩:=h;exact ⟨D,h,fun key kl hk=>by rw [hg key kl hk];exact hf key kl hk⟩
theorem bi.ne (h:bi P k w b n f){g:Nat}{cs:Array Value}{t:TypeId}{z:Nat × Nat}(hg:w.heap[g]?=some (.cells cs t z)):b≠g:=by
 obtain ⟨D,⟨es,clock,h1,_⟩,_⟩:=h;rintro rfl;rw [h1] at hg;cases hg
theorem bi.look {t e:TypeId}(h:bi P k w b n f)(K:Keyed P k)(ht:P.underlying t=some (.map k e)){z:Value}(hz:(zeroValue e).run P w=.ok z w){key:Value}{kl:Lit}(hkey:keyOf P k key=some kl) :
  (Instr.lookup t (.map (some b)) key false).run P w=.ok ((f key).getD z) w/\(Instr.lookup t (.map (some b)) key true).run P w=.ok (.tuple #[(f key).getD z,.bool (f key).isSome]) w:=by
 obtain ⟨D,⟨es,clock,hb,F,_,rfl⟩,hf⟩:=h;have NW:=hf key kl hkey;constructor
 ·rcases Maps.fit_look false K ht hz hb F hkey with ⟨hrun,_,hat⟩ | ⟨e0,y,_,_,hrun,hRv,hat,_⟩
  ·rw [hat] at NW
   rw [oP NW.symm];exact hrun
  ·rw [hat] at NW
   cases hRv
   rw [oQ NW.symm];exact hrun
 ·rcases Maps.fit_look true K ht hz hb F hkey with ⟨hrun,_,hat⟩ | ⟨e0,y,_,_,hrun,hRv,hat,_⟩
  ·rw [hat] at NW
   rw [oP NW.symm];exact hrun
  ·rw [hat] at NW
   cases hRv
   rw [oQ NW.symm];exact hrun
theorem bi.store {t e:TypeId}(h:bi P k w b n f)(K:Keyed P k)(ht:P.underlying t=some (.map k e))(hn:n<maxLen){key:Value}{kl:Lit}(hkey:keyOf P k key=some kl)(v:Value) :
  ∃ w',(Instr.mapUpdate t (.map (some b)) key v).run P w=.ok () w'/\bi P k w' b (n+1) (upd f key v)/\w.grownBy w' (some b)/\w'.heap.size=w.heap.size:=by
 obtain ⟨D,h,hf⟩:=h;have hm:=h.isMap;obtain ⟨w',hrun,h1,h2⟩:=h.store (d:=.held v) (ps:=[]) K ht hn hkey rfl;refine ⟨w',hrun,⟨_,h1,fun x kx hx=>?_⟩,h2.grown,?_⟩
 ·by_cases Lt:x=key
  ·subst Lt
   rw [hkey] at hx;cases hx
   rw [upd_same,Maps.atKey_put_same hm (K.key hkey)];rfl
  ·rw [bP Lt,Maps.atKey_put_other (fun e=>Lt (K.inj hx (by rw [e];exact hkey))),hf x kx hx]
 ·obtain ⟨es,c,es',c',_,rfl⟩:=h2
  simp [setBlock]
theorem oJ {row:Nat}(h:w.grownBy w' (some row)){g:Nat}(hg:g<w.heap.size)(hne:g≠row):w'.heap[g]?=w.heap[g]?:=h.block g hg (fun e=>hne (by injection e))
end Go.Proofs.YtjdfihglehfelaaGreatDoor
namespace Go.Proofs.YtjdfihglehfelaaGreatDoor
open Go.Proofs.Tryz
open Go.RowKit Go.Maps
structure eX where
 least:Int
 greatest:Int
 F9:Bool
 several:Bool
 chunk:Int
 stale:Bool
 pool:Bool
 log:Bool
 mode:Bool
 done:Bool
def shapeOf (k:Int):Option eX :=
 if k=1 then some ⟨1,1,false,true,0,false,false,false,false,false⟩
 else if k=2 then some ⟨2,6,false,true,1,false,false,false,false,false⟩
 else if k=3 then some ⟨2,6,true,false,1024,true,false,true,false,false⟩
 else if k=4 then some ⟨3,6,true,false,1,true,false,false,false,false⟩
 else if k=5 then some ⟨2,2,true,false,64,false,false,false,false,false⟩
 else if k=6 then some ⟨0,0,false,false,0,false,true,false,false,false⟩
 else if k=7 then some ⟨3,3,true,false,64,false,false,false,true,false⟩
 else if k=8 then some ⟨2,2,false,true,0,false,false,false,false,true⟩
 else if k=9 then some ⟨0,0,false,true,0,false,false,false,false,false⟩
 else if k=10 then some ⟨0,0,false,true,0,false,false,false,false,false⟩
 else none
def yu:eX:=⟨0,0,false,false,0,false,false,false,false,false⟩
def jR (x:eX):Value:=.agg #[.int .i64 x.least,.int .i64 x.greatest,.bool x.F9,.bool x.several,.int .i64 x.chunk,.bool x.stale,.bool x.pool,.bool x.log,.bool x.mode,.bool x.done]
def eH:Value->Option Value
 | .int .i64 k=>(shapeOf k).map jR
 | _=>none
def eZ (v:ay):Int:=match v.Gf with
 | [s]=>s.kind
 | _=>0
def fF (n l:Int):Int:=min (n+min (max l 0) 1073741824) 1073741824
def C8 (v:ay):Int:=v.Gf.foldl (fun n s=>fF n s.length) 0
def fq (ext ch:Int)(x:eX):Bool :=
 if x.chunk=0 then ch == 0 else if x.chunk=1 then decide (1<=ch)&&ext % ch == 0 else decide (1<=ch)&&decide (ch<=x.chunk)
def bR (st:Bool)(e:Int)(l:List Int)(i:Nat):Bool:=st&&decide (0<=l.getD i 0)&&decide (l.getD i 0<e)&&(decide (i=0)||decide (l.getD (i - 1) 0<l.getD i 0))
def dP (s:aB)(x:eX):Bool:=(List.range s.stale.length).all (bR x.stale (s.Ga.length+if s.log.toList.isEmpty then 0 else 1) s.stale)
def bE (n lo hi:Int)(used:Bool):Bool:=if used then decide (lo<=n)&&decide (n<=hi) else n == 0
def bT (x:eX)(a:aR):Bool:=a.vol == x.F9&&(!a.vol||a.start == 0)
def bJ (ext:Int)(s:aB)(start:Int):Bool:=match shapeOf s.kind with
 | none=>false
 | some x=>s.start == start&&decide (1<=s.length)&&decide (s.length<=32768)&&decide (x.least<=s.Ga.length)&&decide (s.Ga.length<=x.greatest)&&s.Ga.all (bT x) &&
   fq ext s.chunk x&&(x.log||s.log.toList.isEmpty)&&(x.pool||s.pool.toList.isEmpty)&&dP s x&&bE s.device 1 65535 x.pool&&bE s.mode 1 2 x.mode&&bE s.done 0 s.length x.done &&
   !(s.kind == 2&&!(s.length % s.Ga.length == 0))&&!(s.kind == 4&&!(s.length % (s.Ga.length - 1) == 0))
def dD (s:aB)(pool:Bool):List ByteArray:=((s.Ga.filter (·.vol)).map (·.on))++(if s.log.toList.isEmpty then [] else [s.log])++(if pool&&s.kind == 6 then [s.pool] else [])
def dF (w:World)(B:Nat)(v:Value)(l:List ByteArray):Prop:=w.ownsRow B 9 1 v l.length (l.map Value.string)
theorem dF.nil (w:World)(B:Nat):dF w B (.slice none 0 0) []:=gS w B _ 1
theorem dF.blk {w w':World}{B:Nat}{v:Value}{l:List ByteArray}(h:dF w B v l)(hk:∀ k,v.ownBlock=some k->w'.heap[k]?=w.heap[k]?):dF w' B v l:=aC h hk
theorem dF.below {w w':World}{B:Nat}{v:Value}{l:List ByteArray}(h:dF w B v l)(hb:Below w.heap.size w w'):dF w' B v l:=h.blk fun k e=>hb.block k (fh h k e).2
theorem dF.rd {w:World}{B:Nat}{v:Value}{l:List ByteArray}{ok:Nat->Prop}(h:dF w B v l)(gw:∀ b,v.ownBlock=some b->ok b):ck aF 1 ok w [v] l:=by
 obtain ⟨h1,h2⟩:=h;rcases h2 with ⟨rfl,hn⟩ | ⟨g,cap,cur,rfl,hb,hg,vr,hcm,hcs,ht⟩
 ·exact ⟨none,0,by rw [hn],by omega,by omega,fun h=>absurd h (by omega)⟩
 ·refine ⟨some ⟨g,0,none⟩,cap,rfl,vr,by unfold maxLen at hcm;omega,fun _=>⟨g,0,rfl,(Array.getElem?_eq_some_iff.1 hg).1,gw g rfl,fun i x hx=>⟨[.string x],rfl,rfl,fun j z hz=>?_⟩⟩⟩
  have KY:i<l.length:=(List.getElem?_eq_some_iff.1 hx).1;have hc:(l.map Value.string)[i]?=some (Value.string x):=by simp [hx]
  match j,hz with
  | 0,hz =>
   obtain rfl:Value.string x=z:=by simpa using hz
   rw [<- ht,ri (by omega)] at hc;rw [cell_of_row w g (0+i*1+0) cur _ (0,0) hg];simpa using hc
theorem dF.mono {w:World}{B B':Nat}{v:Value}{l:List ByteArray}(h:dF w B v l)(hB:B'<=B):dF w B' v l:=by
 obtain ⟨h1,h2⟩:=h;refine ⟨h1,?_⟩;rcases h2 with hn | ⟨g,cap,cur,hv,pC,r⟩
 ·exact .inl hn
 ·exact .inr ⟨g,cap,cur,hv,by omega,r⟩
theorem dz {w:World}{ops:Array Oper}{rest:List Oper}{o:Oper}{a:Act}{Q:Exit->Act->World->Prop}(hgd:o.guard=none)(s x:Operand)
  (ho:o.op=.call { callee:=.builtin .append,args:=#[s,x],argTypes:=#[26,26] })
  (B:Nat) (v:Value) (l:List ByteArray) (p:ByteArray) (hs:a.eval s=v) (hown:dF w B v l) (g c:Nat) (hx:a.eval x=.slice (some ⟨g,0,none⟩) 1 c)
  (hc:w.cell? ⟨g,0,none⟩=some (.string p)) (hl:l.length<=100000000) (hB:B<=w.heap.size)
  (h:∀ v' w',dF w' B v' (l++[p])->Below B w w'->w.grownBy w' v.ownBlock->wpList prog ops Q rest (a.put o.dst v') w'):wpList prog ops Q (o :: rest) a w:=by
 obtain ⟨i0,hi,hz0,hz1,hz2⟩:=ei o5;refine tE w hgd s x 26 ho B 9 i0 _ 1 16 underlying26 hi hz0 hz1 hz2 rfl (by decide) v l.length (l.map Value.string) hs hown ⟨g,0,none⟩ 1 c [.string p] hx rfl (fun j u hu=>?_) (by simp [Value.oneCell']) (by unfold maxLen;omega) (by omega) hB (fun v' w' ho' hg _=>?_)
 ·rw [iz,eJ]
  match j,hu with
  | 0,hu =>
   obtain rfl:Value.string p=u:=by simpa using hu
   exact hc
 ·refine h v' w' ?_ ((bj B w).grown hg hB (fun k hk=>(fh hown k hk).1)) hg
  unfold dF;rw [gl,cD];exact ho'
end Go.Proofs.YtjdfihglehfelaaGreatDoor
