/- Lemmas: SpR, RgH, RgI, RgJ, RgK. -/
import Derived.Test.YtillcmhjhajimaaGreatDoorQj16
import Derived.Test.YtillcmhjhajimaaGreatDoorQj17
set_option maxRecDepth 100000
set_option maxHeartbeats 32000000
set_option linter.all false
namespace Go.Proofs.YtillcmhjhajimaaGreatDoor
open Go.Proofs.Tryz
open Go.RowKit
variable {B k:Nat}{w w':World}{v:Value}{l:List gy}
theorem Im(st len kd ch dev mode dn:Int)(ap sp:Option Addr)(al ac sl sc:Nat)(log pool:ByteArray)(w:World)(h0:0<=len)(h1:len<=9223372036854775807)(ha:al<=1000000) :
  Calls prog 63 #[.agg (Tax st len kd al ap ac ch sl sp sc log pool dev mode dn)] w fun e w'=>e=.returned (.int .i64 (iB kd len al))/\Below w.heap.size w w':=by
 have hb:=ae w (.cells (Tax st len kd al ap ac ch sl sp sc log pool dev mode dn) 88);have HB:=aa hb;clear hb;go_enter func63,ntmps63
 exact TaW
def Gt:jx gy:=fun _ _ vs x=>vs=[.string x.vol,.string x.disk,.int .i64 x.start,.int .i64 x.len]
theorem Gt.moves:Moves Gt:=⟨fun _ h=>h⟩
theorem Ic:(prog.info? 155).map (fun i=>(i.zero,i.size,i.bytes))=some (some (.agg #[.string ⟨#[]⟩,.string ⟨#[]⟩,.int .i64 0,.int .i64 0]),4,48):=by kernel_rfl
def AC(B:Nat)(w:World)(v:Value)(l:List gy):Prop:=bF Gt 4 155 B (fun _=>False) w v l
theorem AC.nil(B:Nat)(w:World):AC B w (.slice none 0 0) []:=⟨[],gS _ _ _ 4,rfl⟩
theorem AC.keep(h:AC B w v l)(hz:w.heap.size<=w'.heap.size)(hk:∀k,v.ownBlock=some k->w'.heap[k]?=w.heap[k]?):AC B w' v l:=by
 obtain⟨cs,ho,hf⟩:=h;exact⟨cs,aC ho hk,Flat.moves Gt.moves ⟨hz,fun b _ f=>f.elim⟩ _ _ hf⟩
theorem AC.below(h:AC B w v l)(hb:Below w.heap.size w w'):AC B w' v l:=by
 exact Tcg
theorem AC.notSeg{cs:Array Value}{z:Nat × Nat}(h:AC B w v l)(hk:w.heap[k]?=some (.cells cs 88 z)):v.ownBlock≠some k:=fun e=>by
 obtain⟨_,ho,_⟩:=h;rcases ho.2 with⟨rfl,_⟩|⟨g,cap,cur,rfl,_,hgg,_⟩
 ·cases e
 obtain rfl:g=k:=by injection e
 rw[hk]at hgg;injection hgg with hgg;injection hgg with _ hgg _
 cases hgg
theorem AC.ge(h:AC B w v l)(e:v.ownBlock=some k):B<=k/\k<w.heap.size:=by
 exact Tcs
noncomputable def H9(n:Nat):Code:=((Tryz.f107.body.bind (kX n)).getD .skip)
theorem Db(Q:Exit->Act->World->Prop)(c0 c2 c5 c8 c9 c10 c11 c12 c13 c14 c15 c16 c17 c18 c19 c20 c21 c22 c23 c24 c25 c26 c27 c28 c29 c30 c31 c32 c33 c34 c35 c36 c37 c38 c39 c40 c41 c42 c43 c44 c45 c46 c47 c48 c49 c50 c51 c52 c53 c54 c55 c56 c57 c58 c59 c60 c61 c62 c63 c64 c65 c66 c67 c68 c69 c70 c71 c72 c73 c74 c75 c76 c77 c78 c79 c80 c81 c82 c83 c84 c85 c86 c87:Value)(w:World)(B Bg Bs b b3 off off3 k n p ac sc vc:Nat)(sp:Option Addr)(s:aB)(a:aR)(name:ByteArray)(v3:Value)(l:List gy)
  (hB:B<=w.heap.size) (Vk:k<n) (hpn:p<s.Ga.length) (Q1:s.Ga.length<=1000) (Rn:l.length<=100000) (hlen:0<=s.length/\s.length<=1000000)
  (hg:Bg<w.heap.size) (hg7:w.cell? (Tac Bg 7)=some (.slice (some (b,off)) n vc)) (hb:b<w.heap.size) (hn0:w.cell? (b,off+k*6)=some (.string name))
  (hs:w.heap[Bs]?=some (.cells (Tae s (some ⟨b3,off3,none⟩) ac sp sc) 88 (0,0))) (hb3:b3<w.heap.size) (ha1:w.cell? (b3,off3+p*3+1)=some (.string a.on)) (ha2:w.cell? (b3,off3+p*3+2)=some (.int .i64 a.start))
  (hO:AC B w v3 l)
  (HK:Hid (∀(v':Value) (w':World) (u62 u63 u64 u65 u66 u67 u68 u69 u70 u71 u72 u73 u74 u75 u76 u77 u78 u79 u80 u81 u82 u83 u84 u85 u86:Value),AC B w' v' (l++[aJ name s a])->Below B w w'->w'.heap[Bs]?=w.heap[Bs]?->Q .normal ⟨#[c0,.pointer (some Bg),c2,v',.int .i64 (k:Int),c5,.pointer (some Bs),.int .i64 (p:Int),c8,c9,c10,c11,c12,c13,c14,c15,c16,c17,c18,c19,c20,c21,c22,c23,c24,c25,c26,c27,c28,c29,c30,c31,c32,c33,c34,c35,c36,c37,c38,c39,c40,c41,c42,c43,c44,c45,c46,c47,c48,c49,c50,c51,c52,c53,c54,c55,c56,c57,c58,c59,c60,c61,u62,u63,u64,u65,u66,u67,u68,u69,u70,u71,u72,u73,u74,u75,u76,u77,u78,u79,u80,u81,u82,u83,u84,u85,u86,c87],[]⟩ w'))
  (hQ:∀c (a:Act) (d:Tmp) (v:Value) w,Q (.panic c) (a.put (some d) v) w->Q (.panic c) a w) :
  (H9 14).wp prog Q ⟨#[c0,.pointer (some Bg),c2,v3,.int .i64 (k:Int),c5,.pointer (some Bs),.int .i64 (p:Int),c8,c9,c10,c11,c12,c13,c14,c15,c16,c17,c18,c19,c20,c21,c22,c23,c24,c25,c26,c27,c28,c29,c30,c31,c32,c33,c34,c35,c36,c37,c38,c39,c40,c41,c42,c43,c44,c45,c46,c47,c48,c49,c50,c51,c52,c53,c54,c55,c56,c57,c58,c59,c60,c61,c62,c63,c64,c65,c66,c67,c68,c69,c70,c71,c72,c73,c74,c75,c76,c77,c78,c79,c80,c81,c82,c83,c84,c85,c86,c87],[]⟩ w:=by
 conv=>arg 2;whnf
 have GF:=aq hs;have sL:∀(j:Nat) (z:Value),[.int .i64 s.start,.int .i64 s.length,.int .i64 s.kind,.slice (some (b3,off3)) s.Ga.length ac,.int .i64 s.chunk,.slice sp s.stale.length sc,.string s.log,.string s.pool,.int .i64 s.device,.int .i64 s.mode,.int .i64 s.done][j]?=some z->∀q:fo,(ext w q).cell? ⟨Bs,j,none⟩=some z:=fun j z hz=>aG GF (by
  simp only[World.cell?,hs];simpa using hz)
 obtain⟨s0,s1,s2,s3,s4,s5,s6,s7,s8,s9,s10⟩:=IC sL;have g7:=aG hg hg7;have n0:=aG hb hn0;have a1:=aG hb3 ha1;have a2:=aG hb3 ha2;have HO:=aa hO;clear hO;have HS:=aa hs;clear hs;have hlen1:=hlen.1;have hlen2:=hlen.2;obtain⟨i0,hi,hz0,hz1,hz2⟩:=gg Ic;have HI:=aa hi;clear hi;have H0:=aa hz0;clear hz0;have H1:=aa hz1;clear hz1;have H2:=aa hz2;clear hz2;clear sL hg7 hn0 ha1 ha2 hlen;(refine lG _ 23 TcP rfl rfl TcP TcP (fun _ _ _ _ h=>hQ _ _ _ _ _ h) TdT ?_;simp only[xi,iv,cQ,cL])
 repeat(go_big_quiet_step ((go_at_call 63;exact iH (Im _ _ _ _ _ _ _ _ _ _ _ _ _ _ _ _ TcN TcN TcN))))
 with_reducible refine fR ?_
 intro wq ia;have kq:=dY ia;clear ia s0 s1 s2 s3 s4 s5 s6 s7 s8 s9 s10 g7 n0 a1 a2;have hO2:=HO.o.below kq;have G2:=ae wq (.cells #[.string name,.string a.on,.int .i64 a.start,.int .i64 (iB s.kind s.length s.Ga.length)] 155);have hO3:=hO2.below G2;have HO3:=aa hO3;have pL:=aa G2;have o0:=aa kq;have PF:=cA hB kq.size;clear hO2 hO3 G2 kq;go_wp2_with(at_builtin;refine dX Gt.moves underlying152 HI.o H0.o H1.o H2.o rfl TcQ TcQ rfl _ _ rfl B (fun _=>False) v3 l (aJ name s a) rfl HO3.o wq.heap.size 1 [.string name,.string a.on,.int .i64 a.start,.int .i64 (iB s.kind s.length s.Ga.length)] rfl rfl rfl ?d3 ?d4 ?d5 ?d6 (fun _ _ f=>f) ?_)
 all_goals first|(case d3=>(simp[Value.oneCell']))|(case d4=>(intro j y hy;exact aD rfl Tc6))|(case d5=>omega)|(case d6=>omega)|(case d6=>simp only[cW];omega)|skip
 intro gb cap w3 hp;have CT:∀j,j<w.heap.size->v3.ownBlock≠some j->w3.heap[j]?=w.heap[j]?:=fun j hj hne=>(hp.grown.block j (cC hj (cA o0.o.size pL.o.size)) (fun e=>hne e.symm)).trans ((pL.o.block j (cC hj o0.o.size)).trans (o0.o.block j hj));have jn:Below B w w3:=((o0.o.mono hB).trans (pL.o.mono PF)).grown hp.grown Td5 (fun j e=>(HO3.o.ge e).1);have hS:=CT Bs GF (HO.o.notSeg HS.o);have Qt:=hp.own;have HOW:=aa Qt;have PG:=aa jn;have Mx:=aa hS;clear hp Qt jn hS CT;go_wp2;exact HK.o _ _ _ _ _ _ _ _ _ _ _ _ _ _ _ _ _ _ _ _ _ _ _ _ _ _ _ HOW.o PG.o Mx.o
theorem Tek{p:Prop}(h:p:=by show w.heap.size<w.heap.size+1;omega):p:=h
theorem TaR{p:Prop}(h:p:=by
 clear zE;go_wp2;clear k2 k3;generalize ao5:wr.heap.size=Bs at *;clear ao5;go_loopw[3,7] (fun vo m wr3=>∃p:Nat,p<=s.Ga.length/\m=.int .i64 (p:Int)/\AC (w.heap.size+1) wr3 vo ((pieces (F9.take k)++(v.Gf.take q).flatMap (aK v.name))++(s.Ga.take p).map (aJ v.name s))/\Below (w.heap.size+1) W wr3/\wr3.heap[Bs]?=some (.cells (Tae s ap ac sp sc) 88 (0,0))) (fun _ m _=>s.Ga.length-(intOf m).toNat)
 exact⟨0,cg _,rfl,by simpa using HO2.o,cm.o,lj.o⟩;obtain⟨p,hp,rfl,ho3,hB3,ml⟩:=hrel;have hW3:=hB3.size;have g7:wr.cell? (Tac w.heap.size 7)=some (.slice (some (b,off)) F9.length vc):=(hB3.cell (p:=⟨w.heap.size,7,none⟩) Tek).trans HG7.o;have Ol:=aq ml;have z3:=cr ml 3 _ rfl;by_cases hlt3:p<s.Ga.length
 ·obtain⟨a,ha⟩:=aj s.Ga p hlt3;have B4:=HTS.o E4.o a (ct ha);obtain⟨b3,off3,u3,rfl,B7,PV,pT,hva,mB⟩:=ya.o.elem ha;obtain rfl:u3=[.bool a.vol,.string a.on,.int .i64 a.start]:=hva;rw[B4]at mB;have cT:wr.heap[b3]?=w.heap[b3]?:=(hB3.block b3 TcN).trans (HW.o.block b3 PV);have q0:=(cd (w:=w) (a:=⟨b3,off3+p*3,none⟩) cT).trans (mB 0 _ rfl);have q1:=(cd (w:=w) (a:=⟨b3,off3+p*3+1,none⟩) cT).trans (mB 1 _ rfl);have q2:=(cd (w:=w) (a:=⟨b3,off3+p*3+2,none⟩) cT).trans (mB 2 _ rfl);have hbn:wr.heap[b]?=w.heap[b]?:=(hB3.block b TcN).trans (HW.o.block b cX);have n0:=(cd (w:=w) (a:=⟨b,off+k*6,none⟩) hbn).trans (Q5.o 0 _ rfl);have HA:=aa ha;clear ha;have HO3:=aa ho3;clear ho3;have cJ:=aa hB3;clear hB3;have HS3:=aa ml;clear ml;have HLL:Hid (((pieces (F9.take k)++(v.Gf.take q).flatMap (aK v.name))++(s.Ga.take p).map (aJ v.name s)).length<=100000):=aa (by
   obtain⟨rest,od⟩:=oz Sq.o B6.o HA.o E4.o;have e:=fj List.length od;have aq5:=Nv.o;rw[e]at aq5;simp only[cD,pieces]at aq5 ⊢;omega)
  clear mB cT pT B4 hbn;go_upto_region 14 with(fail);clear q0;refine Db _ _ _ _ _ _ _ _ _ _ _ _ _ _ _ _ _ _ _ _ _ _ _ _ _ _ _ _ _ _ _ _ _ _ _ _ _ _ _ _ _ _ _ _ _ _ _ _ _ _ _ _ _ _ _ _ _ _ _ _ _ _ _ _ _ _ _ _ _ _ _ _ _ _ _ _ _ _ _ _ _ _ _ _ wr (w.heap.size+1) w.heap.size Bs b b3 off off3 k F9.length p ac sc vc sp s a v.name _ _ TcN hlt hlt3 Oj.o HLL.o WG.o TcN g7 TcN n0 HS3.o TcN q1 q2 HO3.o (aa ?_) ?hQ
  case hQ=>exact fun _ _ _ _ _ h=>h
  clear g7 n0 q1 q2 z3;intro v' w' u62 u63 u64 u65 u66 u67 u68 u69 u70 u71 u72 u73 u74 u75 u76 u77 u78 u79 u80 u81 u82 u83 u84 u85 u86 ho' hb' hs';have HO':=aa ho';clear ho';have Ks:=aa hb';clear hb';have HS':=aa (hs'.trans HS3.o);clear hs';go_wp2;go_roundw;exact⟨p+1,TcN,TcR,by rw[take_snoc' _ _ _ HA.o,gl,<- cV];exact HO'.o,cJ.o.trans Ks.o,HS'.o⟩;simp[intOf];omega
 obtain rfl:p=s.Ga.length:=by omega
 rw[cI]at ho3;have HO3:=aa ho3;clear ho3;have cJ:=aa hB3;clear hB3;clear g7;go_wp2;go_roundw;exact⟨q+1,TcN,TcR,by rw[gq B6.o,show aK v.name s=s.Ga.map (aJ v.name s) from aw E4.o,<- cV];exact HO3.o,cJ.o⟩;simp[intOf];omega):p:=h
theorem Hg{ok:Nat->Prop}(al7:ByteArray)(id seq ext nx:Int)(tp dp vp hp:Option Addr)(tl tc dl dc vc hl hc:Nat)(F9:List ay)(w:World)(hv:b6 aN 6 ok w [.slice vp F9.length vc] F9)(mb:F9.length<=1000)(ht:qx F9)(hpn:(pieces F9).length<=100000) :
  Calls prog 107 #[.agg (Tam al7 id seq ext nx tl tp tc dl dp dc F9.length vp vc hl hp hc)] w fun e w'=>∃v,e=.returned v/\AC w.heap.size w' v (pieces F9)/\Below w.heap.size w w':=by
 have hb1:=ae w (.cells (Tam al7 id seq ext nx tl tp tc dl dp dc F9.length vp vc hl hp hc) 32);have hg1:=b9 w (.cells (Tam al7 id seq ext nx tl tp tc dl dp dc F9.length vp vc hl hp hc) 32);have hz1:(w.alloc (.cells (Tam al7 id seq ext nx tl tp tc dl dp dc F9.length vp vc hl hp hc) 32)).heap.size=w.heap.size+1:=by simp
 have HV:=aa hv;clear hv;have HT:=aa ht;clear ht;have Nv:=aa hpn;clear hpn;have HG1:=aa hg1;clear hg1;have HW:=aa hb1;clear hb1;have HZ:=aa hz1;clear hz1;go_enter func107,ntmps107;go_wp2;generalize WE:w.alloc (.cells (Tam al7 id seq ext nx tl tp tc dl dp dc F9.length vp vc hl hp hc) 32)=W at *;clear WE;have hz:=HZ.o
 go_loopw[3,4] (fun vo vi wr=>∃k:Nat,k<=F9.length/\vi=.int .i64 (k:Int)/\AC (w.heap.size+1) wr vo (pieces (F9.take k))/\Below (w.heap.size+1) W wr) (fun _ vi _=>F9.length-(intOf vi).toNat)
 exact⟨0,cg _,rfl,AC.nil _ _,bj _ _⟩;obtain⟨k,hk,rfl,ho,hB⟩:=hrel;have g7:wr.cell? (Tac w.heap.size 7)=some (.slice vp F9.length vc):=(hB.cell (p:=⟨w.heap.size,7,none⟩) Tek).trans (by simp[World.cell?,HG1.o]);by_cases hlt:k<F9.length
 ·obtain⟨v,hD⟩:=aj F9 k hlt;obtain⟨b,off,u1,rfl,gR,cX,ez,sA,hcv⟩:=HV.o.elem hD;obtain⟨tv,sv,rfl,ew,fL⟩:=sA;obtain⟨gp,gc,rfl,_,_⟩:=fL.cap;have HG7:Hid (W.cell? (Tac w.heap.size 7)=some (.slice (some (b,off)) F9.length vc)):=aa (by simp[World.cell?,HG1.o]);have Sq:=aa hD;clear hD;have Zv:=aa fL;clear fL;have Q5:=aa hcv;clear hcv;have HO:=aa ho;clear ho;have HB:=aa hB;clear hB;have Vc:=aa (HT.o v (ct Sq.o));clear ew ez;go_wp2;clear g7;go_loopw[3,5] (fun vo vi wr2=>∃q:Nat,q<=v.Gf.length/\vi=.int .i64 (q:Int)/\AC (w.heap.size+1) wr2 vo (pieces (F9.take k)++(v.Gf.take q).flatMap (aK v.name))/\Below (w.heap.size+1) W wr2) (fun _ vi _=>v.Gf.length-(intOf vi).toNat)
  exact⟨0,cg _,rfl,by simpa using HO.o,HB.o⟩;obtain⟨q,hq,rfl,ho,hB⟩:=hrel;have hWr:=hB.size;have g7:wr.cell? (Tac w.heap.size 7)=some (.slice (some (b,off)) F9.length vc):=(hB.cell (p:=⟨w.heap.size,7,none⟩) Tek).trans HG7.o;have hbn:wr.heap[b]?=w.heap[b]?:=(hB.block b TcN).trans (HW.o.block b cX);have v5:=(cd (w:=w) (a:=⟨b,off+k*6+5,none⟩) hbn).trans (Q5.o 5 _ rfl);clear hbn;by_cases hlt2:q<v.Gf.length
  ·obtain⟨s,yq⟩:=aj v.Gf q hlt2;obtain⟨b2,off2,u2,rfl,I0,C2,B5,eE,hcs⟩:=Zv.o.elem yq;obtain⟨av,Oz,rfl,mC,hst⟩:=eE;obtain⟨ap,ac,rfl,_,_⟩:=mC.cap;obtain⟨sp,sc,rfl,_,_⟩:=hst.cap;have cT:wr.heap[b2]?=w.heap[b2]?:=(hB.block b2 TcN).trans (HW.o.block b2 C2);have z0:=(cd (w:=w) (a:=⟨b2,off2+q*11,none⟩) cT).trans (hcs 0 _ rfl);have z1:=(cd (w:=w) (a:=⟨b2,off2+q*11+1,none⟩) cT).trans (hcs 1 _ rfl);have z2:=(cd (w:=w) (a:=⟨b2,off2+q*11+2,none⟩) cT).trans (hcs 2 _ rfl);have z3:=(cd (w:=w) (a:=⟨b2,off2+q*11+3,none⟩) cT).trans (hcs 3 _ rfl);have z4:=(cd (w:=w) (a:=⟨b2,off2+q*11+4,none⟩) cT).trans (hcs 4 _ rfl);have z5:=(cd (w:=w) (a:=⟨b2,off2+q*11+5,none⟩) cT).trans (hcs 5 _ rfl);have z6:=(cd (w:=w) (a:=⟨b2,off2+q*11+6,none⟩) cT).trans (hcs 6 _ rfl);have z7:=(cd (w:=w) (a:=⟨b2,off2+q*11+7,none⟩) cT).trans (hcs 7 _ rfl);have z8:=(cd (w:=w) (a:=⟨b2,off2+q*11+8,none⟩) cT).trans (hcs 8 _ rfl);have z9:=(cd (w:=w) (a:=⟨b2,off2+q*11+9,none⟩) cT).trans (hcs 9 _ rfl);have z10:=(cd (w:=w) (a:=⟨b2,off2+q*11+10,none⟩) cT).trans (hcs 10 _ rfl);have B6:=aa yq;clear yq;have Ut:=Vc.o.2 s (ct B6.o);have WG:=aa Ut.1;have Oj:=aa Ut.2.1;have HTS:=aa Ut.2.2;have ya:=aa mC;clear mC;have hb2:=ae wr (.cells (Tae s ap ac sp sc) 88);have lj:=aa (b9 wr (.cells (Tae s ap ac sp sc) 88));have HO2:=aa (ho.below hb2);have cm:=aa (hB.trans (hb2.mono TcN));have k2:(wr.alloc (.cells (Tae s ap ac sp sc) 88)).cell? (Tac wr.heap.size 2)=some (.int .i64 s.kind):=aD rfl rfl;have k3:(wr.alloc (.cells (Tae s ap ac sp sc) 88)).cell? (Tac wr.heap.size 3)=some (.slice ap s.Ga.length ac):=aD rfl rfl;clear ho hB hb2 hst hcs cT B5 Ut;by_cases G0:fP s
   ·have OU:s.kind=1\/s.kind=2\/s.kind=8:=G0;have E4:=aa G0;clear G0;rcases OU with zE|zE|zE
    ·have Lk:(s.kind != 1)=false:=by simp[zE]
     exact TaR
    ·have Lk:(s.kind != 1)=true:=by simp[zE]
     have QV:(s.kind != 2)=false:=by simp[zE]
     exact TaR
    have Lk:(s.kind != 1)=true:=by simp[zE]
    have QV:(s.kind != 2)=true:=by simp[zE]
    have Ve:(s.kind != 8)=false:=by simp[zE]
    exact TaR
   have n1:¬s.kind=1:=fun e=>G0 (.inl e)
   have n2:¬s.kind=2:=fun e=>G0 (.inr (.inl e));have n8:¬s.kind=8:=fun e=>G0 (.inr (.inr e));have Lk:(s.kind != 1)=true:=by simpa using n1
   have QV:(s.kind != 2)=true:=by simpa using n2
   have Ve:(s.kind != 8)=true:=by simpa using n8
   have E4:=aa G0;clear G0 n1 n2 n8;go_wp2;go_roundw;exact⟨q+1,TcN,TcR,by rw[gq B6.o,show aK v.name s=[] from bh E4.o,eM];exact HO2.o,cm.o⟩;simp[intOf];omega
  obtain rfl:q=v.Gf.length:=by omega
  rw[cI]at ho;have HO2:=aa ho;clear ho;have cm:=aa hB;clear hB;go_wp2;go_roundw;exact⟨k+1,TcN,TcR,by rw[take_snoc' _ _ _ Sq.o];simp only[pieces,xt,lB,List.flatMap_nil,eM];exact HO2.o,cm.o⟩;simp[intOf];omega
 obtain rfl:k=F9.length:=by omega
 rw[cI]at ho;have HO2:=aa ho;clear ho;have cm:=aa hB;clear hB;go_wp2;go_ret;refine⟨_,rfl,?_,HW.o.trans (cm.o.mono TcN)⟩;obtain⟨cs,hro,hf⟩:=HO2.o;exact⟨cs,⟨hro.1,by
  rcases hro.2 with q|⟨g,cap,cur,e,h1,h2⟩
  ·exact .inl q
  exact .inr ⟨g,cap,cur,e,TcN,h2⟩⟩,hf⟩
open Go.Maps Go.Shelf
variable {v:ay}{s:aB}
theorem Tbr{p:Prop}(h:p:=by
 clear h6
 cases Fi:s.log.toList.isEmpty with
 |true =>
  go_wp2;go_ret;exact⟨rfl,fy.o⟩
 |false =>
  have dl:=HLL.o Fi;go_wp2;go_ret;exact⟨rfl,fy.o⟩):p:=h
theorem JM{ok:Nat->Prop}(g:af)(a:bN)(s:aB)(u:List Value)(w:World)(hv:bC ok w u s)(hg:dN ok w g a)(hz:JT g)(_hal:s.Ga.length<=1000000)(he:jw g s=true) :
  Calls prog 87 #[.agg (Tad g a),.agg u.toArray] w fun e w'=>e=.returned (.bool true)/\Below w.heap.size w w':=by
 have HEA:=aa fun(r:aR) (hr:r∈s.Ga)=>JU he hr;have PH:=aa fun h=>Km he h;have HEP:=aa fun h=>II he h;clear he;obtain⟨av,Oz,rfl,mC,TG⟩:=hv;obtain⟨ap,ac,rfl,_,_⟩:=mC.cap;obtain⟨eN,eR,rfl,_,_⟩:=TG.cap;have HA:=aa mC;clear mC TG;have hA1:=ae w (.cells (Tad g a) 32);have hA2:=ae (w.alloc (.cells (Tad g a) 32)) (.cells (Tae s ap ac eN eR) 88);have hN1:=b9 w (.cells (Tad g a) 32);have fl:=aa (b9 (w.alloc (.cells (Tad g a) 32)) (.cells (Tae s ap ac eN eR) 88));have Mk:=aa ((hA2.block _ (aq hN1)).trans hN1);have HB:=aa (hA1.trans (hA2.mono hA1.size));have rB:=aa (hg.mv (Mv.of HB.o));have mb:=hz.vl;have CD:=hz.dl;clear hA1 hA2 hN1 hg;rw[cW]at fl;go_enter func87,ntmps87
 go_upto_region 1 with(fail);generalize World.alloc (World.alloc w _) _=W1 at *;generalize hE1:w.heap.size+1=Bs at fl ⊢;generalize hE0:w.heap.size=Bg at Mk ⊢;clear hE1 hE0;go_wp2;go_loopw[5] (fun i wr=>∃k:Nat,k<=s.Ga.length/\i=.int .i64 k/\Below W1.heap.size W1 wr) (fun i _=>s.Ga.length-(intOf i).toNat)
 exact⟨0,cg _,rfl,bj _ _⟩;obtain⟨k,hk,rfl,hB⟩:=hrel;have Mt:=aa hB;have ap2:=fl;have Ml:=Mk;have ap3:=rB;replace fl:=Zbk hB fl;replace Mk:=Zbk hB Mk;replace rB:=aa (rB.o.mv (Mv.of hB));have fy:=Zbl HB hB;clear hB ap2 Ml ap3;have s3:=mi fl.o 3 _ rfl;by_cases hlt:k<s.Ga.length
 ·obtain⟨r,hr⟩:=aj s.Ga k hlt;have hrm:=ct hr;obtain⟨b,off,us,rfl,_,cX,_,eE,hcv⟩:=HA.o.elem hr;obtain rfl:us=_:=eE;have cT:=fy.o.block b cX;have hbl:=cC cX fy.o.size;obtain⟨q0,q1,q2⟩:=Mn cT hcv;clear hcv hr cT;obtain⟨ha1,ha2⟩:=HEA.o r hrm;go_upto_region 4 with(fail);refine Jn (ok:=ok) _ wr g a Bg Bs b off k s.Ga.length ac r.on Mk.o (aq fl.o) s3 hlt hbl q1 rB.o mb _ _ rfl rfl (aa ?_) (fun _ _ _ _ _ h=>h);intro tp tc sp sc aB5 bX4 X4 _ _ _ _ _ _ _ _ _ _ _ ar7 ap4 ay1 ay2 ay3;have eI:=aa ap4;have h0:=aq fl.o;replace fl:=Zbk ap4 fl;replace Mk:=Zbk ap4 Mk;replace rB:=aa (rB.o.mv (Mv.of ap4));replace s3:=(ap4.cell (p:=⟨Bs,3,none⟩) h0).trans s3;replace q0:=(ap4.cell (p:=⟨b,off+k*3,none⟩) hbl).trans q0;replace q1:=(ap4.cell (p:=⟨b,off+k*3+1,none⟩) hbl).trans q1;replace hbl:=cC hbl ap4.size;clear q2 ap4 ay1 ay2 ay3 h0;go_upto_region 5 with(fail);refine Jr (ok:=ok) _ X4 g a Bg Bs b off k s.Ga.length ac r.on Mk.o (aq fl.o) s3 hlt hbl q1 rB.o CD _ _ rfl rfl (aa ?_) (fun _ _ _ _ _ h=>h);intro tp5 tc5 az4 bX5 X5 _ _ _ _ _ _ _ _ _ _ _ am1 ak3 ar8 ap7 ar9;have eK:=aa (Mt.o.trans ((eI.o.trans (ak3.mono eI.o.size)).mono Mt.o.size));have h0:=aq fl.o;replace s3:=(ak3.cell (p:=⟨Bs,3,none⟩) h0).trans s3;replace q0:=(ak3.cell (p:=⟨b,off+k*3,none⟩) hbl).trans q0;clear q1 hbl ak3 ar8 ap7 ar9 h0 fl Mk rB eI Mt fy;cases pS:r.vol with
  |true =>
   rw[pS]at q0;have hd:decide (aB5<0)=false:=by rw[ar7,ha1 pS];rfl
   clear ar7 am1 ha1 ha2 pS hrm;go_wp2;go_roundw;exact⟨k+1,TcN,TcR,eK.o⟩;simp[intOf];omega
  |false =>
   rw[pS]at q0;have hd:decide (az4<0)=false:=by rw[am1,ha2 pS];rfl
   clear ar7 am1 ha1 ha2 pS hrm;go_wp2;go_roundw;exact⟨k+1,TcN,TcR,eK.o⟩;simp[intOf];omega
 clear hk Mt;go_upto_region 8 with(fail);clear s3;have gL:=mi Mk.o;obtain⟨g0,g1,g2,g3,g4,g5,g6,g7,g8⟩:=xr gL;have sL:=mi fl.o;have sn:=sL 6 _ rfl;clear gL sL;go_wp2_with fail;clear g0 g1 g2 g3 g4 g5 g6 g7 g8 sn;refine(aj7 g a s.log wr rB.o.F9 mb).mono ?_;rintro e wL ⟨uL,kl,rfl,hv,au9,hb⟩;have XR:=aa hv;obtain⟨tv,sv,rfl,ew,fL⟩:=hv;obtain⟨tpL,tcL,rfl,_,_⟩:=ew.cap;obtain⟨spL,scL,rfl,_,_⟩:=fL.cap;clear ew fL;generalize hxL:(aM g.F9 s.log).getD eY=xL at *;have pC:=ae wL (.cells (Taf xL tpL tcL spL scL) 57);have Qp:=aa (b9 wL (.cells (Taf xL tpL tcL spL scL) 57));have UN:=hb.trans (pC.mono hb.size);replace Mk:=Zbk UN Mk;replace fl:=Zbk UN fl;replace rB:=aa (rB.o.mv (Mv.of UN));replace fy:=Zbl fy UN;replace XR:=aa (aN.moves.mv (Mv.of pC) XR.o);clear hb pC UN;go_upto_region 9 with(fail);generalize World.alloc wL _=VL at *;generalize wL.heap.size=BL at Qp ⊢;have gL:=mi Mk.o;obtain⟨g0,g1,g2,g3,g4,g5,g6,g7,g8⟩:=xr gL;have sL:=mi fl.o;have sn:=sL 7 _ rfl;clear gL sL;go_wp2_with fail;clear g0 g1 g2 g3 g4 g5 g6 g7 g8 sn;refine(aj7 g a s.pool VL rB.o.F9 mb).mono ?_;rintro e wP ⟨uP,kp,rfl,hv,av0,hb⟩;have XR:=aa hv;obtain⟨tv,sv,rfl,ew,fL⟩:=hv;obtain⟨tpP,tcP,rfl,_,_⟩:=ew.cap;obtain⟨spP,scP,rfl,_,_⟩:=fL.cap;clear ew fL;generalize hxP:(aM g.F9 s.pool).getD eY=xP at *;have pC:=ae wP (.cells (Taf xP tpP tcP spP scP) 57);have Qp:=aa (b9 wP (.cells (Taf xP tpP tcP spP scP) 57));have UN:=hb.trans (pC.mono hb.size);replace Mk:=Zbk UN Mk;replace fl:=Zbk UN fl;replace rB:=aa (rB.o.mv (Mv.of UN));replace fy:=Zbl fy UN;replace XR:=aa (aN.moves.mv (Mv.of pC) XR.o);clear hb pC UN;go_upto_region 10 with(fail);generalize World.alloc wP _=VP at *;generalize wP.heap.size=BP at Qp ⊢;have sL:=mi fl.o;have s2:=sL 2 _ rfl;have s6:=sL 6 _ rfl;clear sL Qp XR;have HLL:Hid (s.log.toList.isEmpty=false->decide (0<=kl)=true):=aa fun h=>by
  rw[PH.o h]at au9;have:=of_decide_eq_false au9;exact eA TcN
 have HPP:Hid (s.kind=6->decide (0<=kp)=true):=aa fun h=>by
  rw[HEP.o h]at av0;have:=of_decide_eq_false av0;exact eA TcN
 clear au9 av0;by_cases h6:s.kind=6
 ·have e6:(s.kind != 6)=false:=by rw[h6];rfl
  have d6:=HPP.o h6;exact Tbr
 have e6:(s.kind != 6)=true:=bne_iff_ne.2 h6;exact Tbr
theorem JW{ok:Nat->Prop}(g:af)(a:bN)(s:aB)(u:List Value)(w:World)(hv:bC ok w u s)(hg:dN ok w g a)(hz:JT g)(Q1:s.Ga.length<=1000000)(hl:0<=s.length/\s.length<=1000000)(vu:∀d∈g.Gb,0<=d.Gc/\d.Gc<=1000000)(he:s.Ga.all (fI g s)=true) :
  Calls prog 88 #[.agg (Tad g a),.agg u.toArray] w fun e w'=>e=.returned (.bool true)/\Below w.heap.size w w':=by
 have HEA:=aa fun(r:aR) (hr:r∈s.Ga) hv=>KX he hr hv
 have kj:Hid (∀nm,0<=((bH g.Gb nm).getD gT).Gc/\((bH g.Gb nm).getD gT).Gc<=1000000):=aa fun nm=>by
  cases h:bH g.Gb nm with
  |none=>exact⟨Int.le_refl _,TcQ⟩
  |some d=>exact vu d (eV h)
 clear he vu;obtain⟨av,Oz,rfl,mC,TG⟩:=hv;obtain⟨ap,ac,rfl,_,_⟩:=mC.cap;obtain⟨eN,eR,rfl,_,_⟩:=TG.cap;have HA:=aa mC;clear mC TG;have hA1:=ae w (.cells (Tad g a) 32);have hA2:=ae (w.alloc (.cells (Tad g a) 32)) (.cells (Tae s ap ac eN eR) 88);have hN1:=b9 w (.cells (Tad g a) 32);have fl:=aa (b9 (w.alloc (.cells (Tad g a) 32)) (.cells (Tae s ap ac eN eR) 88));have Mk:=aa ((hA2.block _ (aq hN1)).trans hN1);have HB:=aa (hA1.trans (hA2.mono hA1.size));have rB:=aa (hg.mv (Mv.of HB.o));have mb:=hz.vl;have CD:=hz.dl;clear hA1 hA2 hN1 hg;rw[cW]at fl;go_enter func88,ntmps88
 go_upto_region 1 with(fail);generalize World.alloc (World.alloc w _) _=W1 at *;generalize hE1:w.heap.size+1=Bs at fl ⊢;generalize hE0:w.heap.size=Bg at Mk ⊢;clear hE1 hE0;go_wp2;go_loopw[5] (fun i wr=>∃k:Nat,k<=s.Ga.length/\i=.int .i64 k/\Below W1.heap.size W1 wr) (fun i _=>s.Ga.length-(intOf i).toNat)
 exact⟨0,cg _,rfl,bj _ _⟩;obtain⟨k,hk,rfl,hB⟩:=hrel;have Mt:=aa hB;have ap2:=fl;have Ml:=Mk;have ap3:=rB;replace fl:=Zbk hB fl;replace Mk:=Zbk hB Mk;replace rB:=aa (rB.o.mv (Mv.of hB));have fy:=Zbl HB hB;clear hB ap2 Ml ap3;have s3:=mi fl.o 3 _ rfl;by_cases hlt:k<s.Ga.length
 ·obtain⟨r,hr⟩:=aj s.Ga k hlt;have hrm:=ct hr;obtain⟨b,off,us,rfl,_,cX,_,eE,hcv⟩:=HA.o.elem hr;obtain rfl:us=_:=eE;have cT:=fy.o.block b cX;have hbl:=cC cX fy.o.size;obtain⟨q0,q1,q2⟩:=Mn cT hcv;clear hcv hr cT;cases pS:r.vol with
  |true =>
   rw[pS]at q0;have az5:Hid (∀n,Below W1.heap.size W1 (wr.drewN n)):=aa fun n=>aT Mt.o n;clear Mt fl Mk rB fy hbl q1 q2 pS hrm;go_wp2;go_roundw
   exact⟨k+1,TcN,TcR,by first|exact az5.o 0|exact az5.o _⟩;simp[intOf];omega
  |false =>
   rw[pS]at q0;obtain⟨ha1,ha2,ha3⟩:=HEA.o r hrm pS;obtain⟨hd1,hd2⟩:=kj.o r.on;clear pS hrm;go_upto_region 5 with(fail);refine Jk (ok:=ok) _ wr g a Bg Bs b off k s.Ga.length ac r.on Mk.o (aq fl.o) s3 hlt hbl q1 rB.o CD _ _ rfl rfl (aa ?_) (fun _ _ _ _ _ h=>h);intro tp5 tc5 az4 bX5 X5 _ _ _ _ _ _ _ _ _ _ _ am1 ak3 ar8 ap7 ar9;generalize (bH g.Gb r.on).getD gT=x at *;have eK:=Zbl Mt ak3;have h0:=aq fl.o;replace fl:=Zbk ak3 fl;replace s3:=(ak3.cell (p:=⟨Bs,3,none⟩) h0).trans s3;replace q0:=(ak3.cell (p:=⟨b,off+k*3,none⟩) hbl).trans q0;replace q1:=(ak3.cell (p:=⟨b,off+k*3+1,none⟩) hbl).trans q1;replace q2:=(ak3.cell (p:=⟨b,off+k*3+2,none⟩) hbl).trans q2;have Qp:=aa ap7;clear hbl ak3 ar8 ap7 ar9 h0 Mk rB Mt fy am1;have hA:=ae X5 (.cells (Tay r) 83);have HAB:=aa (b9 X5 (.cells (Tay r) 83));replace fl:=Zbk hA fl;replace Qp:=Zbk hA Qp;replace eK:=Zbl eK hA;clear hA;go_upto_region 7 with(fail);clear q0 q1 q2 s3;generalize World.alloc X5 _=X6 at *;generalize X5.heap.size=Ba at HAB ⊢;have c1:decide (r.start<0)=false:=cN TcN;have c2:decide (x.Gc<r.start)=false:=cN TcN;have c3:decide (x.Gc-r.start<iB s.kind s.length s.Ga.length)=false:=cN TcN;have hw:IntKind.i64.wrap (x.Gc-r.start)=x.Gc-r.start:=dy _ TcN;have sL:=mi fl.o;have GF:=aq fl.o;have s0:=aG GF (sL 0 _ rfl);have s1:=aG GF (sL 1 _ rfl);have s2:=aG GF (sL 2 _ rfl);have s3:=aG GF (sL 3 _ rfl);have s4:=aG GF (sL 4 _ rfl);have s5:=aG GF (sL 5 _ rfl);have s6:=aG GF (sL 6 _ rfl);have s7:=aG GF (sL 7 _ rfl);have s8:=aG GF (sL 8 _ rfl);have s9:=aG GF (sL 9 _ rfl);have s10:=aG GF (sL 10 _ rfl);have a2:=aG (aq HAB.o) (mi HAB.o 2 _ rfl);have x3:=aG (aq Qp.o) (mi Qp.o 3 _ rfl);have hl1:=hl.1;have hl2:=hl.2;clear sL GF fl Qp HAB hl ha1 ha2 ha3 hd1 hd2;(refine aU TcP TcP ?_;(repeat(go_big_quiet_step ((go_at_call 63;exact iH (Im _ _ _ _ _ _ _ _ _ _ _ _ _ _ _ _ hl1 TcN TcN)))));(with_reducible refine fR ?_);intro wq ia;have kq:=dY ia;clear ia)
   have ux:=Zbl eK kq;clear kq s0 s1 s2 s3 s4 s5 s6 s7 s8 s9 s10 a2 x3 c1 c2 c3 hw;go_wp2;go_roundw;exact⟨k+1,TcN,TcR,ux.o⟩;simp[intOf];omega
 clear hk Mt;exact Tcu
theorem Kh{ok:Nat->Prop}(g:af)(a:bN)(s:aB)(u:List Value)(w:World)(hv:bC ok w u s)(hg:dN ok w g a)(hz:JT g)(Q1:s.Ga.length<=1000000)(he6:s.kind=6->eZ ((aM g.F9 s.pool).getD eY)=5)(he:(dD s false).any (dh g)=false) :
  Calls prog 90 #[.agg (Tad g a),.agg u.toArray] w fun e w'=>e=.returned (.bool true)/\Below w.heap.size w w':=by
 have HEA:=aa fun(r:aR) (hr:r∈s.Ga) hv=>IK (J8 he hr hv);have PH:=aa fun h=>IK (KO he h);have HE6:=aa he6
 have Zu:Hid (∀nm,((aM g.F9 nm).getD eY).Gf.length<=1000000000):=aa fun nm=>by
  have:=(Dt hz nm).Gf;omega
 clear he he6;obtain⟨av,Oz,rfl,mC,TG⟩:=hv;obtain⟨ap,ac,rfl,_,_⟩:=mC.cap;obtain⟨eN,eR,rfl,_,_⟩:=TG.cap;have HA:=aa mC;clear mC TG;have hA1:=ae w (.cells (Tad g a) 32);have hA2:=ae (w.alloc (.cells (Tad g a) 32)) (.cells (Tae s ap ac eN eR) 88);have hN1:=b9 w (.cells (Tad g a) 32);have fl:=aa (b9 (w.alloc (.cells (Tad g a) 32)) (.cells (Tae s ap ac eN eR) 88));have Mk:=aa ((hA2.block _ (aq hN1)).trans hN1);have HB:=aa (hA1.trans (hA2.mono hA1.size));have rB:=aa (hg.mv (Mv.of HB.o));have mb:=hz.vl;have CD:=hz.dl;clear hA1 hA2 hN1 hg;rw[cW]at fl;go_enter func90,ntmps90
 go_upto_region 1 with(fail);generalize World.alloc (World.alloc w _) _=W1 at *;generalize hE1:w.heap.size+1=Bs at fl ⊢;generalize hE0:w.heap.size=Bg at Mk ⊢;clear hE1 hE0;have s2:=mi fl.o 2 _ rfl;by_cases h6:s.kind=6
 ·have e6:(s.kind==6)=true:=by rw[h6];rfl
  have hk5:=HE6.o h6;have hks:=Zu.o s.pool;have fy:=HB;clear h6;go_upto_region 2 with(fail);clear s2 e6;have gL:=mi Mk.o;obtain⟨g0,g1,g2,g3,g4,g5,g6,g7,g8⟩:=xr gL;have sL:=mi fl.o;have sn:=sL 7 _ rfl;clear gL sL;go_wp2_with fail;clear g0 g1 g2 g3 g4 g5 g6 g7 g8 sn;refine(aj7 g a s.pool W1 rB.o.F9 mb).mono ?_;rintro e wP ⟨uP,kk,rfl,hv,av0,hb⟩;have XR:=aa hv;obtain⟨tv,sv,rfl,ew,fL⟩:=hv;obtain⟨tpP,tcP,rfl,_,_⟩:=ew.cap;obtain⟨spP,scP,rfl,_,_⟩:=fL.cap;clear ew fL;generalize hxP:(aM g.F9 s.pool).getD eY=xP at *;have pC:=ae wP (.cells (Taf xP tpP tcP spP scP) 57);have Qp:=aa (b9 wP (.cells (Taf xP tpP tcP spP scP) 57));have UN:=hb.trans (pC.mono hb.size);replace Mk:=Zbk UN Mk;replace fl:=Zbk UN fl;replace rB:=aa (rB.o.mv (Mv.of UN));replace fy:=Zbl fy UN;replace XR:=aa (aN.moves.mv (Mv.of pC) XR.o);clear hb pC UN;go_upto_region 3 with(fail);generalize World.alloc wP _=VP at *;generalize wP.heap.size=BP at Qp ⊢;obtain⟨y0,y1,y2,y3,y4,y5⟩:=I6 Qp.o;have HKX:=aa fun q:fo=>(aN.moves.mv (Mv.of (dQ VP q)) XR.o:aN _ (ext VP q) _ _);have e5:(eZ xP==5)=true:=by rw[hk5];rfl
  clear hk5 hxP av0 XR Qp;(refine wp_region_quiet_lit ?_;(repeat(go_big_quiet_step ((go_at_call 93;exact iH (pq _ _ _ (HKX.o _) hks)))));(with_reducible refine fR ?_);intro wqA ia;have az6:=dY ia;clear ia)
  have TF:=Zbl fy az6;clear az6 y0 y1 y2 y3 y4 y5;go_wp2;go_ret;exact⟨rfl,TF.o⟩
 have e6:(s.kind==6)=false:=by simpa using h6
 clear h6;go_upto_region 4 with(fail);clear s2 e6;go_wp2;go_loopw[7] (fun i wr=>∃k:Nat,k<=s.Ga.length/\i=.int .i64 k/\Below W1.heap.size W1 wr) (fun i _=>s.Ga.length-(intOf i).toNat)
 exact⟨0,cg _,rfl,bj _ _⟩;obtain⟨k,hk,rfl,hB⟩:=hrel;have Mt:=aa hB;have ap2:=fl;have Ml:=Mk;have ap3:=rB;replace fl:=Zbk hB fl;replace Mk:=Zbk hB Mk;replace rB:=aa (rB.o.mv (Mv.of hB));have fy:=Zbl HB hB;clear hB ap2 Ml ap3;have s3:=mi fl.o 3 _ rfl;by_cases hlt:k<s.Ga.length
 ·obtain⟨r,hr⟩:=aj s.Ga k hlt;have hrm:=ct hr;obtain⟨b,off,us,rfl,_,cX,_,eE,hcv⟩:=HA.o.elem hr;obtain rfl:us=_:=eE;have cT:=fy.o.block b cX;have hbl:=cC cX fy.o.size;obtain⟨q0,q1,q2⟩:=Mn cT hcv;clear hcv hr cT;have hbl0:=hbl;have ax5:=aa (HEA.o r hrm);have hks:=Zu.o r.on;go_upto_region 7 with(fail);refine JX (ok:=ok) _ wr g a Bg Bs b off k s.Ga.length ac r.on Mk.o (aq fl.o) s3 hlt hbl q1 rB.o mb _ _ rfl rfl (aa ?_) (fun _ _ _ _ _ h=>h);intro tp tc sp sc aD2 bX7 X7 _ _ _ _ _ _ _ _ _ _ _ ay4 at6 ay5 av9 aw0;generalize (aM g.F9 r.on).getD eY=x at *;have ux:=Zbl Mt at6;have h0:=aq fl.o;replace s3:=aG (cC h0 at6.size) ((at6.cell (p:=⟨Bs,3,none⟩) h0).trans s3);replace q0:=aG (cC hbl at6.size) ((at6.cell (p:=⟨b,off+k*3,none⟩) hbl).trans q0);have Qp:=aa av9;have HKX:=aa fun q:fo=>(aN.moves.mv (Mv.of (dQ X7 q)) aw0:aN _ (ext X7 q) _ _);clear hbl hbl0 q1 q2 at6 ay5 av9 aw0 h0 fl Mk rB Mt fy ay4;obtain⟨y0,y1,y2,y3,y4,y5⟩:=I6 Qp.o;clear Qp
  go_upto_region 8 with(fail)
  cases pS:r.vol with
  |true =>
   rw[pS]at q0;obtain⟨n6,n5⟩:=ax5.o pS;clear pS hrm ax5;(refine wp_region_quiet_lit ?_;(repeat(go_big_quiet_step ((go_at_call 93;exact iH (pq _ _ _ (HKX.o _) hks)))));(with_reducible refine fR ?_);intro wqB ia;have av4:=dY ia;clear ia)
   have Ix:=Zbl ux av4;clear av4 y0 y1 y2 y3 y4 y5 q0 s3 n6 n5;go_wp2;go_roundw;exact⟨k+1,TcN,TcR,Ix.o⟩;simp[intOf];omega
  |false =>
   rw[pS]at q0;clear pS hrm ax5;(refine wp_region_quiet_lit ?_;(repeat(go_big_quiet_step ((fail))));(with_reducible refine fR ?_);intro wqB ia;have av4:=dY ia;clear ia)
   have Ix:=Zbl ux av4;clear av4 y0 y1 y2 y3 y4 y5 q0 s3;go_wp2;go_roundw;exact⟨k+1,TcN,TcR,Ix.o⟩;simp[intOf];omega
 clear hk Mt;have hks:=Zu.o s.log;have aB6:=aa PH.o;go_upto_region 10 with(fail);clear s3;have gL:=mi Mk.o;obtain⟨g0,g1,g2,g3,g4,g5,g6,g7,g8⟩:=xr gL;have sL:=mi fl.o;have sn:=sL 6 _ rfl;clear gL sL;go_wp2_with fail;clear g0 g1 g2 g3 g4 g5 g6 g7 g8 sn;refine(aj7 g a s.log wr rB.o.F9 mb).mono ?_;rintro e wL ⟨uL,kl,rfl,hv,au9,hb⟩;have XR:=aa hv;obtain⟨tv,sv,rfl,ew,fL⟩:=hv;obtain⟨tpL,tcL,rfl,_,_⟩:=ew.cap;obtain⟨spL,scL,rfl,_,_⟩:=fL.cap;clear ew fL;generalize hxL:(aM g.F9 s.log).getD eY=xL at *;have pC:=ae wL (.cells (Taf xL tpL tcL spL scL) 57);have Qp:=aa (b9 wL (.cells (Taf xL tpL tcL spL scL) 57));have UN:=hb.trans (pC.mono hb.size);replace Mk:=Zbk UN Mk;replace fl:=Zbk UN fl;replace rB:=aa (rB.o.mv (Mv.of UN));replace fy:=Zbl fy UN;replace XR:=aa (aN.moves.mv (Mv.of pC) XR.o);clear hb pC UN;go_upto_region 11 with(fail);generalize World.alloc wL _=VL at *;generalize wL.heap.size=BL at Qp ⊢;obtain⟨y0,y1,y2,y3,y4,y5⟩:=I6 Qp.o;have s6:=aG (aq fl.o) (mi fl.o 6 _ rfl);have HKX:=aa fun q:fo=>(aN.moves.mv (Mv.of (dQ VL q)) XR.o:aN _ (ext VL q) _ _);clear hxL au9 XR Qp fl Mk rB;cases Fi:s.log.toList.isEmpty with
 |true =>
  (refine wp_region_quiet_lit ?_;(repeat(go_big_quiet_step ((fail))));(with_reducible refine fR ?_);intro wqC ia;have av6:=dY ia;clear ia)
  have TF:=Zbl fy av6;clear av6 y0 y1 y2 y3 y4 y5 s6;go_wp2;go_ret;exact⟨rfl,TF.o⟩
 |false =>
  obtain⟨n6,n5⟩:=aB6.o Fi;have m6:(eZ xL != 6)=true:=by rw[bne,n6];rfl
  have m5:(eZ xL != 5)=true:=by rw[bne,n5];rfl
  (refine wp_region_quiet_lit ?_;(repeat(go_big_quiet_step ((go_at_call 93;exact iH (pq _ _ _ (HKX.o _) hks)))));(with_reducible refine fR ?_);intro wqC ia;have av6:=dY ia;clear ia)
  have TF:=Zbl fy av6;clear av6 y0 y1 y2 y3 y4 y5 s6;go_wp2;go_ret;exact⟨rfl,TF.o⟩
theorem GQ{vn on:ByteArray}{vd:List UInt8}(h:dM vn vd on=true):(⟨(iK vn.data.toList vd).1.toArray⟩:ByteArray)=on/\(iK vn.data.toList vd).2=0:=by
 unfold dM pV at h;rw[eh,beq_iff_eq,beq_iff_eq]at h;have e:=h.2;rw[A6,A6]at e;exact⟨ByteArray.ext (Array.toList_inj.1 e.symm),h.1⟩
theorem IL(nm on:ByteArray)(k:Nat)(W:World)(hs:nm.size<=1000000000)(hk:k<=1000000)(h:dM nm (bf k) on=true) :
  Calls prog 140 #[.string nm,.int .i64 (k:Int)] W fun e w'=>e=.returned (.tuple #[.string on,.int .i64 0])/\Below W.heap.size W w':=by
 have:=Kw nm.data.toList k W TdP TcN;rw[<- bytes_eta,(GQ h).1,(GQ h).2]at this;exact this
theorem Hf(nm on:ByteArray)(k:Int)(W:World)(hs:nm.size<=1000000000)(hk:-1000000<=k/\k<=1000000)(h:dM nm (dH k) on=true) :
  Calls prog 141 #[.string nm,.int .i64 k] W fun e w'=>e=.returned (.tuple #[.string on,.int .i64 0])/\Below W.heap.size W w':=by
 have:=I4 nm.data.toList k W TdP hk;rw[<- bytes_eta,(GQ h).1,(GQ h).2]at this;exact this
def Jf(kind:Int)(k:Nat):List UInt8:=if kind=3\/kind=4 then bf k else if kind=5 then dH (3-(k:Int)) else if k=0 then bf 0 else dH (1+(k:Int))
theorem Kn(h:jS v s=true)(h5:s.kind=5->s.Ga.length<=2)(h7:s.kind=7->s.Ga.length<=3){k:Nat}{r:aR}(hr:s.Ga[k]?=some r)(hk:s.kind=3\/s.kind=4\/s.kind=5\/s.kind=7):dM v.name (Jf s.kind k) r.on=true:=by
 have hl:=(List.getElem?_eq_some_iff.1 hr).1;have ho:=uD hr;unfold jS at h;unfold Jf;by_cases c:s.kind=3\/s.kind=4
 ·rw[aw c,eh]at h;rw[aw c];have:=List.all_eq_true.1 h.1 k (List.mem_range.2 hl);rwa[ho]at this
 rw[bh c]at h ⊢;by_cases c5:s.kind=5
 ·rw[aw c5,eh]at h;rw[aw c5];have:=h5 c5;rcases(show k=0\/k=1 by omega)with rfl|rfl
  ·rw[ho]at h;exact h.1
  rw[ho]at h;exact h.2
 rw[bh c5,aw (show s.kind=7 by omega),eh,eh]at h;rw[bh c5];have:=h7 TcN;rcases(show k=0\/k=1\/k=2 by omega)with rfl|rfl|rfl
 ·rw[ho]at h;exact h.1.1
 ·rw[ho]at h;exact h.1.2
 rw[ho]at h;exact h.2
theorem Kt(h:jS v s=true)(h3:¬s.kind=3->s.log.toList.isEmpty=true)(hl:s.log.toList.isEmpty=false):dM v.name (dH 1) s.log=true:=by
 have hk:s.kind=3:=Decidable.byContradiction fun q=>by
  rw[h3 q]at hl;cases hl
 unfold jS at h;rw[aw (.inl hk),eh,hl,nj]at h;exact h.2
theorem Tcw{p:Prop}(h:p:=by
 rintro e w5 ⟨rfl,hb5⟩;have h0:=aq fl.o;replace s3:=(hb5.cell (p:=⟨Bs,3,none⟩) h0).trans s3;replace q1:=(hb5.cell (p:=⟨b,off+k*3+1,none⟩) hbl).trans q1;have eK:=Zbl Mt hb5;clear hb5 h0 x0 s2 fl Qe Mt fy hbl;exact TcM):p:=h
theorem Ta4{p:Prop}(h:p:=by
 exact Tcw):p:=h
theorem TaY{p:Prop}(h:p:=by
 go_wp2_with fail;refine(IL v.name r.on k wr Yy.o TcN Mr.o).mono ?_;exact Tcw):p:=h
theorem Ki{ok:Nat->Prop}(v:ay)(s:aB)(u1 u2:List Value)(w:World)(sA:aN ok w u1 v)(hv:bC ok w u2 s)(Q1:s.Ga.length<=1000000)(hn:v.name.size<=1000000000)(h5:s.kind=5->s.Ga.length<=2)(h7:s.kind=7->s.Ga.length<=3)(h3:¬s.kind=3->s.log.toList.isEmpty=true)(he:jS v s=true) :
  Calls prog 89 #[.agg u1.toArray,.agg u2.toArray] w fun e w'=>e=.returned (.bool true)/\Below w.heap.size w w':=by
 have HNA:=aa fun(k:Nat) (r:aR) (hr:s.Ga[k]?=some r) hk=>Kn he h5 h7 hr hk;have Ns:=aa fun h=>Kt he h3 h;have Yy:=aa hn;have HL5:=aa h5;clear he h5 h7 h3 hn;obtain⟨tv,sv,rfl,ew,fL⟩:=sA;obtain⟨tp,tc,rfl,_,_⟩:=ew.cap;obtain⟨sp,sc,rfl,_,_⟩:=fL.cap;obtain⟨av,Oz,rfl,mC,TG⟩:=hv;obtain⟨ap,ac,rfl,_,_⟩:=mC.cap;obtain⟨eN,eR,rfl,_,_⟩:=TG.cap;have HA:=aa mC;clear mC TG ew fL;have hA1:=ae w (.cells (Taf v tp tc sp sc) 57);have hA2:=ae (w.alloc (.cells (Taf v tp tc sp sc) 57)) (.cells (Tae s ap ac eN eR) 88);have hN1:=b9 w (.cells (Taf v tp tc sp sc) 57);have fl:=aa (b9 (w.alloc (.cells (Taf v tp tc sp sc) 57)) (.cells (Tae s ap ac eN eR) 88));have Qe:=aa ((hA2.block _ (aq hN1)).trans hN1);have HB:=aa (hA1.trans (hA2.mono hA1.size));clear hA1 hA2 hN1;rw[cW]at fl;go_enter func89,ntmps89
 go_upto_region 1 with(fail);generalize World.alloc (World.alloc w _) _=W1 at *;generalize hE1:w.heap.size+1=Bs at fl ⊢;generalize hE0:w.heap.size=Bv at Qe ⊢;clear hE1 hE0;go_wp2;go_loopw[5] (fun i wr=>∃k:Nat,k<=s.Ga.length/\i=.int .i64 k/\Below W1.heap.size W1 wr) (fun i _=>s.Ga.length-(intOf i).toNat)
 exact⟨0,cg _,rfl,bj _ _⟩;obtain⟨k,hk,rfl,hB⟩:=hrel;have Mt:=aa hB;replace fl:=Zbk hB fl;replace Qe:=Zbk hB Qe;have fy:=Zbl HB hB;clear hB;have s3:=mi fl.o 3 _ rfl;have x0:=mi Qe.o 0 _ rfl;by_cases hlt:k<s.Ga.length
 ·obtain⟨r,hr⟩:=aj s.Ga k hlt;have Mr:=aa (HNA.o k r hr);obtain⟨b,off,us,rfl,_,cX,_,eE,hcv⟩:=HA.o.elem hr;obtain rfl:us=_:=eE;have cT:=fy.o.block b cX;have hbl:=cC cX fy.o.size;obtain⟨q0,q1,q2⟩:=Mn cT hcv;have s2:=mi fl.o 2 _ rfl;clear hcv hr cT q0 q2;by_cases h3:s.kind=3
  ·replace Mr:=aa (Mr.o (.inl h3));rw[h3]at s2 Mr;clear h3;rw[show Jf 3 k=bf k from rfl]at Mr;exact TaY
  by_cases h4:s.kind=4
  ·replace Mr:=aa (Mr.o (.inr (.inl h4)));rw[h4]at s2 Mr;clear h4 h3;rw[show Jf 4 k=bf k from rfl]at Mr;exact TaY
  by_cases h5:s.kind=5
  ·replace Mr:=aa (Mr.o (.inr (.inr (.inl h5))));have hl2:=HL5.o h5;rw[h5]at s2 Mr;clear h5 h4 h3;rw[show Jf 5 k=dH (3-(k:Int)) from rfl]at Mr;have hw:IntKind.i64.wrap (3-(k:Int))=3-(k:Int):=dy _ TcN;go_wp2_with fail;refine(Hf v.name r.on (3-(k:Int)) wr Yy.o TcN Mr.o).mono ?_;exact Ta4
  by_cases h7:s.kind=7
  ·replace Mr:=aa (Mr.o (.inr (.inr (.inr h7))));rw[h7]at s2 Mr;clear h7 h5 h4 h3;by_cases hk0:k<1
   ·rw[show Jf 7 k=bf k by unfold Jf;rw[bh TcQ,bh TcQ,aw TcN,show(k:Int)=0 by omega]]at Mr;have ek:((k:Int)==0)=true:=beq_iff_eq.2 TcN;clear hk0;exact TaY
   rw[show Jf 7 k=dH (1+(k:Int)) by unfold Jf;rw[bh TcQ,bh TcQ,bh TcN]]at Mr;have ek:((k:Int)==0)=false:=beq_eq_false_iff_ne.2 TcN;have hw:IntKind.i64.wrap (1+(k:Int))=1+(k:Int):=dy _ TcN;go_wp2_with fail;refine(Hf v.name r.on (1+(k:Int)) wr Yy.o TcN Mr.o).mono ?_;exact Ta4
  have e3:(s.kind==3)=false:=beq_eq_false_iff_ne.2 h3;have e4:(s.kind==4)=false:=beq_eq_false_iff_ne.2 h4;have e5:(s.kind==5)=false:=beq_eq_false_iff_ne.2 h5;have e7:(s.kind==7)=false:=beq_eq_false_iff_ne.2 h7;have YF:Hid (∀n,Below W1.heap.size W1 (wr.drewN n)):=aa fun n=>aT Mt.o n;clear h3 h4 h5 h7 Mt fy fl Qe Mr hbl;go_wp2;go_roundw
  exact⟨k+1,TcN,TcR,by first|exact YF.o 0|exact YF.o _⟩;simp[intOf];omega
 clear hk Mt;have s6:=mi fl.o 6 _ rfl;cases Fi:s.log.toList.isEmpty with
 |true =>
  have HP:=aa (I4 v.name.data.toList 1 wr (by simpa using Yy.o) TcN);rw[<- bytes_eta]at HP;go_wp2_with fail;refine HP.o.mono ?_;rintro e w5 ⟨rfl,hb5⟩;have h0:=aq fl.o;replace s6:=(hb5.cell (p:=⟨Bs,6,none⟩) h0).trans s6;have TF:=Zbl fy hb5;clear hb5 h0 HP x0 s3 fl Qe fy;go_wp2;go_ret;exact⟨rfl,TF.o⟩
 |false =>
  have HP:=aa (Hf v.name s.log 1 wr Yy.o TcN (Ns.o Fi));go_wp2_with fail;refine HP.o.mono ?_;rintro e w5 ⟨rfl,hb5⟩;have h0:=aq fl.o;replace s6:=(hb5.cell (p:=⟨Bs,6,none⟩) h0).trans s6;have TF:=Zbl fy hb5;clear hb5 h0 HP x0 s3 fl Qe fy;go_wp2;go_ret;exact⟨rfl,TF.o⟩
end Go.Proofs.YtillcmhjhajimaaGreatDoor
