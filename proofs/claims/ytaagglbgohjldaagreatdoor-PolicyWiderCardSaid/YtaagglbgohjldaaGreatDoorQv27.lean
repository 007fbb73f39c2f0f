/- Lemmas: SpR. -/
import Derived.Test.YtaagglbgohjldaaGreatDoorQv08
import Derived.RangeFuncNested
import Derived.RangeFuncBound
import Derived.Shelf.RegionOpen
import Derived.OwnWalkIn
import Derived.LoopNIn
import Derived.LoopIn
set_option maxRecDepth 100000
set_option maxHeartbeats 32000000
set_option linter.all false
namespace Go.Proofs.YtaagglbgohjldaaGreatDoor
open Go.Proofs.Tryz
open Go.RowKit
variable {B k:Nat}{w w':World}{v:Value}{l:List gy}
theorem Im (st len kd ch dev mode dn:Int)(ap sp:Option Addr)(al ac sl sc:Nat)(log pool:ByteArray)(w:World)(h0:0<=len)(h1:len<=9223372036854775807)(ha:al<=1000000) :
  Calls prog 92 #[.agg (Tax st len kd al ap ac ch sl sp sc log pool dev mode dn)] w fun e w'=>e=.returned (.int .i64 (iB kd len al))/\Below w.heap.size w w':=by
 have hb:=ae w (.cells (Tax st len kd al ap ac ch sl sp sc log pool dev mode dn) 114);have HB:=aa hb;clear hb;go_enter func92,ntmps92
 exact TaZ
def Gt:jx gy:=fun _ _ vs x=>vs=[.string x.vol,.string x.disk,.int .i64 x.start,.int .i64 x.len]
theorem Gt.moves:Moves Gt:=⟨fun _ h=>h⟩
theorem Ic:(prog.info? 187).map (fun i=>(i.zero,i.size,i.bytes))=some (some (.agg #[.string ⟨#[]⟩,.string ⟨#[]⟩,.int .i64 0,.int .i64 0]),4,48):=by kernel_rfl
def AC (B:Nat)(w:World)(v:Value)(l:List gy):Prop:=bF Gt 4 187 B (fun _=>False) w v l
theorem AC.nil (B:Nat)(w:World):AC B w (.slice none 0 0) []:=⟨[],gS _ _ _ 4,rfl⟩
theorem AC.keep (h:AC B w v l)(hz:w.heap.size<=w'.heap.size)(hk:∀ k,v.ownBlock=some k->w'.heap[k]?=w.heap[k]?):AC B w' v l:=by
 obtain ⟨cs,ho,hf⟩:=h;exact ⟨cs,aC ho hk,Flat.moves Gt.moves ⟨hz,fun b _ f=>f.elim⟩ _ _ hf⟩
theorem AC.below (h:AC B w v l)(hb:Below w.heap.size w w'):AC B w' v l:=by
 refine h.keep hb.size fun k e=>hb.block k ?_;obtain ⟨cs,ho,_⟩:=h;exact (ho.lt k e).2
theorem AC.notSeg {cs:Array Value}{z:Nat × Nat}(h:AC B w v l)(hk:w.heap[k]?=some (.cells cs 114 z)):v.ownBlock≠some k:=fun e=>by
 obtain ⟨_,ho,_⟩:=h;rcases ho.2 with ⟨rfl,_⟩ | ⟨g,cap,cur,rfl,_,hgg,_⟩
 ·cases e
 obtain rfl:g=k:=by injection e
 rw [hk] at hgg;injection hgg with hgg;injection hgg with _ hgg _
 cases hgg
theorem AC.ge (h:AC B w v l)(e:v.ownBlock=some k):B<=k/\k<w.heap.size:=by
 exact Tcn
noncomputable def H9 (n:Nat):Code:=((Tryz.f130.body.bind (kX n)).getD .skip)
theorem Db (Q:Exit->Act->World->Prop)(c0 c2 c5 c8 c9 c10 c11 c12 c13 c14 c15 c16 c17 c18 c19 c20 c21 c22 c23 c24 c25 c26 c27 c28 c29 c30 c31 c32 c33 c34 c35 c36 c37 c38 c39 c40 c41 c42 c43 c44 c45 c46 c47 c48 c49 c50 c51 c52 c53 c54 c55 c56 c57 c58 c59 c60 c61 c62 c63 c64 c65 c66 c67 c68 c69 c70 c71 c72 c73 c74 c75 c76 c77 c78 c79 c80 c81 c82 c83 c84 c85 c86 c87:Value)(w:World)(B Bg Bs b b3 off off3 k n p ac sc vc:Nat)(sp:Option Addr)(s:aB)(a:aR)(name:ByteArray)(v3:Value)(l:List gy)
  (hB:B<=w.heap.size) (hkn:k<n) (hpn:p<s.Ga.length) (hal:s.Ga.length<=1000) (hll:l.length<=100000) (hlen:0<=s.length/\s.length<=1000000)
  (hg:Bg<w.heap.size) (hg7:w.cell? (Tac Bg 7)=some (.slice (some (b,off)) n vc)) (hb:b<w.heap.size) (hn0:w.cell? (b,off+k*6)=some (.string name))
  (hs:w.heap[Bs]?=some (.cells (Tae s (some ⟨b3,off3,none⟩) ac sp sc) 114 (0,0))) (hb3:b3<w.heap.size) (ha1:w.cell? (b3,off3+p*3+1)=some (.string a.on)) (ha2:w.cell? (b3,off3+p*3+2)=some (.int .i64 a.start))
  (hO:AC B w v3 l)
  (HK:Hid (∀ (v':Value) (w':World) (u62 u63 u64 u65 u66 u67 u68 u69 u70 u71 u72 u73 u74 u75 u76 u77 u78 u79 u80 u81 u82 u83 u84 u85 u86:Value),AC B w' v' (l++[aJ name s a])->Below B w w'->w'.heap[Bs]?=w.heap[Bs]?->Q .normal ⟨#[c0,.pointer (some Bg),c2,v',.int .i64 (k:Int),c5,.pointer (some Bs),.int .i64 (p:Int),c8,c9,c10,c11,c12,c13,c14,c15,c16,c17,c18,c19,c20,c21,c22,c23,c24,c25,c26,c27,c28,c29,c30,c31,c32,c33,c34,c35,c36,c37,c38,c39,c40,c41,c42,c43,c44,c45,c46,c47,c48,c49,c50,c51,c52,c53,c54,c55,c56,c57,c58,c59,c60,c61,u62,u63,u64,u65,u66,u67,u68,u69,u70,u71,u72,u73,u74,u75,u76,u77,u78,u79,u80,u81,u82,u83,u84,u85,u86,c87],[]⟩ w'))
  (hQ:∀ c (a:Act) (d:Tmp) (v:Value) w,Q (.panic c) (a.put (some d) v) w->Q (.panic c) a w) :
  (H9 14).wp prog Q ⟨#[c0,.pointer (some Bg),c2,v3,.int .i64 (k:Int),c5,.pointer (some Bs),.int .i64 (p:Int),c8,c9,c10,c11,c12,c13,c14,c15,c16,c17,c18,c19,c20,c21,c22,c23,c24,c25,c26,c27,c28,c29,c30,c31,c32,c33,c34,c35,c36,c37,c38,c39,c40,c41,c42,c43,c44,c45,c46,c47,c48,c49,c50,c51,c52,c53,c54,c55,c56,c57,c58,c59,c60,c61,c62,c63,c64,c65,c66,c67,c68,c69,c70,c71,c72,c73,c74,c75,c76,c77,c78,c79,c80,c81,c82,c83,c84,c85,c86,c87],[]⟩ w:=by
 conv=>arg 2;whnf
 have GF:=aq hs;have sL:∀ (j:Nat) (z:Value),[.int .i64 s.start,.int .i64 s.length,.int .i64 s.kind,.slice (some (b3,off3)) s.Ga.length ac,.int .i64 s.chunk,.slice sp s.stale.length sc,.string s.log,.string s.pool,.int .i64 s.device,.int .i64 s.mode,.int .i64 s.done][j]?=some z->∀ q:fo,(ext w q).cell? ⟨Bs,j,none⟩=some z:=fun j z hz=>aG GF (by
  simp only [World.cell?,hs];simpa using hz)
 obtain ⟨s0,s1,s2,s3,s4,s5,s6,s7,s8,s9,s10⟩:=IC sL;have g7:=aG hg hg7;have n0:=aG hb hn0;have a1:=aG hb3 ha1;have a2:=aG hb3 ha2;have HO:=aa hO;clear hO;have HS:=aa hs;clear hs;have hlen1:=hlen.1;have hlen2:=hlen.2;obtain ⟨i0,hi,hz0,hz1,hz2⟩:=cy Ic;have HI:=aa hi;clear hi;have H0:=aa hz0;clear hz0;have H1:=aa hz1;clear hz1;have H2:=aa hz2;clear hz2;clear sL hg7 hn0 ha1 ha2 hlen;(refine lG _ 23 TcE rfl rfl TcE TcE (fun _ _ _ _ h=>hQ _ _ _ _ _ h) (by go_simp;rfl) ?_;simp only [xi,iv,cQ,cL])
 repeat (go_big_quiet_step ((go_at_call 92;exact iH (Im _ _ _ _ _ _ _ _ _ _ _ _ _ _ _ _ TcC TcC TcC))))
 with_reducible refine fR ?_
 intro wq ia;have kq:=dY ia;clear ia s0 s1 s2 s3 s4 s5 s6 s7 s8 s9 s10 g7 n0 a1 a2;have hO2:=HO.o.below kq;have G2:=ae wq (.cells #[.string name,.string a.on,.int .i64 a.start,.int .i64 (iB s.kind s.length s.Ga.length)] 187);have hO3:=hO2.below G2;have HO3:=aa hO3;have pL:=aa G2;have LX:=aa kq;have PF:=cA hB kq.size;clear hO2 hO3 G2 kq;go_wp2_with (at_builtin;refine dX Gt.moves underlying184 HI.o H0.o H1.o H2.o rfl TcF TcF rfl _ _ rfl B (fun _=>False) v3 l (aJ name s a) rfl HO3.o wq.heap.size 1 [.string name,.string a.on,.int .i64 a.start,.int .i64 (iB s.kind s.length s.Ga.length)] rfl rfl rfl ?d3 ?d4 ?d5 ?d6 (fun _ _ f=>f) ?_)
 all_goals first | (case d3=>(simp [Value.oneCell'])) | (case d4=>(intro j y hy;exact aD rfl TcX)) | (case d5=>omega) | (case d6=>omega) | (case d6=>simp only [cW];omega) | skip
 intro gb cap w3 hp;have CT:∀ j,j<w.heap.size->v3.ownBlock≠some j->w3.heap[j]?=w.heap[j]?:=fun j hj hne=>(hp.grown.block j (cC hj (cA LX.o.size pL.o.size)) (fun e=>hne e.symm)).trans ((pL.o.block j (cC hj LX.o.size)).trans (LX.o.block j hj));have jn:Below B w w3:=((LX.o.mono hB).trans (pL.o.mono PF)).grown hp.grown (by simp only [cW];omega) (fun j e=>(HO3.o.ge e).1);have hS:=CT Bs GF (HO.o.notSeg HS.o);have Qt:=hp.own;have HOW:=aa Qt;have PG:=aa jn;have Mx:=aa hS;clear hp Qt jn hS CT;go_wp2;exact HK.o _ _ _ _ _ _ _ _ _ _ _ _ _ _ _ _ _ _ _ _ _ _ _ _ _ _ _ HOW.o PG.o Mx.o
def TaH (x0:ByteArray)(x1:Int)(x2:Int)(x3:Int)(x4:Int)(x5:Nat)(x6:Option Addr)(x7:Nat)(x8:Nat)(x9:Option Addr)(x10:Nat)(x11:Nat)(x12:Option Addr)(x13:Nat)(x14:Nat)(x15:Option Addr)(x16:Nat):Tab #[.string x0,.int .u64 x1,.int .i64 x2,.int .i64 x3,.int .i64 x4,.slice x6 x5 x7,.slice x9 x8 x10,.slice x12 x11 x13,.slice x15 x14 x16]:=⟨⟩
theorem Tei {p:Prop}(h:p:=by show w.heap.size<w.heap.size+1;omega):p:=h
theorem TaV {p:Prop}(h:p:=by
 clear zE;go_wp2;clear k2 k3;generalize ao5:wr.heap.size=Bs at *;clear ao5;go_loopw [3,7] (fun vo m wr3=>∃ p:Nat,p<=s.Ga.length/\m=.int .i64 (p:Int)/\AC (w.heap.size+1) wr3 vo ((pieces (F9.take k)++(v.Gf.take q).flatMap (aK v.name))++(s.Ga.take p).map (aJ v.name s))/\Below (w.heap.size+1) W wr3/\wr3.heap[Bs]?=some (.cells (Tae s ap ac sp sc) 114 (0,0))) (fun _ m _=>s.Ga.length - (intOf m).toNat)
 exact ⟨0,cg _,rfl,by simpa using HO2.o,cm.o,lj.o⟩;obtain ⟨p,hp,rfl,ho3,hB3,ml⟩:=hrel;have hW3:=hB3.size;have g7:wr.cell? (Tac w.heap.size 7)=some (.slice (some (b,off)) F9.length vc):=(hB3.cell (p:=⟨w.heap.size,7,none⟩) Tei).trans HG7.o;have Ol:=aq ml;have z3:=cr ml 3 _ rfl;by_cases hlt3:p<s.Ga.length
 ·obtain ⟨a,ha⟩:=aj s.Ga p hlt3;have B4:=HTS.o E4.o a (ct ha);obtain ⟨b3,off3,u3,rfl,B7,PV,pT,hva,mB⟩:=ya.o.elem ha;obtain rfl:u3=[.bool a.vol,.string a.on,.int .i64 a.start]:=hva;rw [B4] at mB;have cT:wr.heap[b3]?=w.heap[b3]?:=(hB3.block b3 TcC).trans (HW.o.block b3 PV);have q0:=(cd (w:=w) (a:=⟨b3,off3+p*3,none⟩) cT).trans (mB 0 _ rfl);have q1:=(cd (w:=w) (a:=⟨b3,off3+p*3+1,none⟩) cT).trans (mB 1 _ rfl);have q2:=(cd (w:=w) (a:=⟨b3,off3+p*3+2,none⟩) cT).trans (mB 2 _ rfl);have hbn:wr.heap[b]?=w.heap[b]?:=(hB3.block b TcC).trans (HW.o.block b cX);have n0:=(cd (w:=w) (a:=⟨b,off+k*6,none⟩) hbn).trans (HCV.o 0 _ rfl);have HA:=aa ha;clear ha;have HO3:=aa ho3;clear ho3;have cJ:=aa hB3;clear hB3;have HS3:=aa ml;clear ml;have HLL:Hid (((pieces (F9.take k)++(v.Gf.take q).flatMap (aK v.name))++(s.Ga.take p).map (aJ v.name s)).length<=100000):=aa (by
   obtain ⟨rest,od⟩:=oz Sq.o B6.o HA.o E4.o;have e:=fj List.length od;have aq5:=Nv.o;rw [e] at aq5;simp only [cD,pieces] at aq5 ⊢;omega)
  clear mB cT pT B4 hbn;go_upto_region 14 with (fail);clear q0;refine Db _ _ _ _ _ _ _ _ _ _ _ _ _ _ _ _ _ _ _ _ _ _ _ _ _ _ _ _ _ _ _ _ _ _ _ _ _ _ _ _ _ _ _ _ _ _ _ _ _ _ _ _ _ _ _ _ _ _ _ _ _ _ _ _ _ _ _ _ _ _ _ _ _ _ _ _ _ _ _ _ _ _ _ _ wr (w.heap.size+1) w.heap.size Bs b b3 off off3 k F9.length p ac sc vc sp s a v.name _ _ TcC hlt hlt3 Oj.o HLL.o WG.o TcC g7 TcC n0 HS3.o TcC q1 q2 HO3.o (aa ?_) ?hQ
  case hQ=>exact fun _ _ _ _ _ h=>h
  clear g7 n0 q1 q2 z3;intro v' w' u62 u63 u64 u65 u66 u67 u68 u69 u70 u71 u72 u73 u74 u75 u76 u77 u78 u79 u80 u81 u82 u83 u84 u85 u86 ho' hb' hs';have HO':=aa ho';clear ho';have Ks:=aa hb';clear hb';have HS':=aa (hs'.trans HS3.o);clear hs';go_wp2;go_roundw;exact ⟨p+1,TcC,TcG,by rw [take_snoc' _ _ _ HA.o,gl,<- cV];exact HO'.o,cJ.o.trans Ks.o,HS'.o⟩;simp [intOf];omega
 obtain rfl:p=s.Ga.length:=by omega
 rw [cI] at ho3;have HO3:=aa ho3;clear ho3;have cJ:=aa hB3;clear hB3;clear g7;go_wp2;go_roundw;exact ⟨q+1,TcC,TcG,by rw [gq B6.o,show aK v.name s=s.Ga.map (aJ v.name s) from aw E4.o,<- cV];exact HO3.o,cJ.o⟩;simp [intOf];omega):p:=h
theorem Hg {ok:Nat->Prop}(al7:ByteArray)(id seq ext nx:Int)(tp dp vp hp:Option Addr)(tl tc dl dc vc hl hc:Nat)(F9:List ay)(w:World)(hv:ck aN 6 ok w [.slice vp F9.length vc] F9)(mb:F9.length<=1000)(ht:qx F9)(hpn:(pieces F9).length<=100000) :
  Calls prog 130 #[.agg (TaH al7 id seq ext nx tl tp tc dl dp dc F9.length vp vc hl hp hc)] w fun e w'=>∃ v,e=.returned v/\AC w.heap.size w' v (pieces F9)/\Below w.heap.size w w':=by
 have hb1:=ae w (.cells (TaH al7 id seq ext nx tl tp tc dl dp dc F9.length vp vc hl hp hc) 31);have hg1:=b9 w (.cells (TaH al7 id seq ext nx tl tp tc dl dp dc F9.length vp vc hl hp hc) 31);have hz1:(w.alloc (.cells (TaH al7 id seq ext nx tl tp tc dl dp dc F9.length vp vc hl hp hc) 31)).heap.size=w.heap.size+1:=by simp
 have HV:=aa hv;clear hv;have HT:=aa ht;clear ht;have Nv:=aa hpn;clear hpn;have HG1:=aa hg1;clear hg1;have HW:=aa hb1;clear hb1;have HZ:=aa hz1;clear hz1;go_enter func130,ntmps130;go_wp2;generalize WE:w.alloc (.cells (TaH al7 id seq ext nx tl tp tc dl dp dc F9.length vp vc hl hp hc) 31)=W at *;clear WE;have hz:=HZ.o
 go_loopw [3,4] (fun vo vi wr=>∃ k:Nat,k<=F9.length/\vi=.int .i64 (k:Int)/\AC (w.heap.size+1) wr vo (pieces (F9.take k))/\Below (w.heap.size+1) W wr) (fun _ vi _=>F9.length - (intOf vi).toNat)
 exact ⟨0,cg _,rfl,AC.nil _ _,bj _ _⟩;obtain ⟨k,hk,rfl,ho,hB⟩:=hrel;have g7:wr.cell? (Tac w.heap.size 7)=some (.slice vp F9.length vc):=(hB.cell (p:=⟨w.heap.size,7,none⟩) Tei).trans (by simp [World.cell?,HG1.o]);by_cases hlt:k<F9.length
 ·obtain ⟨v,hD⟩:=aj F9 k hlt;obtain ⟨b,off,u1,rfl,gR,cX,ez,sA,hcv⟩:=HV.o.elem hD;obtain ⟨tv,sv,rfl,ew,fL⟩:=sA;obtain ⟨gp,gc,rfl,_,_⟩:=fL.cap;have HG7:Hid (W.cell? (Tac w.heap.size 7)=some (.slice (some (b,off)) F9.length vc)):=aa (by simp [World.cell?,HG1.o]);have Sq:=aa hD;clear hD;have Zv:=aa fL;clear fL;have HCV:=aa hcv;clear hcv;have HO:=aa ho;clear ho;have HB:=aa hB;clear hB;have Vc:=aa (HT.o v (ct Sq.o));clear ew ez;go_wp2;clear g7;go_loopw [3,5] (fun vo vi wr2=>∃ q:Nat,q<=v.Gf.length/\vi=.int .i64 (q:Int)/\AC (w.heap.size+1) wr2 vo (pieces (F9.take k)++(v.Gf.take q).flatMap (aK v.name))/\Below (w.heap.size+1) W wr2) (fun _ vi _=>v.Gf.length - (intOf vi).toNat)
  exact ⟨0,cg _,rfl,by simpa using HO.o,HB.o⟩;obtain ⟨q,hq,rfl,ho,hB⟩:=hrel;have hWr:=hB.size;have g7:wr.cell? (Tac w.heap.size 7)=some (.slice (some (b,off)) F9.length vc):=(hB.cell (p:=⟨w.heap.size,7,none⟩) Tei).trans HG7.o;have hbn:wr.heap[b]?=w.heap[b]?:=(hB.block b TcC).trans (HW.o.block b cX);have v5:=(cd (w:=w) (a:=⟨b,off+k*6+5,none⟩) hbn).trans (HCV.o 5 _ rfl);clear hbn;by_cases hlt2:q<v.Gf.length
  ·obtain ⟨s,yq⟩:=aj v.Gf q hlt2;obtain ⟨b2,off2,u2,rfl,I0,C2,B5,eE,hcs⟩:=Zv.o.elem yq;obtain ⟨av,Oz,rfl,py,hst⟩:=eE;obtain ⟨ap,ac,rfl,_,_⟩:=py.cap;obtain ⟨sp,sc,rfl,_,_⟩:=hst.cap;have cT:wr.heap[b2]?=w.heap[b2]?:=(hB.block b2 TcC).trans (HW.o.block b2 C2);have z0:=(cd (w:=w) (a:=⟨b2,off2+q*11,none⟩) cT).trans (hcs 0 _ rfl);have z1:=(cd (w:=w) (a:=⟨b2,off2+q*11+1,none⟩) cT).trans (hcs 1 _ rfl);have z2:=(cd (w:=w) (a:=⟨b2,off2+q*11+2,none⟩) cT).trans (hcs 2 _ rfl);have z3:=(cd (w:=w) (a:=⟨b2,off2+q*11+3,none⟩) cT).trans (hcs 3 _ rfl);have z4:=(cd (w:=w) (a:=⟨b2,off2+q*11+4,none⟩) cT).trans (hcs 4 _ rfl);have z5:=(cd (w:=w) (a:=⟨b2,off2+q*11+5,none⟩) cT).trans (hcs 5 _ rfl);have z6:=(cd (w:=w) (a:=⟨b2,off2+q*11+6,none⟩) cT).trans (hcs 6 _ rfl);have z7:=(cd (w:=w) (a:=⟨b2,off2+q*11+7,none⟩) cT).trans (hcs 7 _ rfl);have z8:=(cd (w:=w) (a:=⟨b2,off2+q*11+8,none⟩) cT).trans (hcs 8 _ rfl);have z9:=(cd (w:=w) (a:=⟨b2,off2+q*11+9,none⟩) cT).trans (hcs 9 _ rfl);have z10:=(cd (w:=w) (a:=⟨b2,off2+q*11+10,none⟩) cT).trans (hcs 10 _ rfl);have B6:=aa yq;clear yq;have Ut:=Vc.o.2 s (ct B6.o);have WG:=aa Ut.1;have Oj:=aa Ut.2.1;have HTS:=aa Ut.2.2;have ya:=aa py;clear py;have hb2:=ae wr (.cells (Tae s ap ac sp sc) 114);have lj:=aa (b9 wr (.cells (Tae s ap ac sp sc) 114));have HO2:=aa (ho.below hb2);have cm:=aa (hB.trans (hb2.mono TcC));have k2:(wr.alloc (.cells (Tae s ap ac sp sc) 114)).cell? (Tac wr.heap.size 2)=some (.int .i64 s.kind):=aD rfl rfl;have k3:(wr.alloc (.cells (Tae s ap ac sp sc) 114)).cell? (Tac wr.heap.size 3)=some (.slice ap s.Ga.length ac):=aD rfl rfl;clear ho hB hb2 hst hcs cT B5 Ut;by_cases G0:fP s
   ·have OU:s.kind=1\/s.kind=2\/s.kind=8:=G0;have E4:=aa G0;clear G0;rcases OU with zE | zE | zE
    ·have Lk:(s.kind != 1)=false:=by simp [zE]
     exact TaV
    ·have Lk:(s.kind != 1)=true:=by simp [zE]
     have QV:(s.kind != 2)=false:=by simp [zE]
     exact TaV
    have Lk:(s.kind != 1)=true:=by simp [zE]
    have QV:(s.kind != 2)=true:=by simp [zE]
    have Ve:(s.kind != 8)=false:=by simp [zE]
    exact TaV
   have n1:¬ s.kind=1:=fun e=>G0 (.inl e)
   have n2:¬ s.kind=2:=fun e=>G0 (.inr (.inl e));have n8:¬ s.kind=8:=fun e=>G0 (.inr (.inr e));have Lk:(s.kind != 1)=true:=by simpa using n1
   have QV:(s.kind != 2)=true:=by simpa using n2
   have Ve:(s.kind != 8)=true:=by simpa using n8
   have E4:=aa G0;clear G0 n1 n2 n8;go_wp2;go_roundw;exact ⟨q+1,TcC,TcG,by rw [gq B6.o,show aK v.name s=[] from bh E4.o,eM];exact HO2.o,cm.o⟩;simp [intOf];omega
  obtain rfl:q=v.Gf.length:=by omega
  rw [cI] at ho;have HO2:=aa ho;clear ho;have cm:=aa hB;clear hB;go_wp2;go_roundw;exact ⟨k+1,TcC,TcG,by rw [take_snoc' _ _ _ Sq.o];simp only [pieces,xt,lB,List.flatMap_nil,eM];exact HO2.o,cm.o⟩;simp [intOf];omega
 obtain rfl:k=F9.length:=by omega
 rw [cI] at ho;have HO2:=aa ho;clear ho;have cm:=aa hB;clear hB;go_wp2;go_ret;refine ⟨_,rfl,?_,HW.o.trans (cm.o.mono TcC)⟩;obtain ⟨cs,hro,hf⟩:=HO2.o;exact ⟨cs,⟨hro.1,by
  rcases hro.2 with q | ⟨g,cap,cur,e,h1,h2⟩
  ·exact .inl q
  exact .inr ⟨g,cap,cur,e,TcC,h2⟩⟩,hf⟩
end Go.Proofs.YtaagglbgohjldaaGreatDoor
