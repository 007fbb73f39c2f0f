/- Lemmas: SpR, RgH, RgI, RgJ, RgK, RgL, RefA, RefB, RanH, RefC, PolA, PolS, PolB, PolC, PolD. -/
import Derived.Test.YtaagglbgohjldaaGreatDoorQj07
import Derived.Laws.AppendOwnNone
set_option maxRecDepth 100000
set_option maxHeartbeats 32000000
set_option linter.all false
open List renaming getElem?_eq_some_iff→AT,all_eq_true→An,mem_range→EV,mem_map→As,mem_append→AS,mem_cons→F1,pairwise_cons→IN,mem_flatMap→BY,any_eq_true→Ft
open Go.World renaming cell?→AN,alloc→AI
open Go.Value renaming oneCell'→GS,int→Bm
open Go.Region renaming wanted→By
namespace Go.Proofs.YtaagglbgohjldaaGreatDoor
open Go.Proofs.Tryz
open Go.RowKit
variable {B k:Nat}{w w':World}{v:Value}{l:List gy}
def Im(st len kd ch a5 mode dn:Int)(ap sp:Option Addr)(al ac sl sc:Nat)(log pool:ByteArray)(w:World)(h0:0<=len)(h1:len<=9223372036854775807)(ha:al<=1000000) :
  Calls prog 92 #[.agg (TaA st len kd al ap ac ch sl sp sc log pool a5 mode dn)] w fun e w'=>e=.returned (.int .i64 (iB kd len al))/\Below w.1.size w w':=by
 have hb:=ae w (.cells (TaA st len kd al ap ac ch sl sp sc log pool a5 mode dn) 114);have HB:=aa hb;clear hb;go_enter func92,ntmps92
 exact Ta5
def Gt:jx gy:=fun _ _ vs x=>vs=[.string x.vol,.string x.disk,.int .i64 x.start,.int .i64 x.len]
def Gt.moves:Moves Gt:=⟨fun _ h=>h⟩
def Ic:(prog.info? 187).map (fun i=>(i.zero,i.size,i.bytes))=some (some (.agg #[.string ⟨#[]⟩,.string ⟨#[]⟩,.int .i64 0,.int .i64 0]),4,48):=by kernel_rfl
def AC(B:Nat)(w:World)(v:Value)(l:List gy):Prop:=bF Gt 4 187 B (fun _=>False) w v l
def AC.nil(B:Nat)(w:World):AC B w (.slice none 0 0) []:=⟨[],gS _ _ _ 4,rfl⟩
def AC.keep(h:AC B w v l)(hz:w.1.size<=w'.1.size)(hk:∀k,v.ownBlock=some k->w'.1[k]?=w.1[k]?):AC B w' v l:=by
 obtain⟨cs,ho,hf⟩:=h;exact⟨cs,aC ho hk,Flat.moves Gt.moves ⟨hz,fun b _ f=>f.elim⟩ _ _ hf⟩
def Tcw{p:Prop}(h:p:=by
 refine h.keep hb.size fun k e=>hb.block k ?_;obtain⟨cs,ho,_⟩:=h;exact(ho.lt k e).2):p:=h
def AC.below(h:AC B w v l)(hb:Below w.1.size w w'):AC B w' v l:=by
 exact Tcw
def AC.notSeg{cs:Array Value}{z:Nat × Nat}(h:AC B w v l)(hk:w.1[k]?=some (.cells cs 114 z)):v.ownBlock≠some k:=fun e=>by
 obtain⟨_,ho,_⟩:=h;rcases ho.2 with⟨rfl,_⟩|⟨g,cap,a5,rfl,_,TK,_⟩
 ·cases e
 obtain rfl:g=k:=by injection e
 rw[hk]at TK;injection TK with TK;injection TK with _ TK _
 cases TK
def AC.ge(h:AC B w v l)(e:v.ownBlock=some k):B<=k/\k<w.1.size:=by
 exact TcI
noncomputable def H9(n:Nat):Code:=((Tryz.f130.body.bind (kX n)).getD .skip)
def Td4{p:Prop}(h:p:=by go_simp;rfl):p:=h
def Db(Q:Exit->Act->World->Prop)(c0 c2 c5 c8 c9 c10 TO W0 St Rr RE RK SO Se Sf To Wg aE Wr ZD UP US ab ao fa dj dq eS fs gE ff fi fb gn iS mx qS qe nF o4 oE oR qk oS pe ph pr pt qv rl rm rn sd sh ta zd zp am au av aw ay az aA aC aF aH aI aK aL aM aN aO aP aQ aS aT aU aV aW aX aY a5:Value)(w:World)(B Bg Bs b b3 off off3 k n p ac sc vc:Nat)(sp:Option Addr)(s:aB)(a:aR)(name:ByteArray)(v3:Value)(l:List gy)
  (hB:B<=w.1.size) (b8:k<n) (b9:p<s.Ga.length) (Tp:s.Ga.length<=1000) (hll:l.length<=100000) (Of:0<=s.length/\s.length<=1000000)
  (hg:Bg<w.1.size) (a7:w.cell? (Tac Bg 7)=some (.slice (some (b,off)) n vc)) (hb:b<w.1.size) (a8:w.cell? (b,off+k*6)=some (.string name))
  (hs:w.1[Bs]?=some (.cells (Tae s (some ⟨b3,off3,none⟩) ac sp sc) 114 (0,0))) (hb3:b3<w.1.size) (a9:w.cell? (b3,off3+p*3+1)=some (.string a.on)) (af:w.cell? (b3,off3+p*3+2)=some (.int .i64 a.start))
  (hO:AC B w v3 l)
  (HK:Hid (∀(v':Value) (w':World) (u62 u63 u64 u65 u66 u67 u68 u69 u70 u71 u72 u73 u74 u75 u76 u77 u78 u79 u80 u81 u82 u83 u84 u85 u86:Value),AC B w' v' (l++[aJ name s a])->Below B w w'->w'.1[Bs]?=w.1[Bs]?->Q .normal ⟨#[c0,.pointer (some Bg),c2,v',.int .i64 (k:Int),c5,.pointer (some Bs),.int .i64 (p:Int),c8,c9,c10,TO,W0,St,Rr,RE,RK,SO,Se,Sf,To,Wg,aE,Wr,ZD,UP,US,ab,ao,fa,dj,dq,eS,fs,gE,ff,fi,fb,gn,iS,mx,qS,qe,nF,o4,oE,oR,qk,oS,pe,ph,pr,pt,qv,rl,rm,rn,sd,sh,ta,zd,zp,u62,u63,u64,u65,u66,u67,u68,u69,u70,u71,u72,u73,u74,u75,u76,u77,u78,u79,u80,u81,u82,u83,u84,u85,u86,a5],[]⟩ w'))
  (hQ:∀c (a:Act) (d:Tmp) (v:Value) w,Q (.panic c) (a.put (some d) v) w->Q (.panic c) a w) :
  (H9 14).wp prog Q ⟨#[c0,.pointer (some Bg),c2,v3,.int .i64 (k:Int),c5,.pointer (some Bs),.int .i64 (p:Int),c8,c9,c10,TO,W0,St,Rr,RE,RK,SO,Se,Sf,To,Wg,aE,Wr,ZD,UP,US,ab,ao,fa,dj,dq,eS,fs,gE,ff,fi,fb,gn,iS,mx,qS,qe,nF,o4,oE,oR,qk,oS,pe,ph,pr,pt,qv,rl,rm,rn,sd,sh,ta,zd,zp,am,au,av,aw,ay,az,aA,aC,aF,aH,aI,aK,aL,aM,aN,aO,aP,aQ,aS,aT,aU,aV,aW,aX,aY,a5],[]⟩ w:=by
 conv=>arg 2;whnf
 have GF:=aq hs;have sL:∀(j:Nat) (z:Value),[.int .i64 s.start,.int .i64 s.length,.int .i64 s.kind,.slice (some (b3,off3)) s.Ga.length ac,.int .i64 s.chunk,.slice sp s.stale.length sc,.string s.log,.string s.pool,.int .i64 s.device,.int .i64 s.mode,.int .i64 s.done][j]?=some z->∀q:fo,(ext w q).cell? ⟨Bs,j,none⟩=some z:=fun j z hz=>aG GF (by
  simp only[AN,hs];simpa using hz)
 obtain⟨s0,s1,s2,s3,s4,s5,s6,s7,s8,s9,aZ⟩:=IC sL;have g7:=aG hg a7;have n0:=aG hb a8;have a1:=aG hb3 a9;have a2:=aG hb3 af;replace hO:=aa hO;replace hs:=aa hs;have ag:=Of.1;have ah:=Of.2;obtain⟨i0,hi,du,On,RC⟩:=gg Ic;replace hi:=aa hi;replace du:=aa du;replace On:=aa On;replace RC:=aa RC;clear sL a7 a8 a9 af Of;(refine lG _ 23 Tc3 rfl rfl Tc3 Tc3 (fun _ _ _ _ h=>hQ _ _ _ _ _ h) Td4 ?_;simp only[xi,iv,cQ,cL])
 repeat(go_big_quiet_step ((go_at_call 92;exact iH (Im _ _ _ _ _ _ _ _ _ _ _ _ _ _ _ _ Tc1 Tc1 Tc1))))
 with_reducible refine fR ?_
 intro wq ia;have kq:=dY ia;clear ia s0 s1 s2 s3 s4 s5 s6 s7 s8 s9 aZ g7 n0 a1 a2;have ai:=hO.o.below kq;have G2:=ae wq (.cells #[name,a.on,.int .i64 a.start,.int .i64 (iB s.kind s.length s.Ga.length)] 187);have aj:=ai.below G2;have ak:=aa aj;have pL:=aa G2;have C1:=aa kq;have PF:=cA hB kq.size;clear ai aj G2 kq;go_wp2_with(at_builtin;refine dX Gt.moves underlying184 hi.o du.o On.o RC.o rfl Tc4 Tc4 rfl _ _ rfl B (fun _=>False) v3 l (aJ name s a) rfl ak.o wq.1.size 1 [.string name,.string a.on,.int .i64 a.start,.int .i64 (iB s.kind s.length s.Ga.length)] rfl rfl rfl ?d3 ?d4 ?d5 ?d6 (fun _ _ f=>f) ?_)
 all_goals first|(case d3=>(simp[GS]))|(case d4=>(intro j y hy;exact aD rfl Tdl))|(case d5=>omega)|(case d6=>omega)|(case d6=>simp only[cW];omega)|skip
 intro gb cap w3 hp;have CT:∀j,j<w.1.size->v3.ownBlock≠some j->w3.1[j]?=w.1[j]?:=fun j hj hne=>(hp.grown.block j (cC hj (cA C1.o.size pL.o.size)) (fun e=>hne e.symm)).trans ((pL.o.block j (cC hj C1.o.size)).trans (C1.o.block j hj));have jn:Below B w w3:=((C1.o.mono hB).trans (pL.o.mono PF)).grown hp.grown Teg (fun j e=>(ak.o.ge e).1);have hS:=CT Bs GF (hO.o.notSeg hs.o);have Qt:=hp.own;have HOW:=aa Qt;have PG:=aa jn;replace hS:=aa hS;clear hp Qt jn CT;go_wp2;exact HK.o _ _ _ _ _ _ _ _ _ _ _ _ _ _ _ _ _ _ _ _ _ _ _ _ _ _ _ HOW.o PG.o hS.o
def Tey{p:Prop}(h:p:=by show w.1.size<w.1.size+1;omega):p:=h
def Ta0{p:Prop}(h:p:=by
 clear zE;go_wp2;clear k2 k3;generalize ao5:wr.1.size=Bs at *;clear ao5;go_loopw[3,7] (fun vo m wr3=>∃p:Nat,p<=s.Ga.length/\m=.int .i64 (p:Int)/\AC (w.1.size+1) wr3 vo ((pieces (F9.take k)++(v.Gf.take q).flatMap (aK v.name))++(s.Ga.take p).map (aJ v.name s))/\Below (w.1.size+1) W wr3/\wr3.1[Bs]?=some (.cells (Tae s ap ac sp sc) 114 (0,0))) (fun _ m _=>s.Ga.length-(intOf m).toNat)
 exact⟨0,cg _,rfl,by simpa using HO2.o,cm.o,lj.o⟩;obtain⟨p,hp,rfl,ho3,hB3,ml⟩:=hrel;have hW3:=hB3.size;have g7:wr.cell? (Tac w.1.size 7)=some (.slice (some (b,off)) F9.length vc):=(hB3.cell (p:=⟨w.1.size,7,none⟩) Tey).trans HG7.o;have Ol:=aq ml;have z3:=cr ml 3 _ rfl;by_cases hlt3:p<s.Ga.length
 ·obtain⟨a,ha⟩:=aj s.Ga p hlt3;have B4:=HTS.o E4.o a (ct ha);obtain⟨b3,off3,u3,rfl,B7,PV,pT,hva,mB⟩:=ya.o.elem ha;obtain rfl:u3=[.bool a.vol,.string a.on,.int .i64 a.start]:=hva;rw[B4]at mB;have cT:wr.1[b3]?=w.1[b3]?:=(hB3.block b3 Tc1).trans (HW.o.block b3 PV);have q0:=(cd (w:=w) (a:=⟨b3,off3+p*3,none⟩) cT).trans (mB 0 _ rfl);have q1:=(cd (w:=w) (a:=⟨b3,off3+p*3+1,none⟩) cT).trans (mB 1 _ rfl);have q2:=(cd (w:=w) (a:=⟨b3,off3+p*3+2,none⟩) cT).trans (mB 2 _ rfl);have hbn:wr.1[b]?=w.1[b]?:=(hB3.block b Tc1).trans (HW.o.block b cX);have n0:=(cd (w:=w) (a:=⟨b,off+k*6,none⟩) hbn).trans (Uz.o 0 _ rfl);have HA:=aa ha;clear ha;have HO3:=aa ho3;clear ho3;have cJ:=aa hB3;clear hB3;have HS3:=aa ml;clear ml;have HLL:Hid (((pieces (F9.take k)++(v.Gf.take q).flatMap (aK v.name))++(s.Ga.take p).map (aJ v.name s)).length<=100000):=aa (by
   obtain⟨rest,od⟩:=oz Sq.o B6.o HA.o E4.o;have e:=fj List.length od;have aq5:=HPN.o;rw[e]at aq5;simp only[cD,pieces]at aq5 ⊢;omega)
  clear mB cT pT B4 hbn;go_upto_region 14 with(fail);clear q0;refine Db _ _ _ _ _ _ _ _ _ _ _ _ _ _ _ _ _ _ _ _ _ _ _ _ _ _ _ _ _ _ _ _ _ _ _ _ _ _ _ _ _ _ _ _ _ _ _ _ _ _ _ _ _ _ _ _ _ _ _ _ _ _ _ _ _ _ _ _ _ _ _ _ _ _ _ _ _ _ _ _ _ _ _ _ wr (w.1.size+1) w.1.size Bs b b3 off off3 k F9.length p ac sc vc sp s a v.name _ _ Tc1 hlt hlt3 Oj.o HLL.o WG.o Tc1 g7 Tc1 n0 HS3.o Tc1 q1 q2 HO3.o (aa ?_) ?hQ
  case hQ=>exact fun _ _ _ _ _ h=>h
  clear g7 n0 q1 q2 z3;intro v' w' u62 u63 u64 u65 u66 u67 u68 u69 u70 u71 u72 u73 u74 u75 u76 u77 u78 u79 u80 u81 u82 u83 u84 u85 u86 ho' hb' hs';have HO':=aa ho';clear ho';have Ks:=aa hb';clear hb';have HS':=aa (hs'.trans HS3.o);clear hs';go_wp2;go_roundw;exact⟨p+1,Tc1,Tc5,by rw[take_snoc' _ _ _ HA.o,gl,<- cV];exact HO'.o,cJ.o.trans Ks.o,HS'.o⟩;simp[intOf];omega
 obtain rfl:p=s.Ga.length:=by omega
 rw[cI]at ho3;have HO3:=aa ho3;clear ho3;have cJ:=aa hB3;clear hB3;clear g7;go_wp2;go_roundw;exact⟨q+1,Tc1,Tc5,by rw[gq B6.o,show aK v.name s=s.Ga.map (aJ v.name s) from aw E4.o,<- cV];exact HO3.o,cJ.o⟩;simp[intOf];omega):p:=h
def Hg{ok:Nat->Prop}(a7:ByteArray)(id seq ext nx:Int)(tp dp vp hp:Option Addr)(tl tc dl dc vc hl hc:Nat)(F9:List ay)(w:World)(hv:ck aN 6 ok w [.slice vp F9.length vc] F9)(mb:F9.length<=1000)(ht:qx F9)(a9:(pieces F9).length<=100000) :
  Calls prog 130 #[.agg (Tao a7 id seq ext nx tl tp tc dl dp dc F9.length vp vc hl hp hc)] w fun e w'=>∃v,e=.returned v/\AC w.1.size w' v (pieces F9)/\Below w.1.size w w':=by
 have ab:=ae w (.cells (Tao a7 id seq ext nx tl tp tc dl dp dc F9.length vp vc hl hp hc) 31);have a8:=b9 w (.cells (Tao a7 id seq ext nx tl tp tc dl dp dc F9.length vp vc hl hp hc) 31);have On:(w.alloc (.cells (Tao a7 id seq ext nx tl tp tc dl dp dc F9.length vp vc hl hp hc) 31)).1.size=w.1.size+1:=by simp
 replace hv:=aa hv;replace ht:=aa ht;have HPN:=aa a9;clear a9;replace a8:=aa a8;have HW:=aa ab;clear ab;replace On:=aa On;go_enter func130,ntmps130;go_wp2;generalize WE:w.alloc (.cells (Tao a7 id seq ext nx tl tp tc dl dp dc F9.length vp vc hl hp hc) 31)=W at *;clear WE;have hz:=On.o
 go_loopw[3,4] (fun vo vi wr=>∃k:Nat,k<=F9.length/\vi=.int .i64 (k:Int)/\AC (w.1.size+1) wr vo (pieces (F9.take k))/\Below (w.1.size+1) W wr) (fun _ vi _=>F9.length-(intOf vi).toNat)
 exact⟨0,cg _,rfl,AC.nil _ _,bj _ _⟩;obtain⟨k,hk,rfl,ho,hB⟩:=hrel;have g7:wr.cell? (Tac w.1.size 7)=some (.slice vp F9.length vc):=(hB.cell (p:=⟨w.1.size,7,none⟩) Tey).trans (by simp[AN,a8.o]);by_cases hlt:k<F9.length
 ·obtain⟨v,hD⟩:=aj F9 k hlt;obtain⟨b,off,u1,rfl,gR,cX,ez,sA,ON⟩:=hv.o.elem hD;obtain⟨tv,sv,rfl,ew,fL⟩:=sA;obtain⟨gp,gc,rfl,_,_⟩:=fL.cap;have HG7:Hid (W.cell? (Tac w.1.size 7)=some (.slice (some (b,off)) F9.length vc)):=aa (by simp[AN,a8.o]);have Sq:=aa hD;clear hD;replace fL:=aa fL;have Uz:=aa ON;clear ON;replace ho:=aa ho;replace hB:=aa hB;have Vc:=aa (ht.o v (ct Sq.o));clear ew ez;go_wp2;clear g7;go_loopw[3,5] (fun vo vi af=>∃q:Nat,q<=v.Gf.length/\vi=.int .i64 (q:Int)/\AC (w.1.size+1) af vo (pieces (F9.take k)++(v.Gf.take q).flatMap (aK v.name))/\Below (w.1.size+1) W af) (fun _ vi _=>v.Gf.length-(intOf vi).toNat)
  exact⟨0,cg _,rfl,by simpa using ho.o,hB.o⟩;obtain⟨q,hq,rfl,ho,hB⟩:=hrel;have ai:=hB.size;have g7:wr.cell? (Tac w.1.size 7)=some (.slice (some (b,off)) F9.length vc):=(hB.cell (p:=⟨w.1.size,7,none⟩) Tey).trans HG7.o;have hbn:wr.1[b]?=w.1[b]?:=(hB.block b Tc1).trans (HW.o.block b cX);have v5:=(cd (w:=w) (a:=⟨b,off+k*6+5,none⟩) hbn).trans (Uz.o 5 _ rfl);clear hbn;by_cases hlt2:q<v.Gf.length
  ·obtain⟨s,yq⟩:=aj v.Gf q hlt2;obtain⟨b2,off2,u2,rfl,I0,C2,B5,eE,a5⟩:=fL.o.elem yq;obtain⟨av,Oz,rfl,mC,hst⟩:=eE;obtain⟨ap,ac,rfl,_,_⟩:=mC.cap;obtain⟨sp,sc,rfl,_,_⟩:=hst.cap;have cT:wr.1[b2]?=w.1[b2]?:=(hB.block b2 Tc1).trans (HW.o.block b2 C2);have z0:=(cd (w:=w) (a:=⟨b2,off2+q*11,none⟩) cT).trans (a5 0 _ rfl);have z1:=(cd (w:=w) (a:=⟨b2,off2+q*11+1,none⟩) cT).trans (a5 1 _ rfl);have z2:=(cd (w:=w) (a:=⟨b2,off2+q*11+2,none⟩) cT).trans (a5 2 _ rfl);have z3:=(cd (w:=w) (a:=⟨b2,off2+q*11+3,none⟩) cT).trans (a5 3 _ rfl);have z4:=(cd (w:=w) (a:=⟨b2,off2+q*11+4,none⟩) cT).trans (a5 4 _ rfl);have z5:=(cd (w:=w) (a:=⟨b2,off2+q*11+5,none⟩) cT).trans (a5 5 _ rfl);have z6:=(cd (w:=w) (a:=⟨b2,off2+q*11+6,none⟩) cT).trans (a5 6 _ rfl);have z7:=(cd (w:=w) (a:=⟨b2,off2+q*11+7,none⟩) cT).trans (a5 7 _ rfl);have z8:=(cd (w:=w) (a:=⟨b2,off2+q*11+8,none⟩) cT).trans (a5 8 _ rfl);have z9:=(cd (w:=w) (a:=⟨b2,off2+q*11+9,none⟩) cT).trans (a5 9 _ rfl);have z10:=(cd (w:=w) (a:=⟨b2,off2+q*11+10,none⟩) cT).trans (a5 10 _ rfl);have B6:=aa yq;clear yq;have Ut:=Vc.o.2 s (ct B6.o);have WG:=aa Ut.1;have Oj:=aa Ut.2.1;have HTS:=aa Ut.2.2;have ya:=aa mC;clear mC;have hb2:=ae wr (.cells (Tae s ap ac sp sc) 114);have lj:=aa (b9 wr (.cells (Tae s ap ac sp sc) 114));have HO2:=aa (ho.below hb2);have cm:=aa (hB.trans (hb2.mono Tc1));have k2:(wr.alloc (.cells (Tae s ap ac sp sc) 114)).cell? (Tac wr.1.size 2)=some (.int .i64 s.kind):=aD rfl rfl;have k3:(wr.alloc (.cells (Tae s ap ac sp sc) 114)).cell? (Tac wr.1.size 3)=some (.slice ap s.Ga.length ac):=aD rfl rfl;clear ho hB hb2 hst a5 cT B5 Ut;by_cases G0:fP s
   ·have OU:s.kind=1\/s.kind=2\/s.kind=8:=G0;have E4:=aa G0;clear G0;rcases OU with zE|zE|zE
    ·have Lk:(s.kind != 1)=false:=by simp[zE]
     exact Ta0
    ·have Lk:(s.kind != 1)=true:=by simp[zE]
     have QV:(s.kind != 2)=false:=by simp[zE]
     exact Ta0
    have Lk:(s.kind != 1)=true:=by simp[zE]
    have QV:(s.kind != 2)=true:=by simp[zE]
    have Ve:(s.kind != 8)=false:=by simp[zE]
    exact Ta0
   have n1:¬s.kind=1:=fun e=>G0 (.inl e)
   have n2:¬s.kind=2:=fun e=>G0 (.inr (.inl e));have n8:¬s.kind=8:=fun e=>G0 (.inr (.inr e));have Lk:(s.kind != 1)=true:=by simpa using n1
   have QV:(s.kind != 2)=true:=by simpa using n2
   have Ve:(s.kind != 8)=true:=by simpa using n8
   have E4:=aa G0;clear G0 n1 n2 n8;go_wp2;go_roundw;exact⟨q+1,Tc1,Tc5,by rw[gq B6.o,show aK v.name s=[] from bh E4.o,eM];exact HO2.o,cm.o⟩;simp[intOf];omega
  obtain rfl:q=v.Gf.length:=by omega
  rw[cI]at ho;have HO2:=aa ho;clear ho;have cm:=aa hB;clear hB;go_wp2;go_roundw;exact⟨k+1,Tc1,Tc5,by rw[take_snoc' _ _ _ Sq.o];simp only[pieces,xt,lB,List.flatMap_nil,eM];exact HO2.o,cm.o⟩;simp[intOf];omega
 obtain rfl:k=F9.length:=by omega
 rw[cI]at ho;have HO2:=aa ho;clear ho;have cm:=aa hB;clear hB;go_wp2;go_ret;refine⟨_,rfl,?_,HW.o.trans (cm.o.mono Tc1)⟩;obtain⟨cs,ag,hf⟩:=HO2.o;exact⟨cs,⟨ag.1,by
  rcases ag.2 with q|⟨g,cap,ah,e,h1,h2⟩
  ·exact .inl q
  exact .inr ⟨g,cap,ah,e,Tc1,h2⟩⟩,hf⟩
open Go.Maps Go.Shelf
variable {v:Value}{s:aB}{k b Bg Br Bj Bd nc tc B B':Nat}{r:aY}{a:Act}{g:af}{ops:Array Oper}{w w':World}{Q:Exit->Act->World->Prop}{l:List aR}{n:Int}{rest:List Oper}{nm:ByteArray}{x:List (Int × Int)}{p:Int × Int}{ends:List (ByteArray × Int)}{α:Type}{d:az}{np jp tp:Option Addr}{nl jl:List ByteArray}{ok':Nat->Prop}{cs:Array Value}{z:Nat × Nat}{xs:List (List (Int × Int))}
def TbG{p:Prop}(h:p:=by
 clear h6
 cases Fi:s.log.toList.isEmpty with
 |true =>
  go_wp2;go_ret;exact⟨rfl,fy.o⟩
 |false =>
  have dl:=HLL.o Fi;go_wp2;go_ret;exact⟨rfl,fy.o⟩):p:=h
def JM{ok:Nat->Prop}(g:af)(a:bN)(s:aB)(u:List Value)(w:World)(hv:bC ok w u s)(hg:dN ok w g a)(hz:JT g)(aE:s.Ga.length<=1000000)(he:jw g s=true) :
  Calls prog 78 #[.agg (Tad g a),.agg u.toArray] w fun e w'=>e=.returned (.bool true)/\Below w.1.size w w':=by
 have aF:=aa fun(r:aR) (hr:r∈s.Ga)=>JU he hr;have PH:=aa fun h=>Km he h;have aG:=aa fun h=>II he h;clear he;obtain⟨av,Oz,rfl,mC,TG⟩:=hv;obtain⟨ap,ac,rfl,_,_⟩:=mC.cap;obtain⟨eN,eR,rfl,_,_⟩:=TG.cap;replace mC:=aa mC;clear TG;have hA1:=ae w (.cells (Tad g a) 31);have hA2:=ae (w.alloc (.cells (Tad g a) 31)) (.cells (Tae s ap ac eN eR) 114);have RW:=b9 w (.cells (Tad g a) 31);have fl:=aa (b9 (w.alloc (.cells (Tad g a) 31)) (.cells (Tae s ap ac eN eR) 114));have rB:=aa ((hA2.block _ (aq RW)).trans RW);have HB:=aa (hA1.trans (hA2.mono hA1.size));have ux:=aa (hg.mv (Mv.of HB.o));have mb:=hz.vl;have CD:=hz.dl;clear hA1 hA2 RW hg;rw[cW]at fl;go_enter func78,ntmps78
 go_upto_region 1 with(fail);generalize AI (AI w _) _=W1 at *;generalize aH:w.1.size+1=Bs at fl ⊢;generalize aI:w.1.size=Bg at rB ⊢;clear aH aI;go_wp2;go_loopw[5] (fun i wr=>∃k:Nat,k<=s.Ga.length/\i=.int .i64 k/\Below W1.1.size W1 wr) (fun i _=>s.Ga.length-(intOf i).toNat)
 exact⟨0,cg _,rfl,bj _ _⟩;obtain⟨k,hk,rfl,hB⟩:=hrel;have P7:=aa hB;have aJ:=fl;have ua:=rB;have aK:=ux;replace fl:=Zbk hB fl;replace rB:=Zbk hB rB;replace ux:=aa (ux.o.mv (Mv.of hB));have fy:=Zbl HB hB;clear hB aJ ua aK;have s3:=mi fl.o 3 _ rfl;by_cases hlt:k<s.Ga.length
 ·obtain⟨r,hr⟩:=aj s.Ga k hlt;have a9:=ct hr;obtain⟨b,off,us,rfl,_,cX,_,eE,ON⟩:=mC.o.elem hr;obtain rfl:us=_:=eE;have cT:=fy.o.block b cX;have hbl:=cC cX fy.o.size;obtain⟨q0,q1,q2⟩:=Mn cT ON;clear ON hr cT;obtain⟨ab,ag⟩:=aF.o r a9;go_upto_region 4 with(fail);refine Jn (ok:=ok) _ wr g a Bg Bs b off k s.Ga.length ac r.on rB.o (aq fl.o) s3 hlt hbl q1 ux.o mb _ _ rfl rfl (aa ?_) (fun _ _ _ _ _ h=>h);intro tp tc sp sc aL aX X4 _ _ _ _ _ _ _ _ _ _ _ ah a7 aO aP aQ;have eI:=aa a7;have h0:=aq fl.o;replace fl:=Zbk a7 fl;replace rB:=Zbk a7 rB;replace ux:=aa (ux.o.mv (Mv.of a7));replace s3:=(a7.cell (p:=⟨Bs,3,none⟩) h0).trans s3;replace q0:=(a7.cell (p:=⟨b,off+k*3,none⟩) hbl).trans q0;replace q1:=(a7.cell (p:=⟨b,off+k*3+1,none⟩) hbl).trans q1;replace hbl:=cC hbl a7.size;clear q2 a7 aO aP aQ h0;go_upto_region 5 with(fail);refine Jr (ok:=ok) _ X4 g a Bg Bs b off k s.Ga.length ac r.on rB.o (aq fl.o) s3 hlt hbl q1 ux.o CD _ _ rfl rfl (aa ?_) (fun _ _ _ _ _ h=>h);intro aY aZ aS b8 X5 _ _ _ _ _ _ _ _ _ _ _ ai a8 aT aU aV;have eK:=aa (P7.o.trans ((eI.o.trans (a8.mono eI.o.size)).mono P7.o.size));have h0:=aq fl.o;replace s3:=(a8.cell (p:=⟨Bs,3,none⟩) h0).trans s3;replace q0:=(a8.cell (p:=⟨b,off+k*3,none⟩) hbl).trans q0;clear q1 hbl a8 aT aU aV h0 fl rB ux eI P7 fy;cases pS:r.vol with
  |true =>
   rw[pS]at q0;have hd:decide (aL<0)=false:=by rw[ah,ab pS];rfl
   clear ah ai ab ag pS a9;go_wp2;go_roundw;exact⟨k+1,Tc1,Tc5,eK.o⟩;simp[intOf];omega
  |false =>
   rw[pS]at q0;have hd:decide (aS<0)=false:=by rw[ai,ag pS];rfl
   clear ah ai ab ag pS a9;go_wp2;go_roundw;exact⟨k+1,Tc1,Tc5,eK.o⟩;simp[intOf];omega
 clear hk P7;go_upto_region 8 with(fail);clear s3;have gL:=mi rB.o;obtain⟨g0,g1,g2,g3,g4,g5,g6,g7,g8⟩:=xr gL;have sL:=mi fl.o;have sn:=sL 6 _ rfl;clear gL sL;go_wp2_with fail;clear g0 g1 g2 g3 g4 g5 g6 g7 g8 sn;refine(aj7 g a s.log wr ux.o.F9 mb).mono ?_;rintro e wL ⟨uL,kl,rfl,hv,ak,hb⟩;have XR:=aa hv;obtain⟨tv,sv,rfl,ew,fL⟩:=hv;obtain⟨ao,au,rfl,_,_⟩:=ew.cap;obtain⟨aw,ay,rfl,_,_⟩:=fL.cap;clear ew fL;generalize ba:(aM g.F9 s.log).getD eY=xL at *;have pC:=ae wL (.cells (Tah xL ao au aw ay) 68);have Qp:=aa (b9 wL (.cells (Tah xL ao au aw ay) 68));have a5:=hb.trans (pC.mono hb.size);replace rB:=Zbk a5 rB;replace fl:=Zbk a5 fl;replace ux:=aa (ux.o.mv (Mv.of a5));replace fy:=Zbl fy a5;replace XR:=aa (aN.moves.mv (Mv.of pC) XR.o);clear hb pC a5;go_upto_region 9 with(fail);generalize AI wL _=VL at *;generalize wL.1.size=BL at Qp ⊢;have gL:=mi rB.o;obtain⟨g0,g1,g2,g3,g4,g5,g6,g7,g8⟩:=xr gL;have sL:=mi fl.o;have sn:=sL 7 _ rfl;clear gL sL;go_wp2_with fail;clear g0 g1 g2 g3 g4 g5 g6 g7 g8 sn;refine(aj7 g a s.pool VL ux.o.F9 mb).mono ?_;rintro e wP ⟨uP,kp,rfl,hv,am,hb⟩;have XR:=aa hv;obtain⟨tv,sv,rfl,ew,fL⟩:=hv;obtain⟨az,aA,rfl,_,_⟩:=ew.cap;obtain⟨aC,aD,rfl,_,_⟩:=fL.cap;clear ew fL;generalize bb:(aM g.F9 s.pool).getD eY=xP at *;have pC:=ae wP (.cells (Tah xP az aA aC aD) 68);have Qp:=aa (b9 wP (.cells (Tah xP az aA aC aD) 68));have a5:=hb.trans (pC.mono hb.size);replace rB:=Zbk a5 rB;replace fl:=Zbk a5 fl;replace ux:=aa (ux.o.mv (Mv.of a5));replace fy:=Zbl fy a5;replace XR:=aa (aN.moves.mv (Mv.of pC) XR.o);clear hb pC a5;go_upto_region 10 with(fail);generalize AI wP _=VP at *;generalize wP.1.size=BP at Qp ⊢;have sL:=mi fl.o;have s2:=sL 2 _ rfl;have s6:=sL 6 _ rfl;clear sL Qp XR;have HLL:Hid (s.log.toList.isEmpty=false->decide (0<=kl)=true):=aa fun h=>by
  rw[PH.o h]at ak;have:=of_decide_eq_false ak;exact eA Tc1
 have aW:Hid (s.kind=6->decide (0<=kp)=true):=aa fun h=>by
  rw[aG.o h]at am;have:=of_decide_eq_false am;exact eA Tc1
 clear ak am;by_cases h6:s.kind=6
 ·have e6:(s.kind != 6)=false:=by rw[h6];rfl
  have d6:=aW.o h6;exact TbG
 have e6:(s.kind != 6)=true:=bne_iff_ne.2 h6;exact TbG
def JW{ok:Nat->Prop}(g:af)(a:bN)(s:aB)(u:List Value)(w:World)(hv:bC ok w u s)(hg:dN ok w g a)(hz:JT g)(Tp:s.Ga.length<=1000000)(hl:0<=s.length/\s.length<=1000000)(vu:∀d∈g.Gb,0<=d.Gc/\d.Gc<=1000000)(he:s.Ga.all (fI g s)=true) :
  Calls prog 79 #[.agg (Tad g a),.agg u.toArray] w fun e w'=>e=.returned (.bool true)/\Below w.1.size w w':=by
 have ag:=aa fun(r:aR) (hr:r∈s.Ga) hv=>KX he hr hv
 have kj:Hid (∀nm,0<=((bH g.Gb nm).getD gT).Gc/\((bH g.Gb nm).getD gT).Gc<=1000000):=aa fun nm=>by
  cases h:bH g.Gb nm with
  |none=>exact⟨Int.le_refl _,Tc4⟩
  |some d=>exact vu d (eV h)
 clear he vu;obtain⟨av,Oz,rfl,mC,TG⟩:=hv;obtain⟨ap,ac,rfl,_,_⟩:=mC.cap;obtain⟨eN,eR,rfl,_,_⟩:=TG.cap;replace mC:=aa mC;clear TG;have hA1:=ae w (.cells (Tad g a) 31);have hA2:=ae (w.alloc (.cells (Tad g a) 31)) (.cells (Tae s ap ac eN eR) 114);have RW:=b9 w (.cells (Tad g a) 31);have fl:=aa (b9 (w.alloc (.cells (Tad g a) 31)) (.cells (Tae s ap ac eN eR) 114));have rB:=aa ((hA2.block _ (aq RW)).trans RW);have HB:=aa (hA1.trans (hA2.mono hA1.size));have ux:=aa (hg.mv (Mv.of HB.o));have mb:=hz.vl;have CD:=hz.dl;clear hA1 hA2 RW hg;rw[cW]at fl;go_enter func79,ntmps79
 go_upto_region 1 with(fail);generalize AI (AI w _) _=W1 at *;generalize ah:w.1.size+1=Bs at fl ⊢;generalize ai:w.1.size=Bg at rB ⊢;clear ah ai;go_wp2;go_loopw[5] (fun i wr=>∃k:Nat,k<=s.Ga.length/\i=.int .i64 k/\Below W1.1.size W1 wr) (fun i _=>s.Ga.length-(intOf i).toNat)
 exact⟨0,cg _,rfl,bj _ _⟩;obtain⟨k,hk,rfl,hB⟩:=hrel;have P7:=aa hB;have ak:=fl;have ua:=rB;have am:=ux;replace fl:=Zbk hB fl;replace rB:=Zbk hB rB;replace ux:=aa (ux.o.mv (Mv.of hB));have fy:=Zbl HB hB;clear hB ak ua am;have s3:=mi fl.o 3 _ rfl;by_cases hlt:k<s.Ga.length
 ·obtain⟨r,hr⟩:=aj s.Ga k hlt;have a9:=ct hr;obtain⟨b,off,us,rfl,_,cX,_,eE,ON⟩:=mC.o.elem hr;obtain rfl:us=_:=eE;have cT:=fy.o.block b cX;have hbl:=cC cX fy.o.size;obtain⟨q0,q1,q2⟩:=Mn cT ON;clear ON hr cT;cases pS:r.vol with
  |true =>
   rw[pS]at q0;have ab:Hid (∀n,Below W1.1.size W1 (wr.drewN n)):=aa fun n=>aT P7.o n;clear P7 fl rB ux fy hbl q1 q2 pS a9;go_wp2;go_roundw
   exact⟨k+1,Tc1,Tc5,by first|exact ab.o 0|exact ab.o _⟩;simp[intOf];omega
  |false =>
   rw[pS]at q0;obtain⟨ao,au,aw⟩:=ag.o r a9 pS;obtain⟨hd1,hd2⟩:=kj.o r.on;clear pS a9;go_upto_region 5 with(fail);refine Jk (ok:=ok) _ wr g a Bg Bs b off k s.Ga.length ac r.on rB.o (aq fl.o) s3 hlt hbl q1 ux.o CD _ _ rfl rfl (aa ?_) (fun _ _ _ _ _ h=>h);intro aD aE aF aH X5 _ _ _ _ _ _ _ _ _ _ _ ay a5 az a7 aA;generalize (bH g.Gb r.on).getD gT=x at *;have eK:=Zbl P7 a5;have h0:=aq fl.o;replace fl:=Zbk a5 fl;replace s3:=(a5.cell (p:=⟨Bs,3,none⟩) h0).trans s3;replace q0:=(a5.cell (p:=⟨b,off+k*3,none⟩) hbl).trans q0;replace q1:=(a5.cell (p:=⟨b,off+k*3+1,none⟩) hbl).trans q1;replace q2:=(a5.cell (p:=⟨b,off+k*3+2,none⟩) hbl).trans q2;replace a7:=aa a7;clear hbl a5 az aA h0 rB ux P7 fy ay;have hA:=ae X5 (.cells (TaB r) 53);have a8:=aa (b9 X5 (.cells (TaB r) 53));replace fl:=Zbk hA fl;replace a7:=Zbk hA a7;replace eK:=Zbl eK hA;clear hA;go_upto_region 7 with(fail);clear q0 q1 q2 s3;generalize AI X5 _=X6 at *;generalize X5.1.size=Ba at a8 ⊢;have c1:decide (r.start<0)=false:=cN Tc1;have c2:decide (x.Gc<r.start)=false:=cN Tc1;have c3:decide (x.Gc-r.start<iB s.kind s.length s.Ga.length)=false:=cN Tc1;have hw:IntKind.i64.wrap (x.Gc-r.start)=x.Gc-r.start:=dy _ Tc1;have sL:=mi fl.o;have GF:=aq fl.o;have s0:=aG GF (sL 0 _ rfl);have s1:=aG GF (sL 1 _ rfl);have s2:=aG GF (sL 2 _ rfl);have s3:=aG GF (sL 3 _ rfl);have s4:=aG GF (sL 4 _ rfl);have s5:=aG GF (sL 5 _ rfl);have s6:=aG GF (sL 6 _ rfl);have s7:=aG GF (sL 7 _ rfl);have s8:=aG GF (sL 8 _ rfl);have s9:=aG GF (sL 9 _ rfl);have aC:=aG GF (sL 10 _ rfl);have a2:=aG (aq a8.o) (mi a8.o 2 _ rfl);have x3:=aG (aq a7.o) (mi a7.o 3 _ rfl);have hl1:=hl.1;have aI:=hl.2;clear sL GF fl a7 a8 hl ao au aw hd1 hd2;(refine aU Tc3 Tc3 ?_;(repeat(go_big_quiet_step ((go_at_call 92;exact iH (Im _ _ _ _ _ _ _ _ _ _ _ _ _ _ _ _ hl1 Tc1 Tc1)))));(with_reducible refine fR ?_);intro wq ia;have kq:=dY ia;clear ia)
   have wk:=Zbl eK kq;clear kq s0 s1 s2 s3 s4 s5 s6 s7 s8 s9 aC a2 x3 c1 c2 c3 hw;go_wp2;go_roundw;exact⟨k+1,Tc1,Tc5,wk.o⟩;simp[intOf];omega
 clear hk P7;exact TcK
def Kh{ok:Nat->Prop}(g:af)(a:bN)(s:aB)(u:List Value)(w:World)(hv:bC ok w u s)(hg:dN ok w g a)(hz:JT g)(Tp:s.Ga.length<=1000000)(ak:s.kind=6->eZ ((aM g.F9 s.pool).getD eY)=5)(he:(dD s false).any (dh g)=false) :
  Calls prog 81 #[.agg (Tad g a),.agg u.toArray] w fun e w'=>e=.returned (.bool true)/\Below w.1.size w w':=by
 have aH:=aa fun(r:aR) (hr:r∈s.Ga) hv=>IK (J8 he hr hv);have PH:=aa fun h=>IK (KO he h);have aI:=aa ak
 have Zu:Hid (∀nm,((aM g.F9 nm).getD eY).Gf.length<=1000000000):=aa fun nm=>by
  have:=(Dt hz nm).Gf;omega
 clear he ak;obtain⟨av,Oz,rfl,mC,TG⟩:=hv;obtain⟨ap,ac,rfl,_,_⟩:=mC.cap;obtain⟨eN,eR,rfl,_,_⟩:=TG.cap;replace mC:=aa mC;clear TG;have hA1:=ae w (.cells (Tad g a) 31);have hA2:=ae (w.alloc (.cells (Tad g a) 31)) (.cells (Tae s ap ac eN eR) 114);have RW:=b9 w (.cells (Tad g a) 31);have fl:=aa (b9 (w.alloc (.cells (Tad g a) 31)) (.cells (Tae s ap ac eN eR) 114));have rB:=aa ((hA2.block _ (aq RW)).trans RW);have HB:=aa (hA1.trans (hA2.mono hA1.size));have ux:=aa (hg.mv (Mv.of HB.o));have mb:=hz.vl;have CD:=hz.dl;clear hA1 hA2 RW hg;rw[cW]at fl;go_enter func81,ntmps81
 go_upto_region 1 with(fail);generalize AI (AI w _) _=W1 at *;generalize aJ:w.1.size+1=Bs at fl ⊢;generalize aK:w.1.size=Bg at rB ⊢;clear aJ aK;have s2:=mi fl.o 2 _ rfl;by_cases h6:s.kind=6
 ·have e6:(s.kind==6)=true:=by rw[h6];rfl
  have hk5:=aI.o h6;have Rn:=Zu.o s.pool;have fy:=HB;clear h6;go_upto_region 2 with(fail);clear s2 e6;have gL:=mi rB.o;obtain⟨g0,g1,g2,g3,g4,g5,g6,g7,g8⟩:=xr gL;have sL:=mi fl.o;have sn:=sL 7 _ rfl;clear gL sL;go_wp2_with fail;clear g0 g1 g2 g3 g4 g5 g6 g7 g8 sn;refine(aj7 g a s.pool W1 ux.o.F9 mb).mono ?_;rintro e wP ⟨uP,kk,rfl,hv,aL,hb⟩;have XR:=aa hv;obtain⟨tv,sv,rfl,ew,fL⟩:=hv;obtain⟨am,ao,rfl,_,_⟩:=ew.cap;obtain⟨au,aw,rfl,_,_⟩:=fL.cap;clear ew fL;generalize aO:(aM g.F9 s.pool).getD eY=xP at *;have pC:=ae wP (.cells (Tah xP am ao au aw) 68);have Qp:=aa (b9 wP (.cells (Tah xP am ao au aw) 68));have a5:=hb.trans (pC.mono hb.size);replace rB:=Zbk a5 rB;replace fl:=Zbk a5 fl;replace ux:=aa (ux.o.mv (Mv.of a5));replace fy:=Zbl fy a5;replace XR:=aa (aN.moves.mv (Mv.of pC) XR.o);clear hb pC a5;go_upto_region 3 with(fail);generalize AI wP _=VP at *;generalize wP.1.size=BP at Qp ⊢;obtain⟨y0,y1,y2,y3,y4,y5⟩:=I6 Qp.o;have a8:=aa fun q:fo=>(aN.moves.mv (Mv.of (dQ VP q)) XR.o:aN _ (ext VP q) _ _);have e5:(eZ xP==5)=true:=by rw[hk5];rfl
  clear hk5 aO aL XR Qp;(refine wp_region_quiet_lit ?_;(repeat(go_big_quiet_step ((go_at_call 84;exact iH (pq _ _ _ (a8.o _) Rn)))));(with_reducible refine fR ?_);intro aZ ia;have ay:=dY ia;clear ia)
  have TF:=Zbl fy ay;clear ay y0 y1 y2 y3 y4 y5;go_wp2;go_ret;exact⟨rfl,TF.o⟩
 have e6:(s.kind==6)=false:=by simpa using h6
 clear h6;go_upto_region 4 with(fail);clear s2 e6;go_wp2;go_loopw[7] (fun i wr=>∃k:Nat,k<=s.Ga.length/\i=.int .i64 k/\Below W1.1.size W1 wr) (fun i _=>s.Ga.length-(intOf i).toNat)
 exact⟨0,cg _,rfl,bj _ _⟩;obtain⟨k,hk,rfl,hB⟩:=hrel;have P7:=aa hB;have aP:=fl;have ua:=rB;have aQ:=ux;replace fl:=Zbk hB fl;replace rB:=Zbk hB rB;replace ux:=aa (ux.o.mv (Mv.of hB));have fy:=Zbl HB hB;clear hB aP ua aQ;have s3:=mi fl.o 3 _ rfl;by_cases hlt:k<s.Ga.length
 ·obtain⟨r,hr⟩:=aj s.Ga k hlt;have ag:=ct hr;obtain⟨b,off,us,rfl,_,cX,_,eE,ON⟩:=mC.o.elem hr;obtain rfl:us=_:=eE;have cT:=fy.o.block b cX;have hbl:=cC cX fy.o.size;obtain⟨q0,q1,q2⟩:=Mn cT ON;clear ON hr cT;have ah:=hbl;have ai:=aa (aH.o r ag);have Rn:=Zu.o r.on;go_upto_region 7 with(fail);refine JX (ok:=ok) _ wr g a Bg Bs b off k s.Ga.length ac r.on rB.o (aq fl.o) s3 hlt hbl q1 ux.o mb _ _ rfl rfl (aa ?_) (fun _ _ _ _ _ h=>h);intro tp tc sp sc b8 ba X7 _ _ _ _ _ _ _ _ _ _ _ aS a7 aT az aA;generalize (aM g.F9 r.on).getD eY=x at *;have wk:=Zbl P7 a7;have h0:=aq fl.o;replace s3:=aG (cC h0 a7.size) ((a7.cell (p:=⟨Bs,3,none⟩) h0).trans s3);replace q0:=aG (cC hbl a7.size) ((a7.cell (p:=⟨b,off+k*3,none⟩) hbl).trans q0);have Qp:=aa az;have a8:=aa fun q:fo=>(aN.moves.mv (Mv.of (dQ X7 q)) aA:aN _ (ext X7 q) _ _);clear hbl ah q1 q2 a7 aT az aA h0 fl rB ux P7 fy aS;obtain⟨y0,y1,y2,y3,y4,y5⟩:=I6 Qp.o;clear Qp
  go_upto_region 8 with(fail)
  cases pS:r.vol with
  |true =>
   rw[pS]at q0;obtain⟨n6,n5⟩:=ai.o pS;clear pS ag ai;(refine wp_region_quiet_lit ?_;(repeat(go_big_quiet_step ((go_at_call 84;exact iH (pq _ _ _ (a8.o _) Rn)))));(with_reducible refine fR ?_);intro aU ia;have a9:=dY ia;clear ia)
   have Ix:=Zbl wk a9;clear a9 y0 y1 y2 y3 y4 y5 q0 s3 n6 n5;go_wp2;go_roundw;exact⟨k+1,Tc1,Tc5,Ix.o⟩;simp[intOf];omega
  |false =>
   rw[pS]at q0;clear pS ag ai;(refine wp_region_quiet_lit ?_;(repeat(go_big_quiet_step ((fail))));(with_reducible refine fR ?_);intro aU ia;have a9:=dY ia;clear ia)
   have Ix:=Zbl wk a9;clear a9 y0 y1 y2 y3 y4 y5 q0 s3;go_wp2;go_roundw;exact⟨k+1,Tc1,Tc5,Ix.o⟩;simp[intOf];omega
 clear hk P7;have Rn:=Zu.o s.log;have aV:=aa PH.o;go_upto_region 10 with(fail);clear s3;have gL:=mi rB.o;obtain⟨g0,g1,g2,g3,g4,g5,g6,g7,g8⟩:=xr gL;have sL:=mi fl.o;have sn:=sL 6 _ rfl;clear gL sL;go_wp2_with fail;clear g0 g1 g2 g3 g4 g5 g6 g7 g8 sn;refine(aj7 g a s.log wr ux.o.F9 mb).mono ?_;rintro e wL ⟨uL,kl,rfl,hv,aW,hb⟩;have XR:=aa hv;obtain⟨tv,sv,rfl,ew,fL⟩:=hv;obtain⟨aC,aD,rfl,_,_⟩:=ew.cap;obtain⟨aE,aF,rfl,_,_⟩:=fL.cap;clear ew fL;generalize aX:(aM g.F9 s.log).getD eY=xL at *;have pC:=ae wL (.cells (Tah xL aC aD aE aF) 68);have Qp:=aa (b9 wL (.cells (Tah xL aC aD aE aF) 68));have a5:=hb.trans (pC.mono hb.size);replace rB:=Zbk a5 rB;replace fl:=Zbk a5 fl;replace ux:=aa (ux.o.mv (Mv.of a5));replace fy:=Zbl fy a5;replace XR:=aa (aN.moves.mv (Mv.of pC) XR.o);clear hb pC a5;go_upto_region 11 with(fail);generalize AI wL _=VL at *;generalize wL.1.size=BL at Qp ⊢;obtain⟨y0,y1,y2,y3,y4,y5⟩:=I6 Qp.o;have s6:=aG (aq fl.o) (mi fl.o 6 _ rfl);have a8:=aa fun q:fo=>(aN.moves.mv (Mv.of (dQ VL q)) XR.o:aN _ (ext VL q) _ _);clear aX aW XR Qp fl rB ux;cases Fi:s.log.toList.isEmpty with
 |true =>
  (refine wp_region_quiet_lit ?_;(repeat(go_big_quiet_step ((fail))));(with_reducible refine fR ?_);intro aY ia;have ab:=dY ia;clear ia)
  have TF:=Zbl fy ab;clear ab y0 y1 y2 y3 y4 y5 s6;go_wp2;go_ret;exact⟨rfl,TF.o⟩
 |false =>
  obtain⟨n6,n5⟩:=aV.o Fi;have m6:(eZ xL != 6)=true:=by rw[bne,n6];rfl
  have m5:(eZ xL != 5)=true:=by rw[bne,n5];rfl
  (refine wp_region_quiet_lit ?_;(repeat(go_big_quiet_step ((go_at_call 84;exact iH (pq _ _ _ (a8.o _) Rn)))));(with_reducible refine fR ?_);intro aY ia;have ab:=dY ia;clear ia)
  have TF:=Zbl fy ab;clear ab y0 y1 y2 y3 y4 y5 s6;go_wp2;go_ret;exact⟨rfl,TF.o⟩
def GQ{vn on:ByteArray}{vd:List UInt8}(h:dM vn vd on=true):(⟨(iK vn.data.toList vd).1.toArray⟩:ByteArray)=on/\(iK vn.data.toList vd).2=0:=by
 unfold dM pV at h;rw[eh,beq_iff_eq,beq_iff_eq]at h;have e:=h.2;rw[A6,A6]at e;exact⟨ByteArray.ext (Array.toList_inj.1 e.symm),h.1⟩
def IL(nm on:ByteArray)(k:Nat)(W:World)(hs:nm.size<=1000000000)(hk:k<=1000000)(h:dM nm (bq k) on=true) :
  Calls prog 127 #[.string nm,.int .i64 (k:Int)] W fun e w'=>e=.returned (.tuple #[on,.int .i64 0])/\Below W.1.size W w':=by
 have:=Kw nm.data.toList k W Td0 Tc1;rw[<- bytes_eta,(GQ h).1,(GQ h).2]at this;exact this
def Hf(nm on:ByteArray)(k:Int)(W:World)(hs:nm.size<=1000000000)(hk:-1000000<=k/\k<=1000000)(h:dM nm (dH k) on=true) :
  Calls prog 128 #[.string nm,.int .i64 k] W fun e w'=>e=.returned (.tuple #[on,.int .i64 0])/\Below W.1.size W w':=by
 have:=I4 nm.data.toList k W Td0 hk;rw[<- bytes_eta,(GQ h).1,(GQ h).2]at this;exact this
def Jf(kind:Int)(k:Nat):List UInt8:=if kind=3\/kind=4 then bq k else if kind=5 then dH (3-(k:Int)) else if k=0 then bq 0 else dH (1+(k:Int))
def Kn{v:ay}(h:jS v s=true)(h5:s.kind=5->s.Ga.length<=2)(h7:s.kind=7->s.Ga.length<=3){r:aR}(hr:s.Ga[k]?=some r)(hk:s.kind=3\/s.kind=4\/s.kind=5\/s.kind=7):dM v.name (Jf s.kind k) r.on=true:=by
 have hl:=(AT.1 hr).1;have ho:=uD hr;unfold jS at h;unfold Jf;by_cases c:s.kind=3\/s.kind=4
 ·rw[aw c,eh]at h;rw[aw c];have:=An.1 h.1 k (EV.2 hl);rwa[ho]at this
 rw[bh c]at h ⊢;by_cases c5:s.kind=5
 ·rw[aw c5,eh]at h;rw[aw c5];have:=h5 c5;rcases(show k=0\/k=1 by omega)with rfl|rfl
  ·rw[ho]at h;exact h.1
  rw[ho]at h;exact h.2
 rw[bh c5,aw (show s.kind=7 by omega),eh,eh]at h;rw[bh c5];have:=h7 Tc1;rcases(show k=0\/k=1\/k=2 by omega)with rfl|rfl|rfl
 ·rw[ho]at h;exact h.1.1
 ·rw[ho]at h;exact h.1.2
 rw[ho]at h;exact h.2
def Kt{v:ay}(h:jS v s=true)(h3:¬s.kind=3->s.log.toList.isEmpty=true)(hl:s.log.toList.isEmpty=false):dM v.name (dH 1) s.log=true:=by
 have hk:s.kind=3:=Decidable.byContradiction fun q=>by
  rw[h3 q]at hl;cases hl
 unfold jS at h;rw[aw (.inl hk),eh,hl,nj]at h;exact h.2
def Tc0{p:Prop}(h:p:=by
 go_wp2;go_roundw;exact⟨k+1,Tc1,Tc5,eK.o⟩;simp[intOf];omega):p:=h
def TcM{p:Prop}(h:p:=by
 rintro e w5 ⟨rfl,hb5⟩;have h0:=aq fl.o;replace s3:=(hb5.cell (p:=⟨Bs,3,none⟩) h0).trans s3;replace q1:=(hb5.cell (p:=⟨b,off+k*3+1,none⟩) hbl).trans q1;have eK:=Zbl P7 hb5;clear hb5 h0 x0 s2 fl Qe P7 fy hbl;exact Tc0):p:=h
def Tbf{p:Prop}(h:p:=by
 exact TcM):p:=h
def Ta7{p:Prop}(h:p:=by
 go_wp2_with fail;refine(IL v.name r.on k wr Yy.o Tc1 Q5.o).mono ?_;exact TcM):p:=h
def Ki{ok:Nat->Prop}(v:ay)(s:aB)(u1 u2:List Value)(w:World)(sA:aN ok w u1 v)(hv:bC ok w u2 s)(Tp:s.Ga.length<=1000000)(hn:v.name.size<=1000000000)(h5:s.kind=5->s.Ga.length<=2)(h7:s.kind=7->s.Ga.length<=3)(h3:¬s.kind=3->s.log.toList.isEmpty=true)(he:jS v s=true) :
  Calls prog 80 #[.agg u1.toArray,.agg u2.toArray] w fun e w'=>e=.returned (.bool true)/\Below w.1.size w w':=by
 have a5:=aa fun(k:Nat) (r:aR) (hr:s.Ga[k]?=some r) hk=>Kn he h5 h7 hr hk;have a7:=aa fun h=>Kt he h3 h;have Yy:=aa hn;have a8:=aa h5;clear he h5 h7 h3 hn;obtain⟨tv,sv,rfl,ew,fL⟩:=sA;obtain⟨tp,tc,rfl,_,_⟩:=ew.cap;obtain⟨sp,sc,rfl,_,_⟩:=fL.cap;obtain⟨av,Oz,rfl,mC,TG⟩:=hv;obtain⟨ap,ac,rfl,_,_⟩:=mC.cap;obtain⟨eN,eR,rfl,_,_⟩:=TG.cap;replace mC:=aa mC;clear TG ew fL;have hA1:=ae w (.cells (Tah v tp tc sp sc) 68);have hA2:=ae (w.alloc (.cells (Tah v tp tc sp sc) 68)) (.cells (Tae s ap ac eN eR) 114);have RW:=b9 w (.cells (Tah v tp tc sp sc) 68);have fl:=aa (b9 (w.alloc (.cells (Tah v tp tc sp sc) 68)) (.cells (Tae s ap ac eN eR) 114));have Qe:=aa ((hA2.block _ (aq RW)).trans RW);have HB:=aa (hA1.trans (hA2.mono hA1.size));clear hA1 hA2 RW;rw[cW]at fl;go_enter func80,ntmps80
 go_upto_region 1 with(fail);generalize AI (AI w _) _=W1 at *;generalize a9:w.1.size+1=Bs at fl ⊢;generalize ab:w.1.size=Bv at Qe ⊢;clear a9 ab;go_wp2;go_loopw[5] (fun i wr=>∃k:Nat,k<=s.Ga.length/\i=.int .i64 k/\Below W1.1.size W1 wr) (fun i _=>s.Ga.length-(intOf i).toNat)
 exact⟨0,cg _,rfl,bj _ _⟩;obtain⟨k,hk,rfl,hB⟩:=hrel;have P7:=aa hB;replace fl:=Zbk hB fl;replace Qe:=Zbk hB Qe;have fy:=Zbl HB hB;clear hB;have s3:=mi fl.o 3 _ rfl;have x0:=mi Qe.o 0 _ rfl;by_cases hlt:k<s.Ga.length
 ·obtain⟨r,hr⟩:=aj s.Ga k hlt;have Q5:=aa (a5.o k r hr);obtain⟨b,off,us,rfl,_,cX,_,eE,ON⟩:=mC.o.elem hr;obtain rfl:us=_:=eE;have cT:=fy.o.block b cX;have hbl:=cC cX fy.o.size;obtain⟨q0,q1,q2⟩:=Mn cT ON;have s2:=mi fl.o 2 _ rfl;clear ON hr cT q0 q2;by_cases h3:s.kind=3
  ·replace Q5:=aa (Q5.o (.inl h3));rw[h3]at s2 Q5;clear h3;rw[show Jf 3 k=bq k from rfl]at Q5;exact Ta7
  by_cases h4:s.kind=4
  ·replace Q5:=aa (Q5.o (.inr (.inl h4)));rw[h4]at s2 Q5;clear h4 h3;rw[show Jf 4 k=bq k from rfl]at Q5;exact Ta7
  by_cases h5:s.kind=5
  ·replace Q5:=aa (Q5.o (.inr (.inr (.inl h5))));have af:=a8.o h5;rw[h5]at s2 Q5;clear h5 h4 h3;rw[show Jf 5 k=dH (3-(k:Int)) from rfl]at Q5;have hw:IntKind.i64.wrap (3-(k:Int))=3-(k:Int):=dy _ Tc1;go_wp2_with fail;refine(Hf v.name r.on (3-(k:Int)) wr Yy.o Tc1 Q5.o).mono ?_;exact Tbf
  by_cases h7:s.kind=7
  ·replace Q5:=aa (Q5.o (.inr (.inr (.inr h7))));rw[h7]at s2 Q5;clear h7 h5 h4 h3;by_cases hk0:k<1
   ·rw[show Jf 7 k=bq k by unfold Jf;rw[bh Tc4,bh Tc4,aw Tc1,show(k:Int)=0 by omega]]at Q5;have ek:((k:Int)==0)=true:=beq_iff_eq.2 Tc1;clear hk0;exact Ta7
   rw[show Jf 7 k=dH (1+(k:Int)) by unfold Jf;rw[bh Tc4,bh Tc4,bh Tc1]]at Q5;have ek:((k:Int)==0)=false:=beq_eq_false_iff_ne.2 Tc1;have hw:IntKind.i64.wrap (1+(k:Int))=1+(k:Int):=dy _ Tc1;go_wp2_with fail;refine(Hf v.name r.on (1+(k:Int)) wr Yy.o Tc1 Q5.o).mono ?_;exact Tbf
  have e3:(s.kind==3)=false:=beq_eq_false_iff_ne.2 h3;have e4:(s.kind==4)=false:=beq_eq_false_iff_ne.2 h4;have e5:(s.kind==5)=false:=beq_eq_false_iff_ne.2 h5;have e7:(s.kind==7)=false:=beq_eq_false_iff_ne.2 h7;have YF:Hid (∀n,Below W1.1.size W1 (wr.drewN n)):=aa fun n=>aT P7.o n;clear h3 h4 h5 h7 P7 fy fl Qe Q5 hbl;go_wp2;go_roundw
  exact⟨k+1,Tc1,Tc5,by first|exact YF.o 0|exact YF.o _⟩;simp[intOf];omega
 clear hk P7;have s6:=mi fl.o 6 _ rfl;cases Fi:s.log.toList.isEmpty with
 |true =>
  have HP:=aa (I4 v.name.data.toList 1 wr (by simpa using Yy.o) Tc1);rw[<- bytes_eta]at HP;go_wp2_with fail;refine HP.o.mono ?_;rintro e w5 ⟨rfl,hb5⟩;have h0:=aq fl.o;replace s6:=(hb5.cell (p:=⟨Bs,6,none⟩) h0).trans s6;have TF:=Zbl fy hb5;clear hb5 h0 HP x0 s3 fl Qe fy;go_wp2;go_ret;exact⟨rfl,TF.o⟩
 |false =>
  have HP:=aa (Hf v.name s.log 1 wr Yy.o Tc1 (a7.o Fi));go_wp2_with fail;refine HP.o.mono ?_;rintro e w5 ⟨rfl,hb5⟩;have h0:=aq fl.o;replace s6:=(hb5.cell (p:=⟨Bs,6,none⟩) h0).trans s6;have TF:=Zbl fy hb5;clear hb5 h0 HP x0 s3 fl Qe fy;go_wp2;go_ret;exact⟨rfl,TF.o⟩
def Ia{a b:Int}(h0:0<=a)(h1:a<=10000000)(h2:1<=b)(h3:b<=1024):0<=a*b/\a*b<=10240000000:=by
 have:=tW h1 h3 Tc1 (show(0:Int)<=10000000 by omega);exact⟨oA h0 Tc1,Tc1⟩
def JP(h:CX g s=true) :
  (s.kind=3->(∀a∈s.Ga,dO g a.on=s.length)/\(s.log.toList.isEmpty=false->1+(BZ g s+63)/64<=dO g s.log*g.Gd)) /\
  (s.kind=4->(∀a∈s.Ga,dO g a.on=dO g (aOn s 0))/\s.length/((s.Ga.length:Int)-1)*g.Gd+16<=dO g (aOn s 0)*g.Gd) /\
  (s.kind=5->dO g (aOn s 1)=s.length)/\(s.kind=7->dO g (aOn s 0)=s.length):=by
 unfold CX at h;refine⟨fun k=>?_,fun k=>?_,fun k=>?_,fun k=>?_⟩
 ·rw[aw k,eh]at h;refine⟨fun a ha=>by simpa using An.1 h.1 a ha,fun hl=>?_⟩;have:=h.2;unfold Fe at this;rw[hl,nj,fk]at this;rwa[show BZ g s+64-1=BZ g s+63 by omega]at this
 ·rw[bh Tc1,aw k,eh]at h;refine⟨fun a ha=>by simpa using An.1 h.1 a ha,?_⟩;have:=h.2;unfold ER at this;simpa using this
 ·rw[bh Tc1,bh Tc1,aw k]at h;simpa using h
 rw[bh Tc1,bh Tc1,bh Tc1,aw k]at h;simpa using h
def Ta6{p:Prop}(h:p:=by
 clear s2;obtain⟨g0,g1,g2,g3,g4,g5,g6,g7,g8⟩:=Hr rB.o;have HGQ:=aa fun q:fo=>(ck.moves aN.moves).mv (Mv.of (dQ W1 q)) ux.o.F9;have sL:=mi fl.o;have GF:=aq fl.o;have e1:=aG GF (sL 1 _ rfl);have e3:=aG GF (sL 3 _ rfl);clear sL GF
 (refine aU Tc3 Tc3 ?_;(repeat(go_big_quiet_step ((go_at_call 129;exact iH (Ar g a _ _ (HGQ.o _) hz)))));(with_reducible refine fR ?_);intro wqc ia;have av7:=dY ia;clear ia)
 have TF:=Zbl HB av7;clear av7 g0 g1 g2 g3 g4 g5 g6 g7 g8 e1 e3 q1 hq;go_wp2;go_ret;exact⟨rfl,TF.o⟩):p:=h
def Kk{ok:Nat->Prop}(g:af)(a:bN)(s:aB)(u:List Value)(w:World)(hv:bC ok w u s)(hg:dN ok w g a)(hz:JT g)(am:Cu g)(hx:1<=g.Gd/\g.Gd<=1024)(hf:Ah s)(he:CX g s=true) :
  Calls prog 82 #[.agg (Tad g a),.agg u.toArray] w fun e w'=>e=.returned (.bool true)/\Below w.1.size w w':=by
 obtain⟨ao,au,hp5,aw⟩:=JP he;have Uh:=aa ao;have aH:=aa au;have YB:=aa hp5;have aI:=aa aw;have hl0:=hf.fm.l0;have hl1:=hf.fm.l1;have aY:=hf.fm.ar;have aJ:=aa hf.fm.p5;have aK:=aa hf.fm.p7;have aL:=aa hf.c3;have aM:=aa hf.a4;have Qc:=aa am;obtain⟨ah,hx2⟩:=hx;clear he ao au hp5 aw hf am;obtain⟨av,Oz,rfl,mC,TG⟩:=hv;obtain⟨ap,ac,rfl,_,_⟩:=mC.cap;obtain⟨eN,eR,rfl,_,_⟩:=TG.cap;replace mC:=aa mC;clear TG;have hA1:=ae w (.cells (Tad g a) 31);have hA2:=ae (w.alloc (.cells (Tad g a) 31)) (.cells (Tae s ap ac eN eR) 114);have RW:=b9 w (.cells (Tad g a) 31);have fl:=aa (b9 (w.alloc (.cells (Tad g a) 31)) (.cells (Tae s ap ac eN eR) 114));have rB:=aa ((hA2.block _ (aq RW)).trans RW);have HB:=aa (hA1.trans (hA2.mono hA1.size));have ux:=aa (hg.mv (Mv.of HB.o));clear hA1 hA2 RW hg;rw[cW]at fl;go_enter func82,ntmps82
 go_upto_region 1 with(fail);generalize AI (AI w _) _=W1 at *;generalize aO:w.1.size+1=Bs at fl ⊢;generalize aP:w.1.size=Bg at rB ⊢;clear aO aP;have s2:=mi fl.o 2 _ rfl;by_cases h3:s.kind=3
 ·obtain⟨ay,OX⟩:=Uh.o h3;have Qb:=aa ay;have aQ:=aa OX;have hc:=aL.o h3;have aZ:=hc.1;have zc:=hc.2;rw[h3]at s2;clear h3 ay OX hc;go_upto_region 3 with(fail);clear s2;go_wp2;go_loopw[5] (fun i wr=>∃k:Nat,k<=s.Ga.length/\i=.int .i64 k/\Below W1.1.size W1 wr) (fun i _=>s.Ga.length-(intOf i).toNat)
  exact⟨0,cg _,rfl,bj _ _⟩;obtain⟨k,hk,rfl,hB⟩:=hrel;have P7:=aa hB;have ai:=fl;have ua:=rB;have ak:=ux;replace fl:=Zbk hB fl;replace rB:=Zbk hB rB;replace ux:=aa (ux.o.mv (Mv.of hB));have fy:=Zbl HB hB;clear hB ai ua ak;have s3:=mi fl.o 3 _ rfl;by_cases hlt:k<s.Ga.length
  ·obtain⟨r,hr⟩:=aj s.Ga k hlt;have a9:=ct hr;obtain⟨b,off,us,rfl,_,cX,_,eE,ON⟩:=mC.o.elem hr;obtain rfl:us=_:=eE;have cT:=fy.o.block b cX;have hbl:=cC cX fy.o.size;obtain⟨q0,q1,q2⟩:=Mn cT ON;clear ON hr cT;have hq:(dO g r.on != s.length)=false:=by rw[Qb.o r a9];simp
   go_upto_region 6 with(fail);clear s3;obtain⟨g0,g1,g2,g3,g4,g5,g6,g7,g8⟩:=Hr rB.o;have HGQ:=aa fun q:fo=>(ck.moves aN.moves).mv (Mv.of (dQ wr q)) ux.o.F9;have sL:=mi fl.o;have GF:=aq fl.o;have e1:=aG GF (sL 1 _ rfl);have e3:=aG GF (sL 3 _ rfl);replace q1:=aG hbl q1;clear sL GF a9 q0 q2
   (refine aU Tc3 Tc3 ?_;(repeat(go_big_quiet_step ((go_at_call 129;exact iH (Ar g a _ _ (HGQ.o _) hz)))));(with_reducible refine fR ?_);intro az ia;have a5:=dY ia;clear ia)
   have YF:=Zbl P7 a5;clear a5 g0 g1 g2 g3 g4 g5 g6 g7 g8 e1 e3 q1 hq P7 rB fl ux fy hbl;go_wp2;go_roundw;exact⟨k+1,Tc1,Tc5,YF.o⟩;simp[intOf];omega
  clear hk P7;have m0:=Ia (a:=s.length) (b:=g.Gd) Tc1 Tc1 ah hx2;have w1:IntKind.i64.wrap (s.length*g.Gd)=s.length*g.Gd:=dy _ Tc1;have w2:IntKind.i64.wrap (s.length*g.Gd+s.chunk)=s.length*g.Gd+s.chunk:=dy _ Tc1;have w3:IntKind.i64.wrap (s.length*g.Gd+s.chunk-1)=s.length*g.Gd+s.chunk-1:=dy _ Tc1;have r0:0<=BZ g s:=lz Tc1 Tc1;have r1:BZ g s<=s.length*g.Gd+s.chunk-1:=mS _ Tc1;have w4:(s.length*g.Gd+s.chunk-1).tdiv s.chunk=BZ g s:=CC Tc1;have w5:IntKind.i64.wrap (BZ g s)=BZ g s:=dy _ Tc1;have w6:(s.chunk==0)=false:=beq_eq_false_iff_ne.2 Tc1;have s1:=mi fl.o 1 _ rfl;have s4:=mi fl.o 4 _ rfl;have g3:=mi rB.o 3 _ rfl;go_upto_region 9 with(fail);clear s1 s3 s4 g3 w1 w2 w3 w4 w5 w6;have r2:BZ g s<=10240001024:=by omega
  clear m0 r1;generalize hR:BZ g s=R at *;cases Fi:s.log.toList.isEmpty with
  |true =>
   have e6:=aG (aq fl.o) (mi fl.o 6 _ rfl);(refine aU Tc3 Tc3 ?_;(repeat(go_big_quiet_step ((fail))));(with_reducible refine fR ?_);intro aA ia;have a7:=dY ia;clear ia)
   have TF:=Zbl fy a7;clear a7 e6;go_wp2;go_ret;exact⟨rfl,TF.o⟩
  |false =>
   have OX:=aQ.o Fi;have hll:=Qc.o s.log;have m1:=Ia (a:=dO g s.log) (b:=g.Gd) Tc1 Tc1 ah hx2;have w1:IntKind.i64.wrap (dO g s.log*g.Gd)=dO g s.log*g.Gd:=dy _ Tc1;have w2:IntKind.i64.wrap (R+63)=R+63:=dy _ Tc1;have d0:0<=(R+63)/64:=lz Tc1 Tc1;have d1:(R+63)/64<=R+63:=mS _ Tc1;have w3:(R+63).tdiv 64=(R+63)/64:=CC Tc1;have w4:IntKind.i64.wrap ((R+63)/64)=(R+63)/64:=dy _ Tc1;have w5:IntKind.i64.wrap (1+(R+63)/64)=1+(R+63)/64:=dy _ Tc1;have w6:decide (1+(R+63)/64<=dO g s.log*g.Gd)=true:=eA OX;obtain⟨g0,g1,g2,g3,g4,g5,g6,g7,g8⟩:=Hr rB.o;have HGQ:=aa fun q:fo=>(ck.moves aN.moves).mv (Mv.of (dQ wr q)) ux.o.F9;have sL:=mi fl.o;have GF:=aq fl.o;have e6:=aG GF (sL 6 _ rfl);clear sL GF OX hll m1 d0 d1
   (refine aU Tc3 Tc3 ?_;(repeat(go_big_quiet_step ((go_at_call 129;exact iH (Ar g a _ _ (HGQ.o _) hz)))));(with_reducible refine fR ?_);intro aA ia;have a7:=dY ia;clear ia)
   have TF:=Zbl fy a7;clear a7 g0 g1 g2 g3 g4 g5 g6 g7 g8 e6 w1 w2 w3 w4 w5 w6;go_wp2;go_ret;exact⟨rfl,TF.o⟩
 by_cases h4:s.kind=4
 ·obtain⟨aC,hpb⟩:=aH.o h4;have Qb:=aa aC;have b8:=aM.o h4;rw[h4]at s2;clear h4 h3 aC;obtain⟨r0,hr0⟩:=aj s.Ga 0 Tc1;have aD:aOn s 0=r0.on:=by unfold aOn;rw[hr0];rfl
  rw[aD]at Qb hpb;obtain⟨b0,aR,aS,a8,_,ba,_,aT,ag⟩:=mC.o.elem hr0;obtain rfl:aS=_:=aT;have aV:=aa (ag 1 _ rfl);replace a8:=aa a8;clear ag hr0 aD;go_upto_region 11 with(fail);clear s2;go_wp2;go_loopw[7] (fun i wr=>∃k:Nat,k<=s.Ga.length/\i=.int .i64 k/\Below W1.1.size W1 wr) (fun i _=>s.Ga.length-(intOf i).toNat)
  exact⟨0,cg _,rfl,bj _ _⟩;obtain⟨k,hk,rfl,hB⟩:=hrel;have P7:=aa hB;have ai:=fl;have ua:=rB;have ak:=ux;replace fl:=Zbk hB fl;replace rB:=Zbk hB rB;replace ux:=aa (ux.o.mv (Mv.of hB));have fy:=Zbl HB hB;clear hB ai ua ak;have s3:=mi fl.o 3 _ rfl;by_cases hlt:k<s.Ga.length
  ·obtain⟨r,hr⟩:=aj s.Ga k hlt;have a9:=ct hr;obtain⟨b,off,us,rfl,_,cX,_,eE,ON⟩:=mC.o.elem hr;obtain rfl:us=_:=eE;have cT:=fy.o.block b cX;have hbl:=cC cX fy.o.size;obtain⟨q0,q1,q2⟩:=Mn cT ON;clear ON hr cT;have hq:(dO g r.on != dO g r0.on)=false:=by rw[Qb.o r a9];simp
   have heq:dO g r.on=dO g r0.on:=Qb.o r a9;have TD:=a8.o;simp only[Option.some.injEq,Addr.mk.injEq,and_true]at TD;obtain⟨rfl,rfl⟩:=TD;have ab:=(cd (a:=⟨b,off+0*3+1,none⟩) (fy.o.block b cX)).trans aV.o;rw[Nat.zero_mul,fg]at ab;have bb:0<s.Ga.length:=by omega
   go_upto_region 14 with(fail);clear s3;obtain⟨g0,g1,g2,g3,g4,g5,g6,g7,g8⟩:=Hr rB.o;have HGQ:=aa fun q:fo=>(ck.moves aN.moves).mv (Mv.of (dQ wr q)) ux.o.F9;have sL:=mi fl.o;have GF:=aq fl.o;have e3:=aG GF (sL 3 _ rfl);replace q1:=aG hbl q1;clear sL GF a9 q0 q2
   (refine aU Tc3 Tc3 ?_;(repeat(go_big_quiet_step ((go_at_call 129;exact iH (Ar g a _ _ (HGQ.o _) hz)))));(with_reducible refine fR ?_);intro az ia;have a5:=dY ia;clear ia)
   have aE:=aq rB.o;have aF:=aq fl.o;replace rB:=aa ((a5.block _ aE).trans rB.o);replace fl:=aa ((a5.block _ aF).trans fl.o);replace ux:=aa (ux.o.mv (Mv.of a5));replace ab:=(a5.cell (p:=⟨b,off+1,none⟩) hbl).trans ab;replace hbl:=cC hbl a5.size;have YF:=Zbl P7 a5;clear a5 g0 g1 g2 g3 g4 g5 g6 g7 g8 e3 q1 P7 fy HGQ aE aF;go_upto_region 15 with(fail);rw[heq]at hq ⊢;obtain⟨g0,g1,g2,g3,g4,g5,g6,g7,g8⟩:=Hr rB.o;have HGQ:=aa fun q:fo=>(ck.moves aN.moves).mv (Mv.of (dQ az q)) ux.o.F9;have sL:=mi fl.o;have GF:=aq fl.o;have e1:=aG GF (sL 1 _ rfl);have e3:=aG GF (sL 3 _ rfl);replace ab:=aG hbl ab;have hll:=Qc.o r0.on;have m1:=Ia (a:=dO g r0.on) (b:=g.Gd) Tc1 Tc1 ah hx2;have w1:IntKind.i64.wrap (dO g r0.on*g.Gd)=dO g r0.on*g.Gd:=dy _ Tc1;have w2:IntKind.i64.wrap ((s.Ga.length:Int)-1)=(s.Ga.length:Int)-1:=dy _ Tc1;have w3:((s.Ga.length:Int)-1==0)=false:=beq_eq_false_iff_ne.2 Tc1;have d0:0<=s.length/((s.Ga.length:Int)-1):=lz Tc1 Tc1;have d1:s.length/((s.Ga.length:Int)-1)<=s.length:=mS _ Tc1;have w4:s.length.tdiv ((s.Ga.length:Int)-1)=s.length/((s.Ga.length:Int)-1):=CC Tc1;generalize s.length/((s.Ga.length:Int)-1)=D at *;have w5:IntKind.i64.wrap D=D:=dy _ Tc1;have m2:=Ia (a:=D) (b:=g.Gd) d0 Tc1 ah hx2;have w6:IntKind.i64.wrap (D*g.Gd)=D*g.Gd:=dy _ Tc1;have w7:IntKind.i64.wrap (D*g.Gd+16)=D*g.Gd+16:=dy _ Tc1;have w8:decide (dO g r0.on*g.Gd<D*g.Gd+16)=false:=cN Tc1;clear sL GF hll m1 m2 d0 d1
   (refine aU Tc3 Tc3 ?_;(repeat(go_big_quiet_step ((go_at_call 129;exact iH (Ar g a _ _ (HGQ.o _) hz)))));(with_reducible refine fR ?_);intro aA ia;have a7:=dY ia;clear ia)
   have aW:=Zbl YF a7;clear a7 g0 g1 g2 g3 g4 g5 g6 g7 g8 e1 e3 ab w1 w2 w3 w4 w5 w6 w7 w8 hq YF rB fl ux hbl HGQ;go_wp2;go_roundw;exact⟨k+1,Tc1,Tc5,aW.o⟩;simp[intOf];omega
  clear hk P7;exact TcK
 by_cases h5:s.kind=5
 ·have hq:(dO g (aOn s 1)==s.length)=true:=by rw[YB.o h5];simp
  have hl:=aJ.o h5;rw[h5]at s2;clear h5 h3 h4;obtain⟨r,hr⟩:=aj s.Ga 1 Tc1;have ho:aOn s 1=r.on:=by unfold aOn;rw[hr];rfl
  rw[ho]at hq;obtain⟨b,off,us,rfl,_,cX,_,eE,ON⟩:=mC.o.elem hr;obtain rfl:us=_:=eE;have q1:=aG (cC cX HB.o.size) ((cd (a:=⟨b,off+1*3+1,none⟩) (HB.o.block b cX)).trans (ON 1 _ rfl));rw[Nat.one_mul]at q1;have aX:1<s.Ga.length:=by omega
  clear ON hr ho;go_upto_region 18 with(fail);exact Ta6
 by_cases h7:s.kind=7
 ·have hq:(dO g (aOn s 0)==s.length)=true:=by rw[aI.o h7];simp
  have hl:=aK.o h7;rw[h7]at s2;clear h7 h3 h4 h5;obtain⟨r,hr⟩:=aj s.Ga 0 Tc1;have ho:aOn s 0=r.on:=by unfold aOn;rw[hr];rfl
  rw[ho]at hq;obtain⟨b,off,us,rfl,_,cX,_,eE,ON⟩:=mC.o.elem hr;obtain rfl:us=_:=eE;have q1:=aG (cC cX HB.o.size) ((cd (a:=⟨b,off+0*3+1,none⟩) (HB.o.block b cX)).trans (ON 1 _ rfl));rw[Nat.zero_mul,fg]at q1;have aX:0<s.Ga.length:=by omega
  clear ON hr ho;go_upto_region 20 with(fail);exact Ta6
 have e3:(s.kind==3)=false:=beq_eq_false_iff_ne.2 h3;have e4:(s.kind==4)=false:=beq_eq_false_iff_ne.2 h4;have e5:(s.kind==5)=false:=beq_eq_false_iff_ne.2 h5;have e7:(s.kind==7)=false:=beq_eq_false_iff_ne.2 h7;clear h3 h4 h5 h7;exact TcJ
def Hq(l:List Int)(j:Nat)(u:Value)(h:(l.map (Bm .i64))[j]?=some u):∃n,l[j]?=some n/\u=.int .i64 n:=by
 rw[rI]at h;cases hl:l[j]? with
 |none=>rw[hl]at h;cases h
 |some n=>rw[hl]at h;cases h;exact⟨n,rfl,rfl⟩
def Ih(w:World)(B:Nat)(v vx:Value)(l m:List Int)(ty:TypeId)(a5:eG w B v l)(hx:Hs w vx m)(Of:l.length+m.length<=100000000)(hB:B<=w.1.size) :
  ∃v' w',(Builtin.append_ #[22,22] ty #[v,vx]).run prog w=.ok v' w'/\eG w' B v' (l++m)/\w.grownBy w' v.ownBlock:=by
 obtain⟨i0,hi,du,On,RC⟩:=gg tZ;obtain⟨p,cap,rfl,a9,ij,hp⟩:=hx;cases p with
 |none =>
  have hm:m=[]:=by
   cases m with
   |nil=>rfl
   |cons a m=>obtain⟨b,off,e,_⟩:=hp Tc2;cases e
  subst hm;refine⟨v,w,?_,by simpa using a5,⟨rfl,rfl,rfl,bk _,fun _ _ _=>rfl⟩⟩;rcases a5.2 with⟨rfl,hn⟩|⟨g,a8,aa,rfl,_,_,vr,_⟩
  ·simp[Builtin.append_,tU underlying22,sizeOf,typeInfo,hi,Builtin.lenOf,Builtin.firstCells]
  simp[Builtin.append_,tU underlying22,sizeOf,typeInfo,hi,Builtin.lenOf,Builtin.firstCells,vr,storeCells]
 |some a =>
  by_cases h0:0<m.length
  ·obtain⟨b,off,e,hb,hc⟩:=hp h0
   cases e
   obtain⟨v',w',hr,a7,hg,_⟩:=run_append_own (P:=prog) w B 22 ty 3 i0 _ 1 8 underlying22 hi du On RC rfl Tc4 v l.length (l.map (Bm .i64)) a5 ⟨b,off,none⟩ m.length cap (m.map (Bm .i64)) Tc2 (fun j u hu=>by
    obtain⟨n,hn,rfl⟩:=Hq m j u hu;rw[iz];exact hc j n hn) (fun u hu=>by rw[As]at hu;obtain⟨n,_,rfl⟩:=hu;rfl) Tda Tc1 hB
   refine⟨v',w',hr,?_,hg⟩;unfold eG;rw[gl,cD];exact a7
  have hm:m=[]:=fX Tc1;subst hm;obtain⟨v',w',hr,a7,hg,_⟩:=run_append_own (P:=prog) w B 22 ty 3 i0 _ 1 8 underlying22 hi du On RC rfl Tc4 v l.length (l.map (Bm .i64)) a5 a 0 cap [] rfl (fun j u hu=>by simp at hu) (fun u hu=>by cases hu) Tda Tc1 hB;refine⟨v',w',hr,?_,hg⟩;unfold eG;simpa using a7
def pz{o:Oper}{K:Act->World->Prop}{E:Prop}
  (hg:o.guard=none) (s x:Operand) (a7:o.op=Op.call { callee:=Callee.builtin Builtin.append,args:=#[s,x],argTypes:=#[22,22] })
  (B:Nat) (v vx:Value) (l m:List Int) (hs:a.eval s=v) (hx:a.eval x=vx) (a5:eG w B v l) (kf:Hs w vx m) (Of:l.length+m.length<=100000000) (hB:B<=w.1.size)
  (hK:∀v' w',eG w' B v' (l++m)->w.grownBy w' v.ownBlock->K (a.put o.dst v') w'):if By o (yielded ops a.tmps)=true then Oper.wp prog o a w K Q else E:=by
 have hw:By o (yielded ops a.tmps)=true:=by simp[By,hg]
 rw[aw hw];obtain⟨v',w',hr,h1,h2⟩:=Ih w B v vx l m o.type a5 kf Of hB;unfold Oper.wp;simp[execOp,a7,resolve,invoke,builtin,hs,hx,hr,Result.andThen];exact hK v' w' h1 h2
def Ip{off cap:Nat}{l:List Int}(k:Nat)(hk:k<=l.length)(hb:b<w.1.size)(hc:ig w b off l)(a7:l.length<=cap)(ij:cap<=9223372036854775807):Hs w (.slice (some (b,off)) k cap) (l.take k):=by
 have hl:(l.take k).length=k:=by simp;omega
 refine⟨some ⟨b,off,none⟩,cap,by rw[hl],Tc1,ij,fun _=>⟨b,off,rfl,hb,fun i n hn=>?_⟩⟩;have a5:i<k:=by have:=(AT.1 hn).1;omega
 rw[ri a5]at hn;exact hc i n hn
def Ij{off cap:Nat}{l:List Int}(k:Nat)(hk:k<=l.length)(hb:b<w.1.size)(hc:ig w b off l)(a5:l.length<=cap)(ij:cap<=9223372036854775807):Hs w (.slice (some (b,off+k)) (l.length-k) (cap-k)) (l.drop k):=by
 have hl:(l.drop k).length=l.length-k:=by simp
 refine⟨some ⟨b,off+k,none⟩,cap-k,by rw[hl],Tc1,Tc1,fun _=>⟨b,off+k,rfl,hb,fun i n hn=>?_⟩⟩;rw[pk]at hn;rw[Nat.add_assoc];exact hc (k+i) n hn
def Gv(w:World)(p:Option Addr)(cap:Nat)(hc:cap<=9223372036854775807):Hs w (.slice p 0 cap) []:=⟨p,cap,rfl,Tc2,hc,fun h=>absurd h Tc2⟩
def rE(h:w.cell? b=some (.int .i64 n)):Hs w (.slice (some b) 1 1) [n]:=by
 refine⟨some ⟨b,0,none⟩,1,rfl,Tc2,Tc1,fun _=>⟨b,0,rfl,cP w _ h,fun i m hm=>?_⟩⟩
 match i,hm with
 |0,hm=>simp at hm;subst hm;exact h
 |i+1,hm=>simp at hm
def GL{l:List Int}(hl:l.Pairwise (·<·))(h1:∀x∈l.take k,x<n)(h2:∀x∈l.drop k,n<x):(l.take k++[n]++l.drop k).Pairwise (·<·)/\∀m,m∈l.take k++[n]++l.drop k↔m∈l\/m=n:=by
 refine⟨?_,fun m=>?_⟩
 ·rw[tP,tP];refine⟨⟨hl.sublist (List.take_sublist k l),Tc2,fun x hx y hy=>by simp at hy;subst hy;exact h1 x hx⟩,hl.sublist (List.drop_sublist k l),fun x hx y hy=>?_⟩;rcases AS.1 hx with hx|hx
  ·have:=h1 x hx;have:=h2 y hy;omega
  simp at hx;subst hx;exact h2 y hy
 have:=rk k l;rw[oT,oT];constructor
 ·rintro((h|h)|h)
  ·exact .inl (tR h)
  ·simp at h;exact .inr h
  exact .inl (List.mem_of_mem_drop h)
 rintro(h|h)
 ·rw[<- this]at h;rcases AS.1 h with h|h
  ·exact .inl (.inl h)
  exact .inr h
 exact .inl (.inr (by simp[h]))
def IB(w:World)(l:List Int)(n:Int)(e:Ending)(w':World):Prop :=
 ∃v l',e=.returned v/\Hs w' v l'/\l'.Pairwise (·<·)/\(∀m,m∈l'↔m∈l\/m=n)/\l'.length<=l.length+1/\Below w.1.size w w'
def Tde{p:Prop}(h:p:=by simp;try omega):p:=h
def Td7{p:Prop}(h:p:=by first|(simp;done)|(simpa using HI.o.2)):p:=h
def Td8{p:Prop}(h:p:=by first|(simp;done)|(simpa using HI.o.1)):p:=h
def TbE{p:Prop}(h:p:=by
 go_wp2;go_ret;exact⟨_,_,rfl,ho43.rd,Td8,Td7,Tde,hb43.o⟩):p:=h
def TdV{p:Prop}(h:p:=by exact rE (hg36.cell (aD (by simp) rfl) (by simp[Value.ownBlock]))):p:=h
def Td2{p:Prop}(h:p:=by exact hb36.o):p:=h
def Td5{p:Prop}(h:p:=by exact ho36):p:=h
def Tdb{p:Prop}(h:p:=by have:=hb36.o.size;simp;omega):p:=h
def TdT{p:Prop}(h:p:=by refine hb36.o.trans (kt (B:=w36.1.size) ?_ hb36.o.size);(repeat' (first|exact bj _ _|exact bk _|(refine dT ?_ ?_ _)|(refine aT ?_ _)|(refine gA ?_)|(simp;done)|(simp;omega)))):p:=h
def TdU{p:Prop}(h:p:=by refine ho36.below ?_;(repeat' (first|exact bj _ _|exact bk _|(refine dT ?_ ?_ _)|(refine aT ?_ _)|(refine gA ?_)|(simp;done)|(simp;omega)))):p:=h
def TdW{p:Prop}(h:p:=by exact rE (aD (by simp) rfl)):p:=h
def Tc9{p:Prop}(h:p:=by simp[Act.eval]):p:=h
def Tdn{p:Prop}(h:p:=by(repeat' (first|exact bj _ _|exact bk _|(refine dT ?_ ?_ _)|(refine aT ?_ _)|(refine gA ?_)|(simp;done)|(simp;omega)))):p:=h
def TdX{p:Prop}(h:p:=by simp[Act.eval,Act.put]):p:=h
def GD(l:List Int)(n:Int)(v:Value)(w:World)(hr:Hs w v l)(hs:l.Pairwise (·<·))(Of:l.length<=10000000) :
  Calls prog 87 #[v,.int .i64 n] w (IB w l n):=by
 have HR:=aa hr;replace hs:=aa hs;obtain⟨p,cap,rfl,ai,ij,hp⟩:=hr;go_enter func87,ntmps87;go_wp2
 go_loopw[5] (fun i wr=>∃k:Nat,k<=l.length/\i=.int .i64 k/\(∀x∈l.take k,x<n)/\wr=w) (fun i _=>l.length-(intOf i).toNat)
 exact⟨0,cg _,rfl,Tc2,rfl⟩;obtain⟨k,hk,rfl,hall,rfl⟩:=hrel;replace hall:=aa hall;by_cases hlt:k<l.length
 ·obtain⟨b,off,rfl,gO,hc⟩:=hp Tc1;obtain⟨x,hx⟩:=aj l k hlt;have ak:=hc k x hx;have HX:=aa hx;replace hc:=aa hc;clear hp hx;by_cases UM:x<n
  ·go_wp2;go_roundw;exact⟨k+1,Tc1,Tc5,fun y hy=>by
    rw[take_snoc' l k x HX.o]at hy;rcases AS.1 hy with hy|hy
    ·exact hall.o y hy
    simp at hy;subst hy;exact UM,trivial⟩
   simp[intOf];omega
  by_cases Yh:x=n
  ·subst Yh;have Qu:(x==x)=true:=by simp
   go_wp2;go_ret;exact⟨_,l,rfl,HR.o,hs.o,fun m=>⟨.inl,fun h=>h.elim id fun h=>by rw[h];exact ct HX.o⟩,Tc1,bj _ _⟩
  have Qu:(x==n)=false:=by simp[Yh]
  have Vo:n<x:=by omega
  have h2:∀y∈l.drop k,n<y:=by
   intro y hy;rw[GR l k x HX.o]at hy;rcases F1.1 hy with rfl|hy
   ·exact Vo
   have hp:=hs.o.sublist (List.drop_sublist k l);rw[GR l k x HX.o]at hp;have:=(IN.1 hp).1 y hy;omega
  have HI:=aa (GL hs.o hall.o h2);clear Yh h2;have ae:=aa (fun(W:World) (hW:Below wr.1.size wr W)=>(Ip k hk gO hc.o ai ij).below hW);have B2:=aa (fun(W:World) (hW:Below wr.1.size wr W)=>(Ij k hk gO hc.o ai ij).below hW);have UK:k<=cap:=by omega
  have am:¬cap=k:=by omega
  go_wp2;clear Qu Vo ak;go_region_law (first
   |(refine pz (o:=⟨some 36,_,_,_,_,_⟩) rfl (.const (.slice none 0 0)) (.tmp 35) rfl wr.1.size (.slice none 0 0) (.slice (some (b,off)) k cap) [] (l.take k) Tc9 TdX (eG.nil _ _) (ae.o _ Tdn) Tc6 Tc2 ?_;intro a9 w36 ho36 hg36;have hb36:=aa (fN (B:=wr.1.size) (a:=wr) Tdn hg36 Tc2 TdI))
   |(refine pz (o:=⟨some 39,_,_,_,_,_⟩) rfl (.tmp 36) (.tmp 38) rfl wr.1.size a9 (.slice (some w36.1.size) 1 1) ([]++l.take k) [n] Tc9 Tc9 TdU TdW Tc6 Tdb ?_;intro ab af a5 a7;have sC:=aa (fN (B:=wr.1.size) (a:=wr) TdT a7 Tdb (fun j hj=>(ho36.lt j hj).1)))
   |(refine pz (o:=⟨some 39,_,_,_,_,_⟩) rfl (.tmp 36) (.tmp 38) rfl wr.1.size a9 (.slice (some wr.1.size) 1 1) ([]++l.take k) [n] Tc9 Tc9 Td5 TdV Tc6 Tdb ?_;intro ab af a5 a7;have sC:=aa (fN (B:=wr.1.size) (a:=wr) Td2 a7 Tdb (fun j hj=>(ho36.lt j hj).1)))
   |(refine pz (o:=⟨some 43,_,_,_,_,_⟩) rfl (.tmp 39) (.tmp 42) rfl wr.1.size ab (.slice (some (b,off+k)) (l.length-k) (cap-k)) ([]++l.take k++[n]) (l.drop k) Tc9 Tc9 a5 (B2.o _ sC.o) Tc6 sC.o.size ?_;intro ag ah ho43 a8;have hb43:=aa (fN (B:=wr.1.size) (a:=wr) sC.o a8 sC.o.size (fun j hj=>(a5.lt j hj).1))))
  all_goals
   go_wp2;go_ret;exact⟨_,_,rfl,ho43.rd,Td8,Td7,Tc6,hb43.o⟩
 by_cases hl0:0<l.length
 ·have Vk:k=l.length:=by omega
  subst Vk;have hi:=GL hs.o hall.o (n:=n) Tc2;simp only[cI,List.drop_length,eM]at hi;have HI:=aa hi;clear hi;obtain⟨b,off,rfl,gO,hc⟩:=hp hl0;clear hp;by_cases hce:cap=l.length
  ·subst hce;have ae:=aa (fun(W:World) (hW:Below wr.1.size wr W)=>HR.o.below hW);have B2:=aa (fun(W:World) (_:Below wr.1.size wr W)=>Gv W (some ⟨b,off,none⟩) 0 Tc1);clear hc;go_wp2;go_region_law (first
    |(refine pz (o:=⟨some 36,_,_,_,_,_⟩) rfl (.const (.slice none 0 0)) (.tmp 35) rfl wr.1.size (.slice none 0 0) (.slice (some (b,off)) l.length l.length) [] (l) Tc9 TdX (eG.nil _ _) (ae.o _ Tdn) Tde Tc2 ?_;intro a9 w36 ho36 hg36;have hb36:=aa (fN (B:=wr.1.size) (a:=wr) Tdn hg36 Tc2 TdI))
    |(refine pz (o:=⟨some 39,_,_,_,_,_⟩) rfl (.tmp 36) (.tmp 38) rfl wr.1.size a9 (.slice (some w36.1.size) 1 1) ([]++l) [n] Tc9 Tc9 TdU TdW Tde Tdb ?_;intro ab af a5 a7;have sC:=aa (fN (B:=wr.1.size) (a:=wr) TdT a7 Tdb (fun j hj=>(ho36.lt j hj).1)))
    |(refine pz (o:=⟨some 39,_,_,_,_,_⟩) rfl (.tmp 36) (.tmp 38) rfl wr.1.size a9 (.slice (some wr.1.size) 1 1) ([]++l) [n] Tc9 Tc9 Td5 TdV Tde Tdb ?_;intro ab af a5 a7;have sC:=aa (fN (B:=wr.1.size) (a:=wr) Td2 a7 Tdb (fun j hj=>(ho36.lt j hj).1)))
    |(refine pz (o:=⟨some 43,_,_,_,_,_⟩) rfl (.tmp 39) (.tmp 42) rfl wr.1.size ab (.slice (some (b,off)) 0 0) ([]++l++[n]) ([]) Tc9 Tc9 a5 (B2.o _ sC.o) Tde sC.o.size ?_;intro ag ah ho43 a8;have hb43:=aa (fN (B:=wr.1.size) (a:=wr) sC.o a8 sC.o.size (fun j hj=>(a5.lt j hj).1))))
   all_goals
    exact TbE
  have ae:=aa (fun(W:World) (hW:Below wr.1.size wr W)=>HR.o.below hW);have B2:=aa (fun(W:World) (_:Below wr.1.size wr W)=>Gv W (some ⟨b,off+l.length,none⟩) (cap-l.length) Tc1);clear hc;go_wp2;go_region_law (first
   |(refine pz (o:=⟨some 36,_,_,_,_,_⟩) rfl (.const (.slice none 0 0)) (.tmp 35) rfl wr.1.size (.slice none 0 0) (.slice (some (b,off)) l.length cap) [] (l) Tc9 TdX (eG.nil _ _) (ae.o _ Tdn) Tde Tc2 ?_;intro a9 w36 ho36 hg36;have hb36:=aa (fN (B:=wr.1.size) (a:=wr) Tdn hg36 Tc2 TdI))
   |(refine pz (o:=⟨some 39,_,_,_,_,_⟩) rfl (.tmp 36) (.tmp 38) rfl wr.1.size a9 (.slice (some w36.1.size) 1 1) ([]++l) [n] Tc9 Tc9 TdU TdW Tde Tdb ?_;intro ab af a5 a7;have sC:=aa (fN (B:=wr.1.size) (a:=wr) TdT a7 Tdb (fun j hj=>(ho36.lt j hj).1)))
   |(refine pz (o:=⟨some 39,_,_,_,_,_⟩) rfl (.tmp 36) (.tmp 38) rfl wr.1.size a9 (.slice (some wr.1.size) 1 1) ([]++l) [n] Tc9 Tc9 Td5 TdV Tde Tdb ?_;intro ab af a5 a7;have sC:=aa (fN (B:=wr.1.size) (a:=wr) Td2 a7 Tdb (fun j hj=>(ho36.lt j hj).1)))
   |(refine pz (o:=⟨some 43,_,_,_,_,_⟩) rfl (.tmp 39) (.tmp 42) rfl wr.1.size ab (.slice (some (b,off+l.length)) 0 (cap-l.length)) ([]++l++[n]) ([]) Tc9 Tc9 a5 (B2.o _ sC.o) Tde sC.o.size ?_;intro ag ah ho43 a8;have hb43:=aa (fN (B:=wr.1.size) (a:=wr) sC.o a8 sC.o.size (fun j hj=>(a5.lt j hj).1))))
  all_goals
   exact TbE
 have hl:l=[]:=fX Tc1;subst hl;have hk0:k=0:=by simpa using hk
 subst hk0;have HI:=aa (show([n]:List Int).Pairwise (·<·)/\∀m,m∈[n]↔m∈([]:List Int)\/m=n from⟨Tc2,Tc2⟩);cases p with
 |none =>
  have ae:=aa (fun(W:World) (_:Below wr.1.size wr W)=>Gv W none cap ij);have B2:=ae;go_wp2;go_region_law (first
   |(refine pz (o:=⟨some 36,_,_,_,_,_⟩) rfl (.const (.slice none 0 0)) (.tmp 35) rfl wr.1.size (.slice none 0 0) (.slice none 0 cap) [] ([]) Tc9 TdX (eG.nil _ _) (ae.o _ Tdn) Tde Tc2 ?_;intro a9 w36 ho36 hg36;have hb36:=aa (fN (B:=wr.1.size) (a:=wr) Tdn hg36 Tc2 TdI))
   |(refine pz (o:=⟨some 39,_,_,_,_,_⟩) rfl (.tmp 36) (.tmp 38) rfl wr.1.size a9 (.slice (some w36.1.size) 1 1) ([]++[]) [n] Tc9 Tc9 TdU TdW Tde Tdb ?_;intro ab af a5 a7;have sC:=aa (fN (B:=wr.1.size) (a:=wr) TdT a7 Tdb (fun j hj=>(ho36.lt j hj).1)))
   |(refine pz (o:=⟨some 39,_,_,_,_,_⟩) rfl (.tmp 36) (.tmp 38) rfl wr.1.size a9 (.slice (some wr.1.size) 1 1) ([]++[]) [n] Tc9 Tc9 Td5 TdV Tde Tdb ?_;intro ab af a5 a7;have sC:=aa (fN (B:=wr.1.size) (a:=wr) Td2 a7 Tdb (fun j hj=>(ho36.lt j hj).1)))
   |(refine pz (o:=⟨some 43,_,_,_,_,_⟩) rfl (.tmp 39) (.tmp 42) rfl wr.1.size ab (.slice none 0 cap) ([]++[]++[n]) ([]) Tc9 Tc9 a5 (B2.o _ sC.o) Tde sC.o.size ?_;intro ag ah ho43 a8;have hb43:=aa (fN (B:=wr.1.size) (a:=wr) sC.o a8 sC.o.size (fun j hj=>(a5.lt j hj).1))))
  all_goals
   go_wp2;go_ret;exact⟨_,_,rfl,ho43.rd,Td8,Td7,Tde,hb43.o⟩
 |some a =>
  have ae:=aa (fun(W:World) (_:Below wr.1.size wr W)=>Gv W (some a) cap ij);have B2:=ae;go_wp2;go_region_law (first
   |(refine pz (o:=⟨some 36,_,_,_,_,_⟩) rfl (.const (.slice none 0 0)) (.tmp 35) rfl wr.1.size (.slice none 0 0) (.slice (some a) 0 cap) [] ([]) Tc9 TdX (eG.nil _ _) (ae.o _ Tdn) Tde Tc2 ?_;intro a9 w36 ho36 hg36;have hb36:=aa (fN (B:=wr.1.size) (a:=wr) Tdn hg36 Tc2 TdI))
   |(refine pz (o:=⟨some 39,_,_,_,_,_⟩) rfl (.tmp 36) (.tmp 38) rfl wr.1.size a9 (.slice (some w36.1.size) 1 1) ([]++[]) [n] Tc9 Tc9 TdU TdW Tde Tdb ?_;intro ab af a5 a7;have sC:=aa (fN (B:=wr.1.size) (a:=wr) TdT a7 Tdb (fun j hj=>(ho36.lt j hj).1)))
   |(refine pz (o:=⟨some 39,_,_,_,_,_⟩) rfl (.tmp 36) (.tmp 38) rfl wr.1.size a9 (.slice (some wr.1.size) 1 1) ([]++[]) [n] Tc9 Tc9 Td5 TdV Tde Tdb ?_;intro ab af a5 a7;have sC:=aa (fN (B:=wr.1.size) (a:=wr) Td2 a7 Tdb (fun j hj=>(ho36.lt j hj).1)))
   |(refine pz (o:=⟨some 43,_,_,_,_,_⟩) rfl (.tmp 39) (.tmp 42) rfl wr.1.size ab (.slice (some a) 0 cap) ([]++[]++[n]) ([]) Tc9 Tc9 a5 (B2.o _ sC.o) Tde sC.o.size ?_;intro ag ah ho43 a8;have hb43:=aa (fN (B:=wr.1.size) (a:=wr) sC.o a8 sC.o.size (fun j hj=>(a5.lt j hj).1))))
  all_goals
   go_wp2;go_ret;exact⟨_,_,rfl,ho43.rd,Td8,Td7,Tde,hb43.o⟩
def Iy(w:World)(Z:List Int)(e:Ending)(w':World):Prop:=∃v P,e=.returned v/\Hs w' v P/\Cq P Z/\P.length<=Z.length/\Below w.1.size w w'
def G8(l:List (Int × Int))(v:Value)(w:World)(hr:xo w v l)(hval:dI l=true)(Of:l.length<=1000000) :
  Calls prog 39 #[v] w (Iy w (eU l)):=by
 replace hval:=aa hval;obtain⟨p,cap,rfl,ak,ij,hp⟩:=hr;go_enter func39,ntmps39;go_wp2
 go_loopw[3,4] (fun vo i wr=>∃(k:Nat) (o:List Int),k<=l.length/\i=.int .i64 k/\Hs wr vo o/\o.Pairwise (·<·)/\(∀m,m∈o↔m∈eU (l.take k))/\o.length<=2*k/\Below w.1.size w wr) (fun _ i _=>l.length-(intOf i).toNat)
 exact⟨0,[],cg _,rfl,Hs.nil _,List.Pairwise.nil,by simp[eU],Tc2,bj _ _⟩;obtain⟨k,o,hk,rfl,a5,KB,Tc,am,hb⟩:=hrel;by_cases hlt:k<l.length
 ·obtain⟨b,off,rfl,gO,hc⟩:=hp Tc1;obtain⟨x,hx⟩:=aj l k hlt;have a7:=(hc.below hb gO) k x hx;have ab:=a7.1;have zc:=a7.2;have cX:b<wr.1.size:=cC gO hb.size;obtain⟨ao,aq,hx2⟩:=iF hval.o x (ct hx);have HX:=aa hx;have Pr:=aa Tc;have XE:=aa (fun(W:World) (hW:Below wr.1.size wr W)=>a5.below hW);replace KB:=aa KB;clear hc hp a7 hx Tc a5;have af:IntKind.i64.wrap (x.1+x.2)=x.1+x.2:=dy _ Tc1;go_wp2;go_region_held3 (fun w'=>w'.cell? (b,off+k*2)=some (.int .i64 x.1)/\w'.cell? (b,off+k*2+1)=some (.int .i64 x.2)) (go_keep)
   (first
    |(go_at_call_of 87 (Bm .i64 x.1);refine(GD o x.1 _ _ (XE.o _ ((bj _ _).drew)) KB.o Tc1).mono ?_;rintro e w2 ⟨v2,o2,rfl,a8,Td,Te,Ww,hb2⟩;have hd1:w2.cell? (b,off+k*2)=some (.int .i64 x.1):=(hb2.cell (p:=⟨b,off+k*2,none⟩) (by simpa using cX)).trans (by simpa using ab);have hd2:w2.cell? (b,off+k*2+1)=some (.int .i64 x.2):=(hb2.cell (p:=⟨b,off+k*2+1,none⟩) (by simpa using cX)).trans (by simpa using zc))
    |(go_at_call_of 87 (Bm .i64 (x.1+x.2));refine(GD o2 (x.1+x.2) _ _ a8 Td Tc1).mono ?_;rintro e w3 ⟨v3,o3,rfl,a9,Tf,Tg,au,hb3⟩;have ag:w3.cell? (b,off+k*2)=some (.int .i64 x.1):=(hb3.cell (p:=⟨b,off+k*2,none⟩) (cC cX hb2.size)).trans hd1;have ah:w3.cell? (b,off+k*2+1)=some (.int .i64 x.2):=(hb3.cell (p:=⟨b,off+k*2+1,none⟩) (cC cX hb2.size)).trans hd2))
  clear af hd1 hd2 ag ah ab zc;have hb5:Below w.1.size w w3:=mn (mn hb.drew hb2) hb3;have ae:∀m,m∈o3↔m∈eU (l.take (k+1)):=fun m=>by
   rw[Tg,Te,Pr.o,xw l k x HX.o,oT];simp;constructor
   ·rintro((h|h)|h)
    ·exact .inl h
    ·exact .inr (.inl h)
    exact .inr (.inr h)
   rintro(h|h|h)
   ·exact .inl (.inl h)
   ·exact .inl (.inr h)
   exact .inr h
  have HM:=aa ae;replace Tf:=aa Tf;clear ae Te Tg Td;go_wp2;go_roundw;exact⟨k+1,o3,Tc1,Tc5,a9,Tf.o,HM.o,Tc1,hb5⟩;simp[intOf];omega
 have ai:k=l.length:=by omega
 subst ai;rw[cI]at Tc;have HM:=aa Tc;clear Tc;go_wp2;go_ret;exact⟨_,o,rfl,a5,⟨KB,HM.o⟩,by rw[kE];omega,hb⟩
def Hy(l:List (Int × Int))(n:Int)(h:dI l=true):Gp l n=kO l n:=by
 unfold Gp kO;rw[mN,nh,nh];unfold dI at h;rw[eL]at h;constructor
 ·rintro⟨p,hp,hh⟩;simp at hh;exact⟨p,hp,Tc6⟩
 rintro⟨p,hp,hh⟩;simp at hh;exact⟨p,hp,by simp[h p hp];omega⟩
def Ik(w:World)(B:Nat)(v vx:Value)(l m:List (Int × Int))(ty:TypeId)(a5:bM w B v l)(hx:xo w vx m)(Of:l.length+m.length<=100000000)(hB:B<=w.1.size) :
  ∃v' w',(Builtin.append_ #[43,43] ty #[v,vx]).run prog w=.ok v' w'/\bM w' B v' (l++m)/\w.grownBy w' v.ownBlock:=by
 obtain⟨i0,hi,du,On,RC⟩:=gg DT;obtain⟨p,cap,rfl,a9,ij,hp⟩:=hx;cases p with
 |none =>
  have hm:m=[]:=by
   cases m with
   |nil=>rfl
   |cons a m=>obtain⟨b,off,e,_⟩:=hp Tc2;cases e
  subst hm;refine⟨v,w,?_,by simpa using a5,⟨rfl,rfl,rfl,bk _,fun _ _ _=>rfl⟩⟩;rcases a5.2 with⟨rfl,hn⟩|⟨g,a8,aa,rfl,_,_,vr,_⟩
  ·simp[Builtin.append_,tU underlying43,sizeOf,typeInfo,hi,Builtin.lenOf,Builtin.firstCells]
  simp[Builtin.append_,tU underlying43,sizeOf,typeInfo,hi,Builtin.lenOf,Builtin.firstCells,vr,storeCells]
 |some a =>
  by_cases h0:0<m.length
  ·obtain⟨b,off,e,hb,hc⟩:=hp h0
   cases e
   obtain⟨v',w',hr,a7,hg,_⟩:=run_append_own (P:=prog) w B 43 ty 55 i0 _ 2 16 underlying43 hi du On RC rfl Tc4 v l.length (bU l) a5 ⟨b,off,none⟩ m.length cap (bU m) (dx m) (fun j u hu=>by
    rw[iz];have hj:j<m.length*2:=by rw[<- dx];exact(AT.1 hu).1
    obtain⟨p,hp⟩:=De m (j/2) Tc1;have h1:=kr m (j/2) p hp;have h2:=hc (j/2) p hp;rcases Nat.mod_two_eq_zero_or_one j with hm|hm
    ·have e:j/2*2=j:=by omega
     rw[e]at h1 h2;rw[h1.1]at hu;rw[h2.1,hu]
    have e:j/2*2+1=j:=by omega
    rw[e]at h1;rw[h1.2]at hu;rw[<- hu,<- h2.2,Nat.add_assoc,e]) (qI _) Tda Tc1 hB
   refine⟨v',w',hr,?_,hg⟩;unfold bM;rw[gJ,cD];exact a7
  have hm:m=[]:=fX Tc1;subst hm;obtain⟨v',w',hr,a7,hg,_⟩:=run_append_own (P:=prog) w B 43 ty 55 i0 _ 2 16 underlying43 hi du On RC rfl Tc4 v l.length (bU l) a5 a 0 cap [] rfl (fun j u hu=>by simp at hu) (fun u hu=>by cases hu) Tda Tc1 hB;refine⟨v',w',hr,?_,hg⟩;unfold bM;simpa using a7
def Gu{o:Oper}(a7:o.guard=none)(s x:Operand)
  (ho:o.op=.call { callee:=.builtin .append,args:=#[s,x],argTypes:=#[43,43] })
  (B:Nat) (v vx:Value) (l m:List (Int × Int)) (hs:a.eval s=v) (hx:a.eval x=vx) (a5:bM w B v l) (kf:xo w vx m) (Of:l.length+m.length<=100000000) (hB:B<=w.1.size)
  (h:∀v' w',bM w' B v' (l++m)->Below B w w'->wpList prog ops Q rest (a.put o.dst v') w'):wpList prog ops Q (o :: rest) a w:=by
 obtain⟨v',w',hr,h1,h2⟩:=Ik w B v vx l m o.type a5 kf Of hB;refine wpList_plain a7 fun K hK=>?_;unfold Oper.wp;simp only[execOp,ho,resolve,invoke,builtin,Sem.run_bind,Sem.run_pure,ud,tS,iu,List.map_nil,hs,hx,hr];exact hK _ _ (h v' w' h1 ((bj B w).grown h2 hB (fun k hk=>(a5.lt k hk).1)))
def Ig{P:List Int}{l:List (Int × Int)}(hP:Cq P (eU l))(hv:dI l=true):∀t∈P,0<=t/\t<=1073741824:=fun t ht=>by
 have h:=(hP.2 t).1 ht;unfold eU at h;rw[ur]at h;obtain⟨p,hp,h⟩:=h;have:=iF hv p hp;simp at h;rcases h with rfl|rfl<;>omega
def Hu(l:List (Int × Int)):∀r∈l,r.1∈eU l/\r.1+r.2∈eU l:=fun r hr=>by
 unfold eU;rw[ur,ur];exact⟨⟨r,hr,Tc2⟩,⟨r,hr,Tc2⟩⟩
def He(a b:List (Int × Int)):dI (a++b)=(dI a&&dI b):=by simp[dI]
def Iz(kind:Int)(x y:Bool):Bool:=(kind==0&&!x&&!y)||(kind==1&&(!x||y))||(kind==2&&(!x||!y))
def Il(kind:Int)(h:kind=0\/kind=1\/kind=2)(x y:Bool):Iz kind x y=!GN kind x y:=by
 rcases h with rfl|rfl|rfl<;>cases x<;>cases y<;>rfl
def Iu(M:Int)(l:List (Int × Int))(h:Row l)(hb:∀p∈l,0<=p.1/\0<=p.2/\p.1+p.2<=M):∀p∈glue l,0<=p.1/\0<=p.2/\p.1+p.2<=M:=by
 rw[GA l h];have:=CL M l hb l.length (bk _);rw[cI]at this;exact this
def IA(w:World)(S:Int->Prop)(N:Nat)(e:Ending)(w':World):Prop :=
 ∃v x,e=.returned v/\bM w' w.1.size v x/\iE x S/\dI x=true/\x.length<=N/\Below w.1.size w w'
def TeQ{p:Prop}(h:p:=by refine kt (B:=wc.1.size) ?_ hbo.size;(repeat' (first|exact bj _ _|exact bk _|(refine dT ?_ ?_ _)|(refine aT ?_ _)|(refine gA ?_)|(simp;done)|(simp;omega)))):p:=h
def Gn(a b:List (Int × Int))(kind:Int)(zE:kind=0\/kind=1\/kind=2)(v1 v2:Value)(w:World)(hr1:xo w v1 a)(hr2:xo w v2 b)(aq:dI a=true)(au:dI b=true)(hl1:a.length<=400000)(aE:b.length<=400000) :
  Calls prog 11 #[v1,v2,.int .i64 kind] w (IA w (fun n=>GN kind (kO a n) (kO b n)=true) (2*(a.length+b.length))):=by
 have Zx:=aa aq;have Vn:=aa au;replace zE:=aa zE;clear aq au;have RZ:=hr1;have sB:=hr2;obtain⟨pa,ca,rfl,_⟩:=RZ;obtain⟨pb,cb,rfl,_⟩:=sB;have XO:=aa hr1;have E3:=aa hr2;go_enter func11,ntmps11
 go_wp2_with(at_builtin;refine Gu rfl _ _ rfl w.1.size _ _ [] a rfl rfl (bM.nil _ _) hr1 Tc6 (bk _) ?_)
 intro va w1 PT af;have av:bM w1 w.1.size va a:=by first|exact PT|simpa using PT
 clear hr1 PT;have Th:=hr2.below af;clear hr2;go_wp2_with(at_builtin;refine Gu rfl _ _ rfl w.1.size va _ a b rfl rfl av Th Tc1 af.size ?_)
 intro ay w2 Ti hb2;have a5:Below w.1.size w w2:=af.trans hb2;have ra:xo w2 (.slice pa a.length ca) a:=XO.o.below a5;have rb:xo w2 (.slice pb b.length cb) b:=E3.o.below a5;have Tj:dI (a++b)=true:=by rw[He,Zx.o,Vn.o];rfl
 replace Tj:=aa Tj;clear av Th af hb2;go_wp2_with fail;refine(G8 (a++b) ay w2 Ti.rd Tj.o Tc6).mono ?_;rintro e w3 ⟨vp,P,rfl,az,hP,Pe,hb3⟩;replace ra:=ra.below hb3;replace rb:=rb.below hb3;have a8:=mn a5 hb3;have Ps:P.length<=2*(a.length+b.length):=by rw[kE]at Pe;simp at Pe;omega
 have HP:=aa hP;have Kp:=aa (Ig hP Tj.o);clear hP Pe Ti hb3 a5;obtain⟨qp,cp,rfl,Ui,Sa,Un⟩:=az;obtain⟨f,hf⟩:∃f:Int->Bool,f=fun t=>GN kind (Gp a t) (Gp b t):=⟨_,rfl⟩;replace hf:=aa hf;go_wp2
 go_loopw[7,9] (fun vo vn wr=>∃m:Nat,m<=P.length/\vn=.int .i64 m/\bM wr w3.1.size vo (glue (Gf (P.take (m+1)) f))/\Below w3.1.size w3 wr) (fun _ vn _=>P.length-(intOf vn).toNat)
 exact⟨0,cg _,rfl,by rw[Ch];exact bM.nil _ _,bj _ _⟩;obtain⟨m,hm,rfl,a7,hb⟩:=hrel;obtain⟨o,ho⟩:∃o,o=glue (Gf (P.take (m+1)) f):=⟨_,rfl⟩;rw[<- ho]at a7
 have aw:o.length<=2*(a.length+b.length):=by
  rw[ho];have h1:=Io (Gf (P.take (m+1)) f);have h2:=wJ f (P.take (m+1));simp at h2;omega
 have fL:=GH f (P.take (m+1)) (HP.o.1.sublist (List.take_sublist _ _));have a9:∀p∈o,0<=p.1/\0<=p.2/\p.1+p.2<=1073741824:=by
  rw[ho];refine Iu 1073741824 _ fL (fun r hr=>?_);have h1:=uq f (P.take (m+1)) (HP.o.1.sublist (List.take_sublist _ _)) r hr;have h2:=Kp.o _ (tR h1.1);have h3:=Kp.o _ (tR h1.2.1);omega
 replace ho:=aa ho;clear fL;by_cases hlt:m+1<P.length
 ·obtain⟨bp,PC,rfl,ah,ai⟩:=Un Tc1;obtain⟨t,ht⟩:=aj P m Tc1;obtain⟨t2,ht2⟩:=aj P (m+1) hlt;have cX:bp<wr.1.size:=cC ah hb.size;have PU:=(ai.below hb ah) m t ht;have Ow:=(ai.below hb ah) (m+1) t2 ht2;have Wy:=aG cX PU;obtain⟨aF,aH⟩:=Kp.o t (ct ht);obtain⟨aA,aB⟩:=Kp.o t2 (ct ht2);have aI:t<t2:=by
   exact Tbz
  have HT:=aa ht;have HT2:=aa ht2;have RA:=aa (fun(q:fo)=>(ra.below hb).below (dQ wr q));have RB:=aa (fun(q:fo)=>(rb.below hb).below (dQ wr q));have yq:=tu P f m t t2 HT.o HT2.o;have Oi:f t=GN kind (Gp a t) (Gp b t):=by rw[hf.o]
  have B6:=aa yq;replace Oi:=aa Oi;clear ht ht2 ai Un yq;have ak:decide ((m:Int)+1<(P.length:Int))=true:=by simp;omega
  have aJ:m<P.length:=by omega
  go_wp2_with fail;(refine aU Tc3 Tc3 ?_;(repeat(go_big_quiet_step ((first|(go_at_call_of 40 (Value.slice pa a.length ca);exact iH (Gz a t _ _ Tc1 (RA.o _)))|(go_at_call_of 40 (Value.slice pb b.length cb);exact iH (Gz b t _ _ Tc1 (RB.o _)))))));(with_reducible refine fR ?_);intro wq ia;have kq:=dY ia;clear ia)
  have C0:=a7.below kq;have hbo:=mn hb kq;have aK:=(kq.cell (p:=⟨bp,PC+m,none⟩) cX).trans PU;have Zp:=(kq.cell (p:=⟨bp,PC+(m+1),none⟩) cX).trans Ow;clear a7 Wy PU Ow hb RA RB;generalize R1:Gp a t=xa at *;generalize qu:Gp b t=xb at *;clear R1 qu;go_upto_region 7 with fail
  go_cut[69] (fun v wc=>v=.bool (Iz kind xa xb)/\wc=wq)
  case first =>
   rcases zE.o with rfl|rfl|rfl
   all_goals
    cases xa<;>cases xb
    all_goals
     go_wp2;go_meet;exact⟨rfl,by first|rfl|trivial⟩
  case rest =>
   obtain⟨rfl,rfl⟩:=hcut;rw[Il kind zE.o,<- Oi.o];cases Oi:f t
   ·have yq:glue (Gf (P.take (m+1+1)) f)=o:=by rw[B6.o,Oi,ho.o];simp
    have ab:=aa yq;clear yq;go_wp2;go_roundw;exact⟨m+1,Tc1,Tc5,by rw[ab.o];exact C0,hbo⟩;simp[intOf];omega
   have yq:glue (Gf (P.take (m+1+1)) f)=qz o (t,t2-t):=by rw[B6.o,Oi,ho.o];simp only[ej];exact Gx _ _
   have ab:=aa yq;clear yq;rcases List.eq_nil_or_concat o with rfl|⟨i,q,rfl⟩
   ·obtain⟨p3,am,rfl,_,_,_⟩:=C0.rd;go_wp2;go_quiet (fail);go_wp2
    (refine uk _ 16 Tc3 rfl rfl Tc3 Tc3 (fun _ _ _ _ h=>h) Td4 ?_;simp only[xi,iv,cQ,cL];(repeat(go_big_quiet_step (fail)));(with_reducible refine fR ?_);intro wq ia;obtain⟨nq,ia⟩:=ia;subst ia)
    go_wp2_with(at_builtin;refine jg rfl _ _ rfl w3.1.size _ [] (t,t2-t) rfl ?c1 wc.1.size 1 rfl ?c2 ?c3 Tc2 ?c4 ?_)
    case c1=>refine C0.below ?_;(repeat' (first|exact bj _ _|exact bk _|(refine dT ?_ ?_ _)|(refine aT ?_ _)|(refine gA ?_)|(simp;done)|(simp;omega)))
    try(case c2=>exact aD Tc2 rfl)
    try(case c3=>exact aD Tc2 rfl)
    case c4=>have:=hbo.size;simp;omega
    intro v8 w8 ag ae _;have ao:Below w3.1.size w3 w8:=(hbo.trans TeQ).trans ae;clear ae C0;go_wp2;go_roundw;exact⟨m+1,Tc1,Tc5,by rw[ab.o];exact ag,ao⟩;simp[intOf];omega
   simp only[List.concat_eq_append]at *;have hq:=a9 q Tc2;obtain⟨aL,aM,aN⟩:=hq;clear a9;obtain⟨g,am,rfl,TR,ye,aO,aP,Vq,Vr,Yi,hst⟩:=C0.last;have aQ:i.length+1<=10000000:=by simp at aw;omega
   clear hst;by_cases he:q.1+q.2=t
   ·have Qu:(q.1+q.2==t)=true:=by simp[he]
    have K2:qz (i++[q]) (t,t2-t)=i++[(q.1,q.2+(t2-t))]:=by
     unfold qz;simp[he]
    have Qz:=aa K2;replace he:=aa he;clear K2;go_wp2;go_quiet (fail);go_wp2
    (refine il 19 Tc3 Tc3 ?_;simp only[xi,iv,cQ,cL];(repeat(go_big_quiet_step (fail)));(with_reducible refine fR ?_);intro wq ia;obtain⟨nq,ia⟩:=ia;subst ia)
    go_wp2;go_roundw
    case rel =>
     refine⟨m+1,Tc1,Tc5,?_,?_⟩
     ·rw[ab.o,Qz.o];refine bM.setLast ?_ _;refine C0.below ?_;exact TbP
     refine Below.setCell ?_ (by exact TR) _;refine hbo.trans ?_;refine kt (B:=wc.1.size) ?_ hbo.size;exact TbP
    simp[intOf];omega
   have Qu:(q.1+q.2==t)=false:=by simp[he]
   have K2:qz (i++[q]) (t,t2-t)=i++[q]++[(t,t2-t)]:=by
    unfold qz;simp[he]
   have Qz:=aa K2;clear K2 he;go_wp2;go_quiet (fail);go_wp2
   (refine uk _ 16 Tc3 rfl rfl Tc3 Tc3 (fun _ _ _ _ h=>h) Td4 ?_;simp only[xi,iv,cQ,cL];(repeat(go_big_quiet_step (fail)));(with_reducible refine fR ?_);intro wq ia;obtain⟨nq,ia⟩:=ia;subst ia)
   go_wp2_with(at_builtin;refine jg rfl _ _ rfl w3.1.size _ (i++[q]) (t,t2-t) rfl ?c1 wc.1.size 1 rfl ?c2 ?c3 Tc6 ?c4 ?_)
   case c1=>refine C0.below ?_;(repeat' (first|exact bj _ _|exact bk _|(refine dT ?_ ?_ _)|(refine aT ?_ _)|(refine gA ?_)|(simp;done)|(simp;omega)))
   try(case c2=>exact aD Tc2 rfl)
   try(case c3=>exact aD Tc2 rfl)
   case c4=>have:=hbo.size;simp;omega
   intro v8 w8 ag ae _;have ao:Below w3.1.size w3 w8:=(hbo.trans TeQ).trans ae;clear ae C0;go_wp2;go_roundw;exact⟨m+1,Tc1,Tc5,by rw[ab.o,Qz.o];first|exact ag|simpa using ag,ao⟩;simp[intOf];omega
 have ak:decide ((m:Int)+1<(P.length:Int))=false:=by simp;omega
 have yq:glue (Gf P f)=o:=by
  have:=ho.o;rw[jz Tc1]at this;exact this.symm
 have gw:=GX P f HP.o.1;rw[yq]at gw;have j9:=aa gw;replace a9:=aa a9;clear yq gw;go_wp2;go_ret;have Ur:iE o fun n=>GN kind (kO a n) (kO b n)=true:=by
  refine⟨j9.o.1,fun n=>(j9.o.2 n).trans ?_⟩;have aC:f=fun t=>GN kind (kO a t) (kO b t):=by
   rw[hf.o];funext t
   rw[Hy a t Zx.o,Hy b t Vn.o]
  rw[aC];refine xD a b (GN kind) (by rcases zE.o with rfl|rfl|rfl<;>rfl) P HP.o.1 (fun r hr=>?_) n;have:=Hu (a++b) r (by rw[oT];exact hr);exact⟨(HP.o.2 _).2 this.1,(HP.o.2 _).2 this.2⟩
 refine⟨_,o,rfl,a7.mono a8.size,Ur,?_,aw,mn a8 hb⟩;unfold dI;rw[eL];intro r hr;have:=a9.o r hr;unfold nT;simp;omega
def Ek(n m:Int):Bool:=decide (1<=n)&&decide (n<=m)
def Dr(r:aY):Bool:=Ek r.Gi 6&&Ek r.Gh 6&&decide (r.Gi*r.Gh<=6)&&Ek r.Gc 4096
def OC(r:aY):Bool:=r.Gg==2||r.Gg==3
def xM(g:af)(r:aY):Bool:=if r.near.toList.isEmpty then !OC r else(aM g.F9 r.near).isSome
def eu(s:ByteArray):Bool:=s.toList.isEmpty||mr s
def yZ(g:af)(r:aY):Int:=if Dr r=false then 1 else if Ek r.Gg 5=false then 17 else if xM g r=false then 12 else if(eu r.tag&&eu r.sep)=false then 2 else 0
def kP(g:af)(r:aY):Int:=if(mchk g).2=0 then yZ g r else(mchk g).2
def uT(n m:Int)(w:World) :
  Calls prog 59 #[.int .i64 n,.int .i64 m] w fun e w'=>e=.returned (.bool (Ek n m))/\w=w':=by
 go_enter func59,ntmps59
 by_cases h1:1<=n
 ·by_cases h2:n<=m
  ·go_wp2;go_ret;exact⟨ah (by simp[Ek,h1,h2]),rfl⟩
  go_wp2;go_ret;exact⟨ah (by simp[Ek,h2]),rfl⟩
 go_wp2;go_ret;exact⟨ah (by rw[Ek,cN (by omega:¬1<=n)];rfl),rfl⟩
def ry(s:ByteArray)(w:World)(hs:s.size<=9223372036854775807):Calls prog 60 #[.string s] w fun e w'=>e=.returned (.bool (mr s))/\Below w.1.size w w':=Af s w hs
def Tal(x0:aY):Tab #[.int .i64 x0.Gi,.int .i64 x0.Gh,.int .i64 x0.Gc,.int .i64 x0.Gg,.string x0.tag,.string x0.near,.string x0.sep]:=⟨⟩
structure jF(w:World)(Bg Br:Nat)(g:af)(a:bN)(r:aY):Prop where
 g:w.heap[Bg]?=some (.cells (Tad g a) 31 (0,0))
 r:w.heap[Br]?=some (.cells (Tal r) 34 (0,0))
def jF.below{a:bN}(h:jF w Bg Br g a r)(hb:Below w.1.size w w'):jF w' Bg Br g a r :=
 ⟨(hb.block _ (aq h.g)).trans h.g,(hb.block _ (aq h.r)).trans h.r⟩
def jF.gc{a:bN}(h:jF w Bg Br g a r)(i:Nat)(z:Value)(hz:[.string g.name,.int .u64 g.id,.int .i64 g.seq,.int .i64 g.Gd,.int .i64 g.next,.slice a.tp g.tags.length a.tc,.slice a.dp g.Gb.length a.dc,.slice a.vp g.F9.length a.vc,.slice a.hp g.history.length a.hc][i]?=some z):w.cell? (Bg,i)=some z:=by
 simp only[AN,h.g];simpa using hz
def jF.rc{a:bN}(h:jF w Bg Br g a r)(i:Nat)(z:Value)(hz:[.int .i64 r.Gi,.int .i64 r.Gh,.int .i64 r.Gc,.int .i64 r.Gg,.string r.tag,.string r.near,.string r.sep][i]?=some z):w.cell? (Br,i)=some z:=by
 simp only[AN,h.r];simpa using hz
def FY(n:Int)(w:World)(e:Ending)(w':World):Prop:=e=.returned (.int .i64 n)/\Below w.1.size w w'
noncomputable def gF(g:af)(r:aY):List ByteArray:=if r.near.toList.isEmpty then [] else sP g r.near
def kR(g:af)(l:List ByteArray):List ByteArray:=l.flatMap fun nm=>((bH g.Gb nm).getD gT).tags
def jV(d:az):Bool:=!d.closed&&!d.missing
def jG(tag:ByteArray)(d:az):Bool:=tag.toList.isEmpty||bI d.tags tag
def nN(near:List ByteArray)(p:Int)(d:az):Bool:=!(p==2)||bI near d.name
def vE(near tags:List ByteArray)(p:Int)(d:az):Bool:=!(p==3)||(bI near d.name||d.tags.any (bI tags))
def iD(near tags:List ByteArray)(r:aY)(d:az):Bool:=jV d&&(jG r.tag d&&(nN near r.Gg d&&vE near tags r.Gg d))
noncomputable def nD(g:af)(r:aY)(d:az):Bool:=iD (gF g r) (kR g (gF g r)) r d
def xy(g:af)(d:az)(n:Int):Prop:=(0<=n/\n<d.Gc)/\¬Mem (fM d.name d.Gc (pieces g.F9)) n
def qN(s:aB):List (ByteArray × Int):=s.Ga.map fun a=>(a.on,a.start+iB s.kind s.length s.Ga.length)
def oZ(l:List aB):List (ByteArray × Int):=match l.getLast? with
 |some s=>if s.kind=1\/s.kind=2 then qN s else []
 |none=>[]
def jE(g:af)(nm:ByteArray):List (ByteArray × Int):=oZ ((aM g.F9 nm).getD eY).Gf
def su(nm:ByteArray)(e:ByteArray × Int)(x:List (Int × Int)):List (Int × Int):=x.filterMap fun r=>if e.1=nm/\r.1<=e.2/\e.2<r.1+r.2 then some (e.2,r.1+r.2-e.2) else none
def mQ(ends:List (ByteArray × Int))(nm:ByteArray)(x:List (Int × Int)):List (Int × Int):=ends.flatMap fun e=>su nm e x
def uM(r:aY):Bool:=r.Gg==1&&!r.near.toList.isEmpty
def kI(g:af)(r:aY)(d:az)(n:Int):Prop:=nD g r d=true/\if uM r=true then ∃x,iE x (xy g d)/\Mem (mQ (jE g r.near) d.name x) n else xy g d n
def CY{e:ByteArray × Int}(h:p∈su nm e x):e.1=nm/\p.1=e.2/\∃r∈x,r.1<=e.2/\e.2<r.1+r.2/\p.2=r.1+r.2-e.2:=by
 obtain⟨r,hr,hp⟩:=List.mem_filterMap.1 h;split at hp
 ·rename_i c;injection hp with hp;subst hp;exact⟨c.1,rfl,r,hr,c.2.1,c.2.2,rfl⟩
 cases hp
def Dl(h:p∈mQ ends nm x):∃e∈ends,e.1=nm/\p.1=e.2/\∃r∈x,r.1<=e.2/\e.2<r.1+r.2/\p.2=r.1+r.2-e.2:=by
 obtain⟨e,he,hp⟩:=BY.1 h;exact⟨e,he,CY hp⟩
def Iq(h:Mem (mQ ends nm x) n):Mem x n:=by
 obtain⟨p,hp,h1,h2⟩:=h;obtain⟨e,-,-,h3,r,hr,h4,h5,h6⟩:=Dl hp;exact⟨r,hr,Tc1,Tc1⟩
def xS(h:∀p∈x,0<=p.1/\1<=p.2/\p.1+p.2<=1073741824):dI (mQ ends nm x)=true:=by
 unfold dI;rw[eL];intro p hp;obtain⟨e,-,-,h3,r,hr,h4,h5,h6⟩:=Dl hp;have:=h r hr;simp only[nT,eh,fk];omega
def wT(nm:ByteArray)(e:ByteArray × Int)(x:List (Int × Int)):(su nm e x).length<=x.length:=List.length_filterMap_le _ _
def Dj(ends:List (ByteArray × Int))(nm:ByteArray)(x:List (Int × Int)):(mQ ends nm x).length<=ends.length*x.length:=lY _ _ _ fun e _=>wT nm e x
def Cc(s:aB):(qN s).length<=s.Ga.length:=by
 unfold qN;rw[fW];exact bk _
def mem_of_getLast? :∀ {l:List α} {x:α},l.getLast?=some x->x∈l
 |[],_,h=>by cases h
 |a :: l,x,h=>by
  rw[List.getLast?_eq_getElem?]at h;exact ct h
def Bu{l:List aB}{m:Nat}(h:∀s∈l,s.Ga.length<=m):(oZ l).length<=m:=by
 unfold oZ;split
 ·rename_i s hs;split
  ·exact cA (Cc s) (h s (mem_of_getLast? hs))
  simp
 simp
def GG(h:kI g r d n):xy g d n:=by
 obtain⟨-,h⟩:=h;split at h
 ·obtain⟨x,hx,hm⟩:=h;exact(hx.2 n).1 (Iq hm)
 exact h
def D6(h:kP g r=0):(mchk g).2=0/\yZ g r=0:=by
 unfold kP at h;split at h
 ·rename_i hm;exact⟨hm,h⟩
 rename_i hm;exact absurd h hm
def iI(b:Bool)(w:World)(e:Ending)(w':World):Prop:=e=.returned (.bool b)/\Below w.1.size w w'
def Taq(x0:aY)(x1:Nat)(x2:Option Addr)(x3:Nat)(x4:Nat)(x5:Option Addr)(x6:Nat):Tab #[.int .i64 x0.Gi,.int .i64 x0.Gh,.int .i64 x0.Gc,.int .i64 x0.Gg,.string x0.tag,.string x0.near,.string x0.sep,.slice x2 x1 x3,.slice x5 x4 x6]:=⟨⟩
structure BC(w:World)(Bj Bd:Nat)(r:aY)(np jp:Option Addr)(nc jc:Nat)(nl jl:List ByteArray)(d:az)(tp:Option Addr)(tc:Nat):Prop where
 j:w.heap[Bj]?=some (.cells (Taq r nl.length np nc jl.length jp jc) 77 (0,0))
 d:w.heap[Bd]?=some (.cells (Tai d tp tc) 51 (0,0))
def BC.jc{jc:Nat}(h:BC w Bj Bd r np jp nc jc nl jl d tp tc)(i:Nat)(z:Value)(hz:[.int .i64 r.Gi,.int .i64 r.Gh,.int .i64 r.Gc,.int .i64 r.Gg,.string r.tag,.string r.near,.string r.sep,.slice np nl.length nc,.slice jp jl.length jc][i]?=some z):w.cell? (Bj,i)=some z:=by
 simp only[AN,h.j];simpa using hz
def BC.dc{jc:Nat}(h:BC w Bj Bd r np jp nc jc nl jl d tp tc)(i:Nat)(z:Value)(hz:[.string d.name,.int .u64 d.id,.int .i64 d.first,.int .i64 d.Gc,.bool d.closed,.bool d.missing,.slice tp d.tags.length tc][i]?=some z):w.cell? (Bd,i)=some z:=by
 simp only[AN,h.d];simpa using hz
def nM(w:World)(r:aY)(np jp:Option Addr)(nc jc:Nat)(nl jl:List ByteArray)(d:az)(tp:Option Addr)(tc:Nat) :
  BC ((w.alloc (.cells (Taq r nl.length np nc jl.length jp jc) 77)).alloc (.cells (Tai d tp tc) 51)) w.1.size (w.1.size+1) r np jp nc jc nl jl d tp tc /\
   Below w.1.size w ((w.alloc (.cells (Taq r nl.length np nc jl.length jp jc) 77)).alloc (.cells (Tai d tp tc) 51)):=by
 have hA1:=ae w (.cells (Taq r nl.length np nc jl.length jp jc) 77);have hA2:=ae (w.alloc (.cells (Taq r nl.length np nc jl.length jp jc) 77)) (.cells (Tai d tp tc) 51);have RW:=b9 w (.cells (Taq r nl.length np nc jl.length jp jc) 77);have kc:=b9 (w.alloc (.cells (Taq r nl.length np nc jl.length jp jc) 77)) (.cells (Tai d tp tc) 51);rw[cW]at kc;exact⟨⟨(hA2.block _ (aq RW)).trans RW,kc⟩,hA1.trans (hA2.mono hA1.size)⟩
def AX(r:aY)(np jp:Option Addr)(nc jc:Nat)(nl jl:List ByteArray)(d:az)(tp:Option Addr)(tc:Nat)(w:World) :
  Calls prog 28 #[.agg (Taq r nl.length np nc jl.length jp jc),.agg (Tai d tp tc)] w (iI (jV d) w):=by
 obtain⟨hat,hb⟩:=nM w r np jp nc jc nl jl d tp tc;replace hat:=aa hat;replace hb:=aa hb;have HR:Hid (jV d=(!d.closed&&!d.missing)):=aa rfl;go_enter func28,ntmps28
 go_upto_region 1 with(fail);generalize R0:AI (AI w _) _=W1 at *;clear R0;have dL:=hat.o.dc;obtain⟨d0,d1,d2,d3,d4,d5,d6⟩:=se dL;clear dL;cases hc:d.closed with
 |true =>
  rw[hc]at d4 HR;go_wp2;go_ret;exact⟨Tdf,hb.o⟩
 |false =>
  rw[hc]at d4 HR;cases hm:d.missing with
  |true =>
   rw[hm]at d5 HR;go_wp2;go_ret;exact⟨Tdf,hb.o⟩
  |false =>
   rw[hm]at d5 HR;go_wp2;go_ret;exact⟨Tdf,hb.o⟩
def zl{ok:Nat->Prop}(r:aY)(np jp:Option Addr)(nc jc:Nat)(nl jl:List ByteArray)(d:az)(tp:Option Addr)(tc:Nat)(w:World)(ht:ck aF 1 ok w [.slice tp d.tags.length tc] d.tags)(nt:d.tags.length<=1000000) :
  Calls prog 29 #[.agg (Taq r nl.length np nc jl.length jp jc),.agg (Tai d tp tc)] w (iI (jG r.tag d) w):=by
 obtain⟨hat,hb⟩:=nM w r np jp nc jc nl jl d tp tc;replace hat:=aa hat;replace hb:=aa hb;have HT:=aa ((ck.moves aF.moves).mv (Mv.of hb.o) ht);clear ht;have HR:Hid (jG r.tag d=(r.tag.toList.isEmpty||bI d.tags r.tag)):=aa rfl;go_enter func29,ntmps29
 go_upto_region 1 with(fail);generalize R0:AI (AI w _) _=W1 at *;clear R0;have dL:=hat.o.dc;have d6:=dL 6 _ rfl;clear dL;have jL:=hat.o.jc;have j4:=jL 4 _ rfl;clear jL;have HC:=aa (eT d.tags r.tag _ W1 HT.o nt);clear HT;cases PE:r.tag.toList.isEmpty with
 |true =>
  rw[PE]at HR;go_wp2;go_ret;exact⟨Tdf,hb.o⟩
 |false =>
  rw[PE]at HR;go_wp2_with(refine HC.o.mono ?_;rintro e w5 ⟨rfl,rfl⟩)
  go_ret;exact⟨Tdf,hb.o⟩
def yM{ok:Nat->Prop}(r:aY)(np jp:Option Addr)(nc jc:Nat)(nl jl:List ByteArray)(d:az)(tp:Option Addr)(tc:Nat)(w:World)(hn:ck aF 1 ok w [.slice np nl.length nc] nl)(zr:nl.length<=1000000) :
  Calls prog 30 #[.agg (Taq r nl.length np nc jl.length jp jc),.agg (Tai d tp tc)] w (iI (nN nl r.Gg d) w):=by
 obtain⟨hat,hb⟩:=nM w r np jp nc jc nl jl d tp tc;replace hat:=aa hat;replace hb:=aa hb;have HT:=aa ((ck.moves aF.moves).mv (Mv.of hb.o) hn);clear hn;have HR:Hid (nN nl r.Gg d=(!(r.Gg==2)||bI nl d.name)):=aa rfl;go_enter func30,ntmps30
 go_upto_region 1 with(fail);generalize R0:AI (AI w _) _=W1 at *;clear R0;have dL:=hat.o.dc;have d0:=dL 0 _ rfl;clear dL;have jL:=hat.o.jc;have j3:=jL 3 _ rfl;have j7:=jL 7 _ rfl;clear jL;have HC:=aa (eT nl d.name _ W1 HT.o zr);clear HT;cases hp:(r.Gg==2)with
 |false =>
  have a5:(r.Gg != 2)=true:=by simpa[bne]using hp
  rw[hp]at HR;go_wp2;go_ret;exact⟨Tdf,hb.o⟩
 |true =>
  have a5:(r.Gg != 2)=false:=by simpa[bne]using hp
  rw[hp]at HR;go_wp2_with(refine HC.o.mono ?_;rintro e w5 ⟨rfl,rfl⟩)
  go_ret;exact⟨Tdf,hb.o⟩
def Js{ok:Nat->Prop}(x:ByteArray)(Bj:Nat)(jp:Option Addr)(jc:Nat)(jl:List ByteArray)(w:World)(h8:w.cell? (Tac Bj 8)=some (.slice jp jl.length jc))(hj:ck aF 1 ok w [.slice jp jl.length jc] jl)(vt:jl.length<=1000000) :
  Calls prog 67 #[.string x,.pointer (some Bj)] w fun e w'=>e=.returned (.bool (bI jl x))/\w=w':=by
 have HC:=aa (eT jl x _ w hj vt);clear hj;go_enter func67,ntmps67
 go_wp2_with(refine HC.o.mono ?_;rintro e w5 ⟨rfl,rfl⟩)
 go_ret;exact⟨rfl,rfl⟩
def pG{ok:Nat->Prop}(l:List ByteArray)(v:Value)(Bj:Nat)(jp:Option Addr)(jc:Nat)(jl:List ByteArray)(w:World)(h:ck aF 1 ok w [v] l)(hl:l.length<=1000000)(h8:w.cell? (Tac Bj 8)=some (.slice jp jl.length jc))(hj:ck aF 1 ok' w [.slice jp jl.length jc] jl)(vt:jl.length<=1000000) :
  Calls prog 114 #[v,.func (.func 67) #[] #[Bj]] w fun e w'=>(∃r:Int,e=.returned (.int .i64 r)/\decide (0<=r)=l.any (bI jl))/\w=w':=by
 obtain⟨p,cap,rfl,a7,zc⟩:=h.cap;have HH:=aa h;clear h;have HC:=aa (fun x=>Js (ok:=ok') x Bj jp jc jl w h8 hj vt);clear h8 hj vt;go_enter func114,ntmps114;go_wp2
 go_loop[8,5] (fun i _=>∃k:Nat,k<=l.length/\i=.int .i64 k/\(l.take k).any (bI jl)=false) (fun i _=>l.length-(intOf i).toNat)
 exact⟨0,cg _,rfl,rfl⟩;obtain⟨k,hk,rfl,hall⟩:=hrel;have cE:=aa hall;clear hall;by_cases hlt:k<l.length
 ·obtain⟨y,hy⟩:=aj l k hlt;obtain⟨b,off,us,rfl,gR,cX,ez,eE,ON⟩:=HH.o.elem hy;obtain rfl:us=_:=eE;have q0:=ON 0 _ rfl;rw[fp,fg]at q0;have a5:Hid ((l.take (k+1)).any (bI jl)=bI jl y):=aa (by rw[take_snoc' l k y hy,rj,cE.o];simp);have AE:Hid (bI jl y=true->l.any (bI jl)=true):=aa fun h=>Ft.2 ⟨y,ct hy,h⟩;clear hy cE ON ez;have Us:=aa (HC.o y);cases hs:bI jl y with
  |true =>
   rw[hs]at Us;have HR:=aa (AE.o hs);clear hs;go_wp2_with(refine Us.o.mono ?_;rintro e w5 ⟨rfl,rfl⟩)
   go_ret;exact⟨⟨k,rfl,by rw[HR.o];simp⟩,rfl⟩
  |false =>
   rw[hs]at Us;have HR:=aa (a5.o.trans hs);clear hs;go_wp2_with(refine Us.o.mono ?_;rintro e w5 ⟨rfl,rfl⟩)
   go_round;exact⟨k+1,Tc1,Tc5,HR.o⟩;simp[intOf];omega
 exact Tb5
def mg{ok:Nat->Prop}(l:List ByteArray)(v:Value)(Bj:Nat)(jp:Option Addr)(jc:Nat)(jl:List ByteArray)(w:World)(h:ck aF 1 ok w [v] l)(hl:l.length<=1000000)(h8:w.cell? (Tac Bj 8)=some (.slice jp jl.length jc))(hj:ck aF 1 ok' w [.slice jp jl.length jc] jl)(vt:jl.length<=1000000) :
  Calls prog 66 #[v,.func (.func 67) #[] #[Bj]] w fun e w'=>e=.returned (.bool (l.any (bI jl)))/\w=w':=by
 go_enter func66,ntmps66
 go_wp2_with fail;refine(pG (ok:=ok) (ok':=ok') l v Bj jp jc jl w h hl h8 hj vt).mono ?_;exact Tcb
def ym{ok a5:Nat->Prop}(r:aY)(np jp:Option Addr)(nc jc:Nat)(nl jl:List ByteArray)(d:az)(tp:Option Addr)(tc:Nat)(w:World)(hn:ck aF 1 ok w [.slice np nl.length nc] nl)(zr:nl.length<=1000000)(ht:ck aF 1 ok' w [.slice tp d.tags.length tc] d.tags)(nt:d.tags.length<=1000000)(hj:ck aF 1 a5 w [.slice jp jl.length jc] jl)(vt:jl.length<=1000000) :
  Calls prog 31 #[.agg (Taq r nl.length np nc jl.length jp jc),.agg (Tai d tp tc)] w (iI (vE nl jl r.Gg d) w):=by
 obtain⟨hat,hb⟩:=nM w r np jp nc jc nl jl d tp tc;replace hat:=aa hat;replace hb:=aa hb;have HN:=aa ((ck.moves aF.moves).mv (Mv.of hb.o) hn);clear hn;have HT:=aa ((ck.moves aF.moves).mv (Mv.of hb.o) ht);clear ht;have HJ:=aa ((ck.moves aF.moves).mv (Mv.of hb.o) hj);clear hj;have HR:Hid (vE nl jl r.Gg d=(!(r.Gg==3)||(bI nl d.name||d.tags.any (bI jl)))):=aa rfl;go_enter func31,ntmps31
 go_upto_region 1 with(fail);generalize R0:AI (AI w _) _=W1 at *;clear R0;have dL:=hat.o.dc;have d0:=dL 0 _ rfl;have d6:=dL 6 _ rfl;clear dL;have jL:=hat.o.jc;have j3:=jL 3 _ rfl;have j7:=jL 7 _ rfl;have j8:=jL 8 _ rfl;clear jL;have HC:=aa (eT nl d.name _ W1 HN.o zr);have HD:=aa (mg d.tags _ w.1.size jp jc jl W1 HT.o nt j8 HJ.o vt);clear HN HT HJ j8;cases hp:(r.Gg==3)with
 |false =>
  have a7:(r.Gg != 3)=true:=by simpa[bne]using hp
  rw[hp]at HR;go_wp2;go_ret;exact⟨Tdf,hb.o⟩
 |true =>
  have a7:(r.Gg != 3)=false:=by simpa[bne]using hp
  rw[hp]at HR;cases hh:bI nl d.name with
  |true =>
   rw[hh]at HC HR;go_wp2_with(refine HC.o.mono ?_;rintro e w5 ⟨rfl,rfl⟩)
   go_ret;exact⟨Tdf,hb.o⟩
  |false =>
   rw[hh]at HC HR;go_wp2_with(first|(refine HC.o.mono ?_;rintro e w5 ⟨rfl,rfl⟩)|(refine HD.o.mono ?_;rintro e w5 ⟨rfl,rfl⟩))
   go_ret;exact⟨Tdf,hb.o⟩
def iC(B:Nat)(w:World)(v:Value)(l:List aR):Prop:=bF aQ 3 53 B (fun _=>False) w v l
def iC.nil(B:Nat)(w:World):iC B w (.slice none 0 0) []:=⟨[],gS _ _ _ 3,rfl⟩
def iC.keep(h:iC B w v l)(hz:w.1.size<=w'.1.size)(hk:∀k,v.ownBlock=some k->w'.1[k]?=w.1[k]?):iC B w' v l:=by
 obtain⟨cs,ho,hf⟩:=h;exact⟨cs,aC ho hk,Flat.moves aQ.moves ⟨hz,fun b _ f=>f.elim⟩ _ _ hf⟩
def iC.below(h:iC B w v l)(hb:Below w.1.size w w'):iC B w' v l:=by
 exact Tcw
def iC.notSeg(h:iC B w v l)(hk:w.1[k]?=some (.cells cs 114 z)):v.ownBlock≠some k:=fun e=>by
 obtain⟨_,ho,_⟩:=h;rcases ho.2 with⟨rfl,_⟩|⟨g,cap,a5,rfl,_,TK,_⟩
 ·cases e
 obtain rfl:g=k:=by injection e
 rw[hk]at TK;injection TK with TK;injection TK with _ TK _
 cases TK
def iC.ge(h:iC B w v l)(e:v.ownBlock=some k):B<=k/\k<w.1.size:=by
 exact TcI
def iC.mono(h:iC B w v l)(hB:B'<=B):iC B' w v l:=by
 obtain⟨cs,⟨h1,h2⟩,hf⟩:=h;refine⟨cs,⟨h1,?_⟩,hf⟩;exact TcS
def kJ(s:aB)(a:aR):aR:=⟨false,a.on,a.start+iB s.kind s.length s.Ga.length⟩
def rF(Q:Exit->Act->World->Prop){c0 c1 c2 c3 c4 c5 c6 c9 TO W0 St Rr RE RK SO Se Sf To Wg aE Wr ZD UP US ab ao fa dj dq eS fs gE ff fi fb gn iS mx qS qe nF o4 oE oR qk oS pe ph pr pt qv rl rm rn sd sh ta:Value}(w:World)(B Bs Ba:Nat)(ap eN:Option Addr)(ac eR:Nat)(s:aB)(a:aR)(v8:Value)(l:List aR)
  (hB:B<=w.1.size) (Tp:s.Ga.length<=1000) (hll:l.length<=100000) (Of:0<=s.length/\s.length<=1000000) (hst:0<=a.start/\a.start<=1000000)
  (hs:w.1[Bs]?=some (.cells (Tae s ap ac eN eR) 114 (0,0))) (Sr:Ba<w.1.size) (a8:w.cell? (Tac Ba 1)=some (.string a.on)) (a9:w.cell? (Tac Ba 2)=some (.int .i64 a.start))
  (hO:iC B w v8 l)
  (HK:Hid (∀(v':Value) (w':World) (u47 u48 u49 u50 u51 u52 u53 u54 u55 u56 u57:Value),iC B w' v' (l++[kJ s a])->Below B w w'->w'.1[Bs]?=w.1[Bs]?->Q .normal ⟨#[c0,c1,c2,c3,c4,c5,c6,.pointer (some Bs),v',c9,.pointer (some Ba),TO,W0,St,Rr,RE,RK,SO,Se,Sf,To,Wg,aE,Wr,ZD,UP,US,ab,ao,fa,dj,dq,eS,fs,gE,ff,fi,fb,gn,iS,mx,qS,qe,nF,o4,oE,oR,u47,u48,u49,u50,u51,u52,u53,u54,u55,u56,u57,sh,ta],[]⟩ w'))
  (hQ:∀c (a:Act) (d:Tmp) (v:Value) w,Q (.panic c) (a.put (some d) v) w->Q (.panic c) a w) :
  (Ai Tryz.f71 12).wp prog Q ⟨#[c0,c1,c2,c3,c4,c5,c6,.pointer (some Bs),v8,c9,.pointer (some Ba),TO,W0,St,Rr,RE,RK,SO,Se,Sf,To,Wg,aE,Wr,ZD,UP,US,ab,ao,fa,dj,dq,eS,fs,gE,ff,fi,fb,gn,iS,mx,qS,qe,nF,o4,oE,oR,qk,oS,pe,ph,pr,pt,qv,rl,rm,rn,sd,sh,ta],[]⟩ w:=by
 conv=>arg 2;whnf
 have GF:=aq hs;have sL:∀(j:Nat) (z:Value),[.int .i64 s.start,.int .i64 s.length,.int .i64 s.kind,.slice ap s.Ga.length ac,.int .i64 s.chunk,.slice eN s.stale.length eR,.string s.log,.string s.pool,.int .i64 s.device,.int .i64 s.mode,.int .i64 s.done][j]?=some z->∀q:fo,(ext w q).cell? ⟨Bs,j,none⟩=some z:=fun j z hz=>aG GF (by
  simp only[AN,hs];simpa using hz)
 obtain⟨s0,s1,s2,s3,s4,s5,s6,s7,s8,s9,ai⟩:=IC sL;have a1:=aG Sr a8;have a2:=aG Sr a9;replace hO:=aa hO;replace hs:=aa hs;have a5:=Of.1;have a7:=Of.2;have aj:=hst.1;have ak:=hst.2;have av:0<=iB s.kind s.length s.Ga.length:=by
  unfold iB;split
  ·exact lz a5 Tc1
  exact a5
 have aw:iB s.kind s.length s.Ga.length<=1000000:=by
  unfold iB;split
  ·exact Int.le_trans (mS _ a5) a7
  exact a7
 obtain⟨i0,hi,du,On,RC⟩:=gg kL;replace hi:=aa hi;replace du:=aa du;replace On:=aa On;replace RC:=aa RC;have am:Hid (kJ s a=⟨false,a.on,a.start+iB s.kind s.length s.Ga.length⟩):=aa rfl;have Ss:=aa (fun w':World=>ji s.start s.length s.kind s.chunk s.device s.mode s.done ap eN s.Ga.length ac s.stale.length eR s.log s.pool w' a5 Tc1 Tc1);generalize au:iB s.kind s.length s.Ga.length=ex at *;have ay:IntKind.i64.wrap (a.start+ex)=a.start+ex:=dy _ Tc1;clear sL a8 a9 Of hst au;(refine lG _ 8 Tc3 rfl rfl Tc3 Tc3 (fun _ _ _ _ h=>hQ _ _ _ _ _ h) Td4 ?_;simp only[xi,iv,cQ,cL])
 repeat(go_big_quiet_step ((go_at_call 118;exact iH (Ss.o _))))
 with_reducible refine fR ?_
 intro wq ia;have kq:=dY ia;clear ia s0 s1 s2 s3 s4 s5 s6 s7 s8 s9 ai a1 a2 Ss;have af:=hO.o.below kq;have G2:=ae wq (.cells #[false,a.on,.int .i64 (a.start+ex)] 53);have ag:=af.below G2;have ah:=aa ag;have pL:=aa G2;have C1:=aa kq;have PF:=cA hB kq.size;clear af ag G2 kq;go_wp2_with(at_builtin;refine dX aQ.moves underlying49 hi.o du.o On.o RC.o rfl Tc4 Tc4 rfl _ _ rfl B (fun _=>False) v8 l ⟨false,a.on,a.start+ex⟩ rfl ah.o wq.1.size 1 [.bool false,.string a.on,.int .i64 (a.start+ex)] rfl rfl rfl ?d3 ?d4 ?d5 ?d6 (fun _ _ f=>f) ?_)
 all_goals first|(case d3=>(simp[GS]))|(case d4=>(intro j y hy;exact aD rfl Tdl))|(case d5=>omega)|(case d6=>omega)|(case d6=>simp only[cW];omega)|skip
 intro gb cap w3 hp;have CT:∀j,j<w.1.size->v8.ownBlock≠some j->w3.1[j]?=w.1[j]?:=fun j hj hne=>(hp.grown.block j (cC hj (cA C1.o.size pL.o.size)) (fun e=>hne e.symm)).trans ((pL.o.block j (cC hj C1.o.size)).trans (C1.o.block j hj));have jn:Below B w w3:=((C1.o.mono hB).trans (pL.o.mono PF)).grown hp.grown Teg (fun j e=>(ah.o.ge e).1);have hS:=CT Bs GF (hO.o.notSeg hs.o);have Qt:=hp.own;rw[<- am.o]at Qt;have HOW:=aa Qt;have PG:=aa jn;replace hS:=aa hS;clear hp Qt jn CT;go_wp2;exact HK.o _ _ _ _ _ _ _ _ _ _ _ _ _ HOW.o PG.o hS.o
def D7(w:World)(l:List (ByteArray × Int))(e:Ending)(w':World):Prop:=∃v,e=.returned v/\iC w.1.size w' v (l.map fun x=>⟨false,x.1,x.2⟩)/\Below w.1.size w w'
def yg{l:List aB}(h:l=[]):oZ l=[]:=by subst h;rfl
def Dn{l:List aB}(hl:0<l.length)(h:l[l.length-1]?=some s):oZ l=if s.kind=1\/s.kind=2 then qN s else []:=by
 unfold oZ;rw[List.getLast?_eq_getElem?,h]
def Tbk{p:Prop}(h:p:=by
 ·have qT:Hid (jE g nm=[]):=aa (by rw[PH.o,HE.o,bh hk]);have n1:(s.kind != 1)=true:=by simp;exact fun q=>hk (.inl q)
  have n2:(s.kind != 2)=true:=by simp;exact fun q=>hk (.inr q)
  clear hk;go_wp2;go_ret;exact⟨_,rfl,by rw[qT.o];exact iC.nil _ _,eI.o⟩):p:=h
def TbN{p:Prop}(h:p:=by
 cases hf:aM g.F9 nm with
 |none=>simp[eY]
 |some v =>
  have hv:=eV hf;exact⟨(ht v hv).1,fun s hs=>⟨(ht v hv).2 s hs,CH v hv s hs⟩⟩):p:=h
def Te3{p:Prop}(h:p:=by rw[qT.o];unfold qN;rw[List.map_map];rfl):p:=h
def Ta1{p:Prop}(h:p:=by
 go_upto_region 9 with(fail);clear s3;go_loopw[8,40] (fun lv i wr=>∃k:Nat,k<=s.Ga.length/\i=.int .i64 k/\iC W4.1.size wr lv ((s.Ga.take k).map (kJ s))/\Below W4.1.size W4 wr) (fun _ i _=>s.Ga.length-(intOf i).toNat)
 exact⟨0,cg _,rfl,iC.nil _ _,bj _ _⟩;obtain⟨k,hk,rfl,hown,hB⟩:=hrel;have HOW:=aa hown;clear hown;have HB:=aa hB;clear hB;by_cases hlt:k<s.Ga.length
 ·obtain⟨x,hx⟩:=aj s.Ga k hlt;obtain⟨b3,off3,us3,hsp3,B7,PV,pT,Tr,hcv3⟩:=ya.o.elem hx;subst hsp3;obtain rfl:us3=_:=Tr;have Tl:wr.1[b3]?=W4.1[b3]?:=HB.o.block b3 PV;obtain⟨q0,q1,q2⟩:=Mn Tl hcv3;have HTS:Hid ((s.Ga.take (k+1)).map (kJ s)=(s.Ga.take k).map (kJ s)++[kJ s x]):=aa (by rw[take_snoc' s.Ga k x hx,gl];rfl);have pS:=HVL.o x (ct hx);have hst:=sY.o x (ct hx);clear hx hcv3 pT Tl;rw[pS]at q0;have mA:=HB.o.size;have hA:=ae wr (.cells (TaB x) 53);have yb:=aa (b9 wr (.cells (TaB x) 53));have cm:=aa (HB.o.trans (hA.mono mA));have HOW2:=aa (HOW.o.below hA);clear hA;go_upto_region 11 with(fail);clear q0 q1 q2;generalize hW5:World.alloc wr _=W5 at *;generalize hBa:wr.1.size=Ba at *;clear hW5 HB HOW;obtain⟨a0,a1,a2⟩:=sv3 (cr yb.o);go_upto_region 12 with(fail);refine rF _ W5 W4.1.size Bs Ba (some ⟨b3,off3,none⟩) eN ac eR s x _ _ cm.o.size Tp (by rw[fW,ey];omega) HLN.o hst ((cm.o.block _ (aq lj.o)).trans lj.o) (aq yb.o) a1 a2 HOW2.o (aa ?_) ?hQ
  case hQ=>exact fun _ _ _ _ _ h=>h
  intro v' w' u47 u48 u49 u50 u51 u52 u53 u54 u55 u56 u57 ho' hb' hs';have HO':=aa ho';clear ho';have Ks:=aa (cm.o.trans hb');clear hb' hs' a0 a1 a2;go_wp2;go_roundw;exact⟨k+1,Tc1,Tc5,by rw[HTS.o];exact HO'.o,Ks.o⟩;simp[intOf];omega
 obtain rfl:k=s.Ga.length:=by omega
 rw[cI]at HOW;have HE3:Hid ((jE g nm).map (fun x=>(⟨false,x.1,x.2⟩:aR))=s.Ga.map (kJ s)):=aa Te3;go_wp2;go_ret;exact⟨_,rfl,by rw[HE3.o];exact HOW.o.mono Zu.o,eI.o.trans (HB.o.mono Zu.o)⟩):p:=h
def Tcs{p:Prop}(h:p:=by
 rcases hk with q|q
 ·exact .inl (by simp[q])
 exact .inr ⟨by simp[q],by simp[q]⟩):p:=h
def TeA{p:Prop}(h:p:=by rw[PH.o,HE.o];exact iC.nil _ _):p:=h
def Cr{ok:Nat->Prop}(g:af)(a:bN)(nm:ByteArray)(w:World)(hr:ck aN 6 ok w [.slice a.vp g.F9.length a.vc] g.F9)(hz:JT g)(ht:qx g.F9)(CH:∀v∈g.F9,∀s∈v.Gf,fP s->∀a∈s.Ga,0<=a.start/\a.start<=1000000) :
  Calls prog 71 #[.agg (Tad g a),.string nm] w (D7 w (jE g nm)):=by
 replace hr:=aa hr;replace hz:=aa hz;have hA1:=ae w (.cells (Tad g a) 31);replace hA1:=aa hA1;have CN:=aa (b9 w (.cells (Tad g a) 31));have gL:=cr CN.o;go_enter func71,ntmps71
 go_upto_region 1 with(fail);generalize R0:AI w _=W1 at *;obtain⟨g0,g1,g2,g3,g4,g5,g6,g7,g8⟩:=xr gL;clear gL R0;have Uz:=aa (fA (ok:=fun b=>ok b/\b<w.1.size) g a nm W1 ((ck.moves aN.moves).mv ⟨hA1.o.size,fun b hb ho=>⟨⟨ho,hb⟩,hA1.o.block b hb⟩⟩ hr.o) hz.o.vl hz.o.vz);go_wp2_with fail;clear g0 g1 g2 g3 g4 g5 g6 g7 g8;refine Uz.o.mono ?_;clear Uz;rintro e w2 ⟨u,rfl,sA,hb2⟩;have eE:((aM g.F9 nm).getD eY).Gf.length<=1000/\∀s∈((aM g.F9 nm).getD eY).Gf,((0<=s.length/\s.length<=1000000)/\s.Ga.length<=1000/\(fP s->∀a∈s.Ga,a.vol=false))/\(fP s->∀a∈s.Ga,0<=a.start/\a.start<=1000000):=by
  exact TbN
 have XU:=aa eE.2;have mb:=eE.1;have PH:Hid (jE g nm=oZ ((aM g.F9 nm).getD eY).Gf):=aa rfl;generalize (aM g.F9 nm).isSome=YW at *;generalize hv:(aM g.F9 nm).getD eY=v at *;have cm:=Zbl hA1 hb2;obtain⟨tv,sv,rfl,ew,fL⟩:=sA;obtain⟨tp,tc,rfl,_,_⟩:=ew.cap;obtain⟨sp,sc,rfl,a5,a7⟩:=fL.cap;clear ew hb2 hv eE ht CH;have hA:=ae w2 (.cells (Tah v tp tc sp sc) 68);have zv:=aa (b9 w2 (.cells (Tah v tp tc sp sc) 68));have cJ:=Zbl cm hA;have Zv:=aa ((ck.moves bC.moves).mv (Mv.of hA) fL);clear fL hA cm;go_upto_region 2 with(fail);generalize a8:AI w2 _=W3 at *;generalize ah:w2.1.size=Bv at *;clear a8;have v5:=cr zv.o 5 _ rfl;by_cases h0:v.Gf.length=0
 ·have HE:Hid (oZ v.Gf=[]):=aa (yg (fX h0));go_wp2;go_ret;exact⟨_,rfl,TeA,cJ.o⟩
 obtain⟨s,hs⟩:=aj v.Gf (v.Gf.length-1) Tc1;have HE:=aa (Dn Tc1 hs);obtain⟨b,off,us,qt,gR,cX,ez,eE,ON⟩:=Zv.o.elem hs;subst qt;have Su:=aa (XU.o s (ct hs));obtain⟨av,Oz,rfl,mC,hst⟩:=eE;obtain⟨ap,ac,rfl,_,_⟩:=mC.cap;obtain⟨eN,eR,rfl,_,_⟩:=hst.cap;have cT:W3.1[b]?=W3.1[b]?:=rfl;obtain⟨q0,q1,q2,q3,q4,q5,q6,q7,q8,q9,a9⟩:=ak5 cT ON;have YX:((v.Gf.length:Int)-1)=((v.Gf.length-1:Nat):Int):=by omega
 clear hs ON ez cT hst XU;have hA:=ae W3 (.cells (Tae s ap ac eN eR) 114);have lj:=aa (b9 W3 (.cells (Tae s ap ac eN eR) 114));have eI:=Zbl cJ hA;have ya:=aa ((ck.moves aQ.moves).mv (Mv.of hA) mC);clear mC hA cJ;go_upto_region 4 with(fail);go_upto_region 5 with(fail);generalize ab:AI W3 _=W4 at *;generalize ai:W3.1.size=Bs at *;clear ab q0 q1 q2 q3 q4 q5 q6 q7 q8 q9 a9 v5;have s2:=cr lj.o 2 _ rfl;have s3:=cr lj.o 3 _ rfl;by_cases hk:s.kind=1\/s.kind=2
 ·have qT:Hid (jE g nm=qN s):=aa (by rw[PH.o,HE.o,aw hk]);have G0:fP s:=by rcases hk with q|q;exact .inl q;exact .inr (.inl q)
  have HVL:=aa (Su.o.1.2.2 G0);have sY:=aa (Su.o.2 G0);have Tp:=Su.o.1.2.1;have HLN:=aa Su.o.1.1;clear HE PH Su G0;have ag:∃P:Prop,P:=⟨True,trivial⟩
  have key:(s.kind != 1)=false\/((s.kind != 1)=true/\(s.kind != 2)=false):=by
   exact Tcs
  clear hk ag;have Zu:Hid (w.1.size<=W4.1.size):=aa eI.o.size;rcases key with n1|⟨n1,n2⟩
  ·go_upto_region 8 with(fail);clear n1 s2;exact Ta1
  go_upto_region 8 with(fail);clear n1 n2 s2;exact Ta1
 exact Tbk
def EX:(prog.info? 43).map (fun i=>(i.zero,i.size,i.bytes))=some (some (.slice none 0 0),1,24):=by kernel_rfl
def bM.ne{l:List (Int × Int)}{t:TypeId}(h:bM w B v l)(hb:w.1[b]?=some (.cells cs t z))(ht:t≠55):v.ownBlock≠some b:=fun e=>by
 obtain⟨-,h2⟩:=h;rcases h2 with⟨rfl,_⟩|⟨g,cap,a5,rfl,_,hg,_⟩
 ·cases e
 have:g=b:=by simpa[Value.ownBlock]using e
 subst this;rw[hb]at hg;injection hg with hg;injection hg with _ e2;exact ht e2
def bM.blk{l:List (Int × Int)}(h:bM w B v l)(hk:∀k,v.ownBlock=some k->w'.1[k]?=w.1[k]?):bM w' B v l:=aC h hk
def bM.slice{l:List (Int × Int)}(h:bM w B v l):∃p n c,v=.slice p n c:=by
 obtain⟨-,h2⟩:=h;rcases h2 with⟨rfl,_⟩|⟨g,cap,a5,rfl,_⟩
 ·exact⟨_,_,_,rfl⟩
 exact⟨_,_,_,rfl⟩
def fH(w:World)(B:Nat)(v:Value)(xs:List (List (Int × Int))):Prop :=
 ∃vs:List Value,w.ownsRow B 43 1 v xs.length vs/\vs.length=xs.length/\∀(i:Nat) (u:Value) (x:List (Int × Int)),vs[i]?=some u->xs[i]?=some x->bM w B u x
def fH.nil(w:World)(B:Nat):fH w B (.slice none 0 0) []:=⟨[],gS w B _ 1,rfl,fun i u x h=>by cases h⟩
def fH.blk(h:fH w B v xs)(hk:∀k,B<=k->k<w.1.size->w'.1[k]?=w.1[k]?):fH w' B v xs:=by
 obtain⟨vs,h1,h2,h3⟩:=h;refine⟨vs,aC h1 fun k e=>hk k (fh h1 k e).1 (fh h1 k e).2,h2,fun i u x hu hx=>?_⟩;have ho:=h3 i u x hu hx;exact ho.blk fun k e=>hk k (fh ho k e).1 (fh ho k e).2
def fH.below(h:fH w B v xs)(hb:Below w.1.size w w'):fH w' B v xs:=h.blk fun k _ hk=>hb.block k hk
def Tbp{p:Prop}(h:p:=by
 obtain⟨vs,⟨h0,h1⟩,h2,h3⟩:=h;refine⟨vs,⟨h0,?_⟩,h2,fun i u x hu hx=>(h3 i u x hu hx).mono hB⟩;rcases h1 with hn|⟨g,cap,cur,hv,pC,r⟩
 ·exact .inl hn
 exact .inr ⟨g,cap,cur,hv,Tc1,r⟩):p:=h
def fH.mono(h:fH w B v xs)(hB:B'<=B):fH w B' v xs:=by
 exact Tbp
def Tbq{p:Prop}(h:p:=by
 obtain⟨vs,⟨h0,h1⟩,h2,h3⟩:=h;rcases h1 with⟨rfl,hn⟩|⟨g,cap,cur,rfl,pC,hg,vr,hcm,r⟩
 ·exact⟨none,0,by rw[hn],Tc1,Tc1⟩
 exact⟨_,cap,rfl,vr,Tdj⟩):p:=h
def fH.cap(h:fH w B v xs):∃p c,v=.slice p xs.length c/\xs.length<=c/\c<=9223372036854775807:=by
 exact Tbq
def Ta8{p:Prop}(h:p:=by
 obtain⟨vs,⟨h0,h1⟩,h2,h3⟩:=h;have hk:=(List.getElem?_eq_some_iff.1 hx).1;rcases h1 with⟨hv,hn⟩|⟨g,cap,cur,hv,pC,hg,vr,hcm,hcs,ht⟩
 ·omega
 injection hv with e1 _ e3;subst e1;obtain⟨u,hu⟩:=aj vs k Tc1;refine⟨g,u,rfl,pC,(Array.getElem?_eq_some_iff.1 hg).1,?_,h3 k u x hu hx⟩;have hu':=hu;rw[<- ht,ri Tc1]at hu';rw[cell_of_row w g k cur _ (0,0) hg];simpa using hu'):p:=h
def fH.at{p:Option Addr}{n c:Nat}(h:fH w B (.slice p n c) xs)(hx:xs[k]?=some x) :
  ∃b u,p=some ⟨b,0,none⟩/\B<=b/\b<w.1.size/\w.cell? ⟨b,k,none⟩=some u/\bM w B u x:=by
 exact Ta8
def iA{o:Oper}(a8:o.guard=none)(s x:Operand)
  (ho:o.op=.call { callee:=.builtin .append,args:=#[s,x],argTypes:=#[38,38] })
  (B:Nat) (v:Value) (xs:List (List (Int × Int))) (u:Value) (l:List (Int × Int)) (hs:a.eval s=v) (a7:fH w B v xs) (hu:bM w B u l) (g c:Nat) (hx:a.eval x=.slice (some g) 1 c)
  (hc:w.cell? g=some u) (hl:xs.length<=100000000) (hB:B<=w.1.size)
  (h:∀v' w',fH w' B v' (xs++[l])->Below B w w'->(∀(b:Nat) (cs:Array Value) (t:TypeId) (z:Nat × Nat),w.1[b]?=some (.cells cs t z)->t≠43->w'.1[b]?=w.1[b]?)->wpList prog ops Q rest (a.put o.dst v') w'):wpList prog ops Q (o :: rest) a w:=by
 obtain⟨i0,hi,du,On,RC⟩:=gg EX;obtain⟨vs,h1,h2,h3⟩:=a7;obtain⟨pu,nu,cu,rfl⟩:=hu.slice;refine tE w a8 s x 38 ho B 43 i0 _ 1 24 underlying38 hi du On RC rfl Tc4 v xs.length vs hs h1 ⟨g,0,none⟩ 1 c [.slice pu nu cu] hx rfl (fun j y hy=>?_) Tdc Tda Tc1 hB (fun v' w' a9 hg _=>?_)
 ·rw[iz,eJ]
  match j,hy with
  |0,hy =>
   obtain rfl:Value.slice pu nu cu=y:=by simpa using hy
   exact hc
 have YY:∀(b:Nat) (cs:Array Value) (t:TypeId) (z:Nat × Nat),w.1[b]?=some (.cells cs t z)->t≠43->w'.1[b]?=w.1[b]?:=fun b cs t z hb ht=>by
  refine hg.block b (aq hb) fun e=>?_;rcases h1.2 with⟨rfl,_⟩|⟨g',cap,aa,rfl,_,a5,_⟩
  ·cases e
  have:g'=b:=by simpa[Value.ownBlock]using e.symm
  subst this;rw[hb]at a5;injection a5 with a5;injection a5 with _ e2;exact ht e2
 have CT:∀(y:Value) (m:List (Int × Int)),bM w B y m->bM w' B y m:=fun y m hy=>by
  refine hy.blk fun k e=>?_;rcases hy.2 with⟨rfl,_⟩|⟨g',cap,aa,rfl,_,a5,_⟩
  ·cases e
  have:g'=k:=by simpa[Value.ownBlock]using e
  subst this;exact YY _ _ _ _ a5 Tc4
 refine h v' w' ⟨vs++[.slice pu nu cu],by rw[cD];exact a9,by rw[cD,cD,h2];rfl,fun i y m hy hm=>?_⟩ ((bj B w).grown hg hB (fun k hk=>(fh h1 k hk).1)) YY;by_cases hi:i<xs.length
 ·rw[Fo Tc1]at hy hm;exact CT y m (h3 i y m hy hm)
 rw[Cp Tc1]at hy hm;rw[h2]at hy
 match hj:i-xs.length,hy,hm with
 |0,hy,hm =>
  obtain rfl:Value.slice pu nu cu=y:=by simpa using hy
  obtain rfl:l=m:=by simpa using hm
  exact CT _ _ hu
 |j+1,hy,hm=>simp at hm
structure kF(w:World)(Bj Bd:Nat)(r:aY)(np jp:Option Addr)(nc jc:Nat)(nl jl:List ByteArray)(d:az)(tp:Option Addr)(tc:Nat):Prop where
 at':BC w Bj Bd r np jp nc jc nl jl d tp tc
 n:ck aF 1 (fun _=>True) w [.slice np nl.length nc] nl
 j:ck aF 1 (fun _=>True) w [.slice jp jl.length jc] jl
 t:ck aF 1 (fun _=>True) w [.slice tp d.tags.length tc] d.tags
def gI{V:jx α}(hV:Moves V){sz:Nat}{vs:List Value}{l:List α}(h:ck V sz (fun _=>True) w vs l)(hb:Below w.1.size w w'):ck V sz (fun _=>True) w' vs l :=
 (ck.moves hV).mv ⟨hb.size,fun b h1 _=>⟨trivial,hb.block b h1⟩⟩ h
def kF.below{jc:Nat}(h:kF w Bj Bd r np jp nc jc nl jl d tp tc)(hb:Below w.1.size w w'):kF w' Bj Bd r np jp nc jc nl jl d tp tc :=
 ⟨⟨(hb.block _ (aq h.at'.j)).trans h.at'.j,(hb.block _ (aq h.at'.d)).trans h.at'.d⟩,gI aF.moves h.n hb,gI aF.moves h.j hb,gI aF.moves h.t hb⟩
def lH(near tags:List ByteArray)(r:aY)(d:az):Nat->Bool
 |0=>jV d
 |1=>jG r.tag d
 |2=>nN near r.Gg d
 |_=>vE near tags r.Gg d
def Ak:Nat->FuncId
 |0=>28
 |1=>29
 |2=>30
 |_=>31
def nI{jc:Nat}(h:kF w Bj Bd r np jp nc jc nl jl d tp tc)(zr:nl.length<=1000000)(vt:jl.length<=1000000)(nt:d.tags.length<=1000000)(k:Nat) :
  Calls prog (Ak k) #[.agg (Taq r nl.length np nc jl.length jp jc),.agg (Tai d tp tc)] w (iI (lH nl jl r d k) w):=by
 match k with
 |0=>exact AX r np jp nc jc nl jl d tp tc w
 |1=>exact zl r np jp nc jc nl jl d tp tc w h.t nt
 |2=>exact yM r np jp nc jc nl jl d tp tc w h.n zr
 |_+3=>exact ym r np jp nc jc nl jl d tp tc w h.n zr h.t nt h.j vt
def Tb3{p:Prop}(h:p:=by
 go_enter func33,ntmps33
 go_wp2_with(refine HC.o.mono ?_;rintro e w5 ⟨rfl,hb5⟩)
 go_ret;exact⟨rfl,hb5⟩):p:=h
def Dz{jc:Nat}(h:kF w Bj Bd r np jp nc jc nl jl d tp tc)(zr:nl.length<=1000000)(vt:jl.length<=1000000)(nt:d.tags.length<=1000000) :
  Calls prog 33 #[.func (.func 28) #[] #[],.pointer (some Bj),.pointer (some Bd)] w (iI (!jV d) w):=by
 have HC:Hid (Calls prog 28 #[.agg (Taq r nl.length np nc jl.length jp jc),.agg (Tai d tp tc)] w (iI (jV d) w)):=aa (nI h zr vt nt 0);have dL:=h.at'.dc;obtain⟨d0,d1,d2,d3,d4,d5,d6⟩:=se dL;have jL:=h.at'.jc;obtain⟨j0,j1,j2,j3,j4,j5,j6,j7,j8⟩:=xr jL;clear dL jL h;generalize jV d=c at *;exact Tb3
def Cv{jc:Nat}(h:kF w Bj Bd r np jp nc jc nl jl d tp tc)(zr:nl.length<=1000000)(vt:jl.length<=1000000)(nt:d.tags.length<=1000000) :
  Calls prog 33 #[.func (.func 29) #[] #[],.pointer (some Bj),.pointer (some Bd)] w (iI (!jG r.tag d) w):=by
 have HC:Hid (Calls prog 29 #[.agg (Taq r nl.length np nc jl.length jp jc),.agg (Tai d tp tc)] w (iI (jG r.tag d) w)):=aa (nI h zr vt nt 1);have dL:=h.at'.dc;obtain⟨d0,d1,d2,d3,d4,d5,d6⟩:=se dL;have jL:=h.at'.jc;obtain⟨j0,j1,j2,j3,j4,j5,j6,j7,j8⟩:=xr jL;clear dL jL h;generalize jG r.tag d=c at *;exact Tb3
def CB{jc:Nat}(h:kF w Bj Bd r np jp nc jc nl jl d tp tc)(zr:nl.length<=1000000)(vt:jl.length<=1000000)(nt:d.tags.length<=1000000) :
  Calls prog 33 #[.func (.func 30) #[] #[],.pointer (some Bj),.pointer (some Bd)] w (iI (!nN nl r.Gg d) w):=by
 have HC:Hid (Calls prog 30 #[.agg (Taq r nl.length np nc jl.length jp jc),.agg (Tai d tp tc)] w (iI (nN nl r.Gg d) w)):=aa (nI h zr vt nt 2);have dL:=h.at'.dc;obtain⟨d0,d1,d2,d3,d4,d5,d6⟩:=se dL;have jL:=h.at'.jc;obtain⟨j0,j1,j2,j3,j4,j5,j6,j7,j8⟩:=xr jL;clear dL jL h;generalize nN nl r.Gg d=c at *;exact Tb3
def Dm{jc:Nat}(h:kF w Bj Bd r np jp nc jc nl jl d tp tc)(zr:nl.length<=1000000)(vt:jl.length<=1000000)(nt:d.tags.length<=1000000) :
  Calls prog 33 #[.func (.func 31) #[] #[],.pointer (some Bj),.pointer (some Bd)] w (iI (!vE nl jl r.Gg d) w):=by
 have HC:Hid (Calls prog 31 #[.agg (Taq r nl.length np nc jl.length jp jc),.agg (Tai d tp tc)] w (iI (vE nl jl r.Gg d) w)):=aa (nI h zr vt nt 3);have dL:=h.at'.dc;obtain⟨d0,d1,d2,d3,d4,d5,d6⟩:=se dL;have jL:=h.at'.jc;obtain⟨j0,j1,j2,j3,j4,j5,j6,j7,j8⟩:=xr jL;clear dL jL h;generalize vE nl jl r.Gg d=c at *;exact Tb3
def EF{jc:Nat}(h:kF w Bj Bd r np jp nc jc nl jl d tp tc)(zr:nl.length<=1000000)(vt:jl.length<=1000000)(nt:d.tags.length<=1000000)(k:Nat) :
  Calls prog 33 #[.func (.func (Ak k)) #[] #[],.pointer (some Bj),.pointer (some Bd)] w (iI (!lH nl jl r d k) w):=by
 match k with
 |0=>exact Dz h zr vt nt
 |1=>exact Cv h zr vt nt
 |2=>exact CB h zr vt nt
 |_+3=>exact Dm h zr vt nt
def qd(w:World)(b:Nat):Prop:=w.1[b]?=some (.cells #[.func (.func 28) #[] #[],.func (.func 29) #[] #[],.func (.func 30) #[] #[],.func (.func 31) #[] #[]] 81 (0,0))
def C9(h:qd w b)(k:Nat)(hk:k<4):w.cell? (b,k)=some (.func (.func (Ak k)) #[] #[]):=by
 have h:w.1[b]?=_:=h;rcases(show k=0\/k=1\/k=2\/k=3 by omega)with rfl|rfl|rfl|rfl<;>(simp only[AN,h];rfl)
def sH{jc:Nat}(h:kF w Bj Bd r np jp nc jc nl jl d tp tc)(a5:qd w b)(zr:nl.length<=1000000)(vt:jl.length<=1000000)(nt:d.tags.length<=1000000) :
  Calls prog 68 #[.slice (some b) 4 4,.func (.func 33) #[] #[Bj,Bd]] w
   fun e w'=>(∃q:Int,e=.returned (.int .i64 q)/\decide (0<=q)=!iD nl jl r d)/\Below w.1.size w w':=by
 have HH:=aa h;clear h;replace a5:=aa a5;have HU:Hid (iD nl jl r d=(lH nl jl r d 0&&(lH nl jl r d 1&&(lH nl jl r d 2&&lH nl jl r d 3)))):=aa rfl;go_enter func68,ntmps68;go_wp2
 go_loopw[8,5] (fun i _ wr=>∃k:Nat,k<=4/\i=.int .i64 k/\Below w.1.size w wr/\∀j,j<k->lH nl jl r d j=true) (fun i _ _=>4-(intOf i).toNat)
 exact⟨0,cg _,rfl,bj _ _,fun j hj=>absurd hj Tc1⟩;obtain⟨k,hk,rfl,hB,hall⟩:=hrel;replace hall:=aa hall;replace hB:=aa hB;by_cases hlt:k<4
 ·have q0:=(hB.o.cell (p:=⟨b,k,none⟩) (aq a5.o)).trans (C9 a5.o k hlt);have HA:=aa (EF (HH.o.below hB.o) zr vt nt k);have a7:Hid (lH nl jl r d k=false->iD nl jl r d=false):=aa fun hf=>by
   rw[HU.o];rcases(show k=0\/k=1\/k=2\/k=3 by omega)with rfl|rfl|rfl|rfl<;>rw[hf]<;>simp
  generalize Ak k=F at *;cases hc:lH nl jl r d k with
  |false =>
   rw[hc]at HA;have HR:=aa (a7.o hc);clear hc;go_wp2_with(refine HA.o.mono ?_;rintro e w5 ⟨rfl,hb5⟩)
   go_ret;exact⟨⟨k,rfl,by rw[HR.o];simp⟩,hB.o.trans (hb5.mono hB.o.size)⟩
  |true =>
   rw[hc]at HA;have HR:Hid (∀j,j<k+1->lH nl jl r d j=true):=aa fun j hj=>by
    by_cases e:j=k
    ·rw[e];exact hc
    exact hall.o j Tc1
   clear hc;go_wp2_with(refine HA.o.mono ?_;rintro e w5 ⟨rfl,hb5⟩)
   have eK:=Zbl hB hb5;go_roundw;exact⟨k+1,Tc1,Tc5,eK.o,HR.o⟩;simp[intOf];omega
 obtain rfl:k=4:=by omega
 have HR:Hid (iD nl jl r d=true):=aa (by rw[HU.o,hall.o 0 Tc1,hall.o 1 Tc1,hall.o 2 Tc1,hall.o 3 Tc1];rfl);go_wp2;go_ret;exact⟨⟨-1,rfl,Tdf⟩,hB.o⟩
def oD{jc:Nat}(h:kF w Bj Bd r np jp nc jc nl jl d tp tc)(a5:qd w b)(zr:nl.length<=1000000)(vt:jl.length<=1000000)(nt:d.tags.length<=1000000) :
  Calls prog 32 #[.slice (some b) 4 4,.func (.func 33) #[] #[Bj,Bd]] w (iI (!iD nl jl r d) w):=by
 go_enter func32,ntmps32
 go_wp2_with fail;refine(sH h a5 zr vt nt).mono ?_;rintro e w2 ⟨⟨q,rfl,hr2⟩,hb2⟩;exact TcV
end Go.Proofs.YtaagglbgohjldaaGreatDoor
