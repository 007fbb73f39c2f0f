/- Lemmas. -/
import Derived.Test.YtaagglbgohjldaaGreatDoorQk10
import Derived.Lib.LazyBuf
set_option maxRecDepth 100000
set_option maxHeartbeats 32000000
set_option linter.all false
open Option renaming getD_some→L2
open List renaming mem_flatMap→BY,getElem?_eq_some_iff→AT,map_singleton→L7,mem_map→As,all_eq_true→An,mem_filter→DP,any_eq_true→Ft,mem_cons→F1,pairwise_iff_getElem→It
open Array renaming replicate→GO,getElem?_eq_some_iff→DS
open Go.World renaming alloc→AI,cell?→AN,frozen?→BT,setCell→AF
open Go.Value renaming oneCell'→GS
namespace Go.Proofs.YtaagglbgohjldaaGreatDoor
open Go.Proofs.Tryz
open Go.RowKit
variable {ps:List gy}{nm:ByteArray}{d:az}
def lh(d:az):List (Int × Int):=[(0,max d.Gc 0)]
def bM.one{w:World}{b:Nat}{p:Int × Int}(B:Nat)(hB:B<=b)(h:w.1[b]?=some (.cells #[.int .i64 p.1,.int .i64 p.2] 55 (0,0))):xo w (.slice (some b) 1 1) [p] :=
 ⟨_,1,rfl,Tc2,Tc1,fun _=>⟨b,0,rfl,aq h,fun i q hq=>by
  match i,hq with
  |0,hq =>
   obtain rfl:p=q:=by simpa using hq
   exact⟨cr h _ _ rfl,cr h _ _ rfl⟩
  |i+1,hq=>simp at hq⟩⟩
def IP(d:az)(tp:Option Addr)(tc:Nat)(w:World) :
  Calls prog 97 #[.agg (Tai d tp tc)] w fun e w'=>∃v,e=.returned v/\xo w' v (lh d)/\Below w.1.size w w':=by
 have hA:=ae w (.cells (Tai d tp tc) 51);have sX:=aa (b9 w (.cells (Tai d tp tc) 51));replace hA:=aa hA;have HW:Hid (lh d=[(0,max d.Gc 0)]):=aa rfl;go_enter func97,ntmps97
 go_upto_region 1 with(fail);generalize R0:AI w _=W1 at *;have Ks:=hA;clear R0 hA;have d3:=cr sX.o 3 _ rfl;by_cases h:0<=d.Gc
 ·have hm:max d.Gc 0=d.Gc:=by omega
  rw[hm]at HW;go_wp2;go_ret;exact⟨_,rfl,by rw[HW.o];exact bM.one (p:=(0,d.Gc)) 0 (cg _) (b9 W1 _),Ks.o.alloc Ks.o.size _⟩
 have hm:max d.Gc 0=0:=by omega
 rw[hm]at HW;go_wp2;go_ret;exact⟨_,rfl,by rw[HW.o];exact bM.one (p:=(0,0)) 0 (cg _) (b9 W1 _),Ks.o.alloc Ks.o.size _⟩
def tC(nm:ByteArray)(ps:List gy):List (Int × Int):=ps.filterMap fun p=>if p.disk=nm then some (p.start,p.len) else none
def L9(nm:ByteArray){k:Nat}{x:gy}(h:ps[k]?=some x):tC nm (ps.take (k+1))=tC nm (ps.take k)++if x.disk=nm then [(x.start,x.len)] else []:=by
 rw[take_snoc' ps k x h];unfold tC;rw[E0];congr 1
 by_cases c:x.disk=nm
 ·rw[aw c];simp[c]
 rw[bh c,List.filterMap_cons,bh c];rfl
def MX(nm:ByteArray)(ps:List gy):(tC nm ps).length<=ps.length:=List.length_filterMap_le _ _
def JS{q:Int × Int}(h:q∈tC nm ps):∃p∈ps,p.disk=nm/\q=(p.start,p.len):=by
 obtain⟨p,hp,e⟩:=List.mem_filterMap.1 h;split at e
 ·rename_i c;exact⟨p,hp,c,(gj e).symm⟩
 cases e
def MF(hs:∀p∈ps,0<=p.start/\p.start<=1000000)(hl:∀p∈ps,0<=p.len/\p.len<=1000000):dI (tC nm ps)=true:=by
 unfold dI;rw[eL];intro q hq;obtain⟨p,hp,_,rfl⟩:=JS hq;have:=hs p hp;have:=hl p hp;simp only[nT,eh,fk];omega
def LW{ext:Int}(hs:∀p∈ps,0<=p.start)(n:Int):(Mem (tC nm ps) n/\(0<=n/\n<ext))↔Mem (fM nm ext ps) n:=by
 constructor
 ·rintro⟨⟨q,hq,q1,q2⟩,h0,h1⟩;obtain⟨p,hp,hd,rfl⟩:=JS hq;have:=hs p hp;dsimp only at q1 q2;refine⟨(p.start,min p.len (ext-p.start)),List.mem_filterMap.2 ⟨p,hp,aw ⟨hd,Tc1,Tc1,Tc1⟩⟩,q1,?_⟩;dsimp only;omega
 rintro⟨q,hq,q1,q2⟩;obtain⟨p,hp,e⟩:=List.mem_filterMap.1 hq;split at e
 ·rename_i c;obtain rfl:=gj e;dsimp only at q1 q2;exact⟨⟨(p.start,p.len),List.mem_filterMap.2 ⟨p,hp,aw c.1⟩,q1,Tc8⟩,Tc1,Tc1⟩
 cases e
def Ec(h:0<=d.Gc)(n:Int):Mem (lh d) n↔0<=n/\n<d.Gc:=by
 unfold lh;rw[ko];dsimp only;omega
def Et(h:0<=d.Gc/\d.Gc<=1000000):dI (lh d)=true:=by
 simp only[lh,dI,List.all_cons,List.all_nil,Bool.and_true,nT,eh,fk];omega
def lZ(Gb:List az)(S:az->Int->Prop)(N:Nat)(nm:ByteArray)(w:World)(e:Ending)(w':World):Prop:=match bH Gb nm with
 |none=>e=.returned (.tuple #[.slice none 0 0,.int .i64 12])/\Below w.1.size w w'
 |some d=>∃v x,e=.returned (.tuple #[v,.int .i64 0])/\bM w' w.1.size v x/\iE x (S d)/\dI x=true/\x.length<=N/\Below w.1.size w w'
def LV{ok:Nat->Prop}(g:af)(a:bN)(nm:ByteArray)(w:World)(hr:ck aO 7 ok w [.slice a.dp g.Gb.length a.dc] g.Gb)(hd:g.Gb.length<=1000)(vu:∀D∈g.Gb,0<=D.Gc/\D.Gc<=1000000)
  (hv:ck aN 6 ok w [.slice a.vp g.F9.length a.vc] g.F9) (mb:g.F9.length<=1000) (ht:qx g.F9) (CH:∀p∈pieces g.F9,0<=p.start/\p.start<=1000000) (a8:∀p∈pieces g.F9,0<=p.len/\p.len<=1000000) (aC:(pieces g.F9).length<=100000) :
  Calls prog 96 #[.agg (Tad g a),.string nm] w (lZ g.Gb (fun d n=>Mem (fM nm d.Gc (pieces g.F9)) n) 200002 nm w):=by
 replace hr:=aa hr;replace hv:=aa hv;replace ht:=aa ht;replace CH:=aa CH;replace a8:=aa a8;have kj:=aa vu;clear vu;have rB:=aa (ae w (.cells (Tad g a) 31));have CN:=aa (b9 w (.cells (Tad g a) 31));have gL:=cr CN.o;go_enter func96,ntmps96
 go_upto_region 1 with(fail);generalize R0:AI w _=W1 at *;obtain⟨g0,g1,g2,g3,g4,g5,g6,g7,g8⟩:=xr gL;clear gL R0;have ak:=aa (GK (ok:=ok) g a nm W1 ((ck.moves aO.moves).mv (Mv.of rB.o) hr.o) Tc1);go_wp2_with fail;clear g0 g1 g2 g3 g4 g5 g6 g7 g8;refine ak.o.mono ?_;clear ak;rintro e w2 ⟨u,k,rfl,Qw,XQ,hb2⟩;have cm:=Zbl rB hb2;have pH:=Zbk hb2 CN;obtain⟨tv,rfl,ew⟩:=Qw;obtain⟨tp,tc,rfl,_,_⟩:=ew.cap;clear ew hb2;cases hf:bH g.Gb nm with
 |none =>
  rw[hf]at XQ;have hk0:k<0:=by simpa using XQ
  have a9:Hid (∀e' w',lZ g.Gb (fun d n=>Mem (fM nm d.Gc (pieces g.F9)) n) 200002 nm w e' w'=(e'=.returned (.tuple #[.slice none 0 0,.int .i64 12])/\Below w.1.size w w')):=aa fun e' w'=>by unfold lZ;rw[hf]
  simp only[Option.getD_none];clear hf XQ;generalize gT=d at *;have hA:=ae w2 (.cells (Tai d tp tc) 51);have cJ:=Zbl cm hA;clear hA;go_wp2;go_ret2;rw[a9.o];exact⟨rfl,cJ.o⟩
 |some d =>
  rw[hf]at XQ;have hk0:¬k<0:=by simpa using XQ
  have a9:Hid (∀e' w',lZ g.Gb (fun d n=>Mem (fM nm d.Gc (pieces g.F9)) n) 200002 nm w e' w'=(∃v x,e'=.returned (.tuple #[v,.int .i64 0])/\bM w' w.1.size v x/\iE x (fun n=>Mem (fM nm d.Gc (pieces g.F9)) n)/\dI x=true/\x.length<=200002/\Below w.1.size w w')):=aa fun e' w'=>by unfold lZ;rw[hf]
  have vu:=kj.o d (eV hf);replace vu:=aa vu;simp only[L2];clear hf XQ;have hA:=ae w2 (.cells (Tai d tp tc) 51);have sX:=aa (b9 w2 (.cells (Tai d tp tc) 51));have cJ:=Zbl cm hA;have LS:=Zbk hA pH;clear hA cm pH;go_upto_region 5 with(fail);generalize aE:AI w2 _=W3 at *;generalize aJ:w2.1.size=Bd at *;clear aE;have gL:=cr LS.o;obtain⟨g0,g1,g2,g3,g4,g5,g6,g7,g8⟩:=xr gL;clear gL;have SB:=aa (Hg (ok:=ok) g.name g.id g.seq g.Gd g.next a.tp a.dp a.vp a.hp g.tags.length a.tc g.Gb.length a.dc a.vc g.history.length a.hc g.F9 W3 ((ck.moves aN.moves).mv (Mv.of cJ.o) hv.o) mb ht.o aC);go_wp2_with fail;clear g0 g1 g2 g3 g4 g5 g6 g7 g8;refine SB.o.mono ?_;clear SB;rintro e w4 ⟨pv,rfl,am,ab⟩;have kf:ck Gt 4 (fun _=>True) w4 [pv] (pieces g.F9):=am.rd Gt.moves Tc4 (fun _ _ _=>trivial) (fun _ _=>trivial);have eI:=Zbl cJ ab;have ao:=Zbk ab sX;clear am ab;obtain⟨pp,pc,rfl,Wl,Wm⟩:=kf.cap;replace kf:=aa kf;have ag:=eI.o.size;go_upto_region 7 with(fail);go_loopw[8,10] (fun lv i wr=>∃k:Nat,k<=(pieces g.F9).length/\i=.int .i64 k/\bM wr w4.1.size lv (tC nm ((pieces g.F9).take k))/\Below w4.1.size w4 wr) (fun _ i _=>(pieces g.F9).length-(intOf i).toNat)
  exact⟨0,cg _,rfl,bM.nil _ _,bj _ _⟩;obtain⟨m,hm,rfl,a5,hB⟩:=hrel;replace a5:=aa a5;replace hB:=aa hB;have hbl:=MX nm ((pieces g.F9).take m);rw[ey]at hbl;have aF:=hB.o.size;by_cases hlt:m<(pieces g.F9).length
  ·obtain⟨x,hx⟩:=aj (pieces g.F9) m hlt;obtain⟨b,off,us,qt,gR,cX,ez,eE,ON⟩:=kf.o.elem hx;subst qt;obtain rfl:us=_:=eE;have cT:=hB.o.block b cX;obtain⟨q0,q1,q2,q3⟩:=sw4 cT ON;have QY:=aa (L9 nm hx);clear hx ON ez cT;by_cases pD:x.disk=nm
   ·have e1:(x.disk.toList==nm.toList)=true:=by rw[pD];simp
    rw[aw pD]at QY;clear pD;go_wp2_with(at_builtin;refine jg rfl _ _ rfl w4.1.size _ (tC nm ((pieces g.F9).take m)) (x.start,x.len) rfl ?c1 wr.1.size 1 rfl ?c2 ?c3 ?c4 ?c5 ?_)
    case c1=>exact a5.o.below (ae _ _)
    all_goals first|(case c2=>exact aD rfl rfl)|(case c3=>exact aD rfl rfl)|(case c4=>omega)|(case c5=>simp;omega)|skip
    intro v' w6 OR au _;have Tq:=aa ((hB.o.alloc aF _).trans au);replace OR:=aa OR;clear au;go_wp2;go_roundw;exact⟨m+1,Tc1,Tc5,by rw[QY.o];exact OR.o,Tq.o⟩;simp[intOf];omega
   have e1:=jI pD;rw[bh pD,eM]at QY;clear pD;go_wp2;go_roundw;exact⟨m+1,Tc1,Tc5,by rw[QY.o];exact a5.o,hB.o⟩;simp[intOf];omega
  obtain rfl:m=(pieces g.F9).length:=by omega
  rw[cI]at a5 hbl;have pB:=(hB.o.block _ (aq ao.o)).trans ao.o;have dL:=cr pB;obtain⟨d0,d1,d2,d3,d4,d5,d6⟩:=se dL;clear dL pB;have fy:Hid (Below w.1.size w wr):=aa (eI.o.trans (hB.o.mono ag));have av:=aa (IP d tp tc wr);go_wp2_with fail;clear d0 d1 d2 d3 d4 d5 d6;refine av.o.mono ?_;clear av;rintro e w7 ⟨v7,rfl,ay,tb⟩;have wk:=Zbl fy tb;have az:=aa (Gn (tC nm (pieces g.F9)) (lh d) 2 (.inr (.inr rfl)) _ v7 w7 (a5.o.below tb).rd ay (MF CH.o a8.o) (Et vu.o) Tc1 (by simp[lh]));obtain⟨p7,c7,rfl,_,_,_⟩:=ay;have a7:=wk.o.size;clear tb;go_wp2_with fail;refine az.o.mono ?_;clear az;rintro e w8 ⟨v8,x8,rfl,aA,ah,ai,aG,aB⟩;have aH:=aa (aA.mono a7);clear aA;replace ah:=aa ah;replace ai:=aa ai;have Ix:=aa (wk.o.trans (aB.mono a7));clear aB;have aI:x8.length<=200002:=by simp only[lh,cS,Ox]at aG;omega
  go_wp2;go_ret2;rw[a9.o];refine⟨v8,x8,rfl,aH.o,ah.o.congr fun n=>?_,ai.o,aI,Ix.o⟩;rw[<- LW (fun p hp=>(CH.o p hp).1) n];have hw:=Ec vu.o.1 n;simp only[GN,show ¬(2:Int)=0 by omega,show ¬(2:Int)=1 by omega,fY,eh,fe,hw]
def MB{ok:Nat->Prop}(g:af)(a:bN)(nm:ByteArray)(w:World)(hr:ck aO 7 ok w [.slice a.dp g.Gb.length a.dc] g.Gb)(hd:g.Gb.length<=1000)(vu:∀D∈g.Gb,0<=D.Gc/\D.Gc<=1000000)
  (hv:ck aN 6 ok w [.slice a.vp g.F9.length a.vc] g.F9) (mb:g.F9.length<=1000) (ht:qx g.F9) (CH:∀p∈pieces g.F9,0<=p.start/\p.start<=1000000) (ag:∀p∈pieces g.F9,0<=p.len/\p.len<=1000000) (au:(pieces g.F9).length<=100000) :
  Calls prog 50 #[.agg (Tad g a),.string nm] w (lZ g.Gb (fun d n=>(0<=n/\n<d.Gc)/\¬Mem (fM nm d.Gc (pieces g.F9)) n) 400006 nm w):=by
 replace hr:=aa hr;replace hv:=aa hv;have kj:=aa vu;have rB:=aa (ae w (.cells (Tad g a) 31));have CN:=aa (b9 w (.cells (Tad g a) 31));have gL:=cr CN.o;go_enter func50,ntmps50
 go_upto_region 1 with(fail);generalize R0:AI w _=W1 at *;obtain⟨g0,g1,g2,g3,g4,g5,g6,g7,g8⟩:=xr gL;clear gL R0;have ah:=aa (LV (ok:=ok) g a nm W1 ((ck.moves aO.moves).mv (Mv.of rB.o) hr.o) hd vu ((ck.moves aN.moves).mv (Mv.of rB.o) hv.o) mb ht CH ag au);clear vu ht CH ag;go_wp2_with fail;clear g0 g1 g2 g3 g4 g5 g6 g7 g8;refine ah.o.mono ?_;clear ah;intro e w2 hu;unfold lZ at hu;cases hf:bH g.Gb nm with
 |none =>
  rw[hf]at hu;obtain⟨rfl,hb2⟩:=hu;have a7:Hid (∀e' w',lZ g.Gb (fun d n=>(0<=n/\n<d.Gc)/\¬Mem (fM nm d.Gc (pieces g.F9)) n) 400006 nm w e' w'=(e'=.returned (.tuple #[.slice none 0 0,.int .i64 12])/\Below w.1.size w w')):=aa fun e' w'=>by unfold lZ;rw[hf]
  have cm:=Zbl rB hb2;clear hf hb2;go_wp2;go_ret2;rw[a7.o];exact⟨rfl,cm.o⟩
 |some d =>
  rw[hf]at hu;obtain⟨v,x,rfl,OA,UM,I2,vh,hb2⟩:=hu;have a7:Hid (∀e' w',lZ g.Gb (fun d n=>(0<=n/\n<d.Gc)/\¬Mem (fM nm d.Gc (pieces g.F9)) n) 400006 nm w e' w'=(∃v x,e'=.returned (.tuple #[v,.int .i64 0])/\bM w' w.1.size v x/\iE x (fun n=>(0<=n/\n<d.Gc)/\¬Mem (fM nm d.Gc (pieces g.F9)) n)/\dI x=true/\x.length<=400006/\Below w.1.size w w')):=aa fun e' w'=>by unfold lZ;rw[hf]
  have vu:=kj.o d (eV hf);replace vu:=aa vu;replace OA:=aa OA;replace UM:=aa UM;replace I2:=aa I2;have cm:=Zbl rB hb2;have pH:=Zbk hb2 CN;obtain⟨px,cx,rfl,_,_,_⟩:=OA.o.rd;clear hb2;have gL:=cr pH.o;obtain⟨g0,g1,g2,g3,g4,g5,g6,g7,g8⟩:=xr gL;clear gL;have ai:=aa (GK (ok:=ok) g a nm w2 ((ck.moves aO.moves).mv (Mv.of cm.o) hr.o) Tc1);go_wp2_with fail;clear g0 g1 g2 g3 g4 g5 g6 g7 g8;refine ai.o.mono ?_;clear ai;rintro e w3 ⟨u,k,rfl,Qw,_,hb3⟩;rw[hf]at Qw;clear hf;obtain⟨tv,rfl,ew⟩:=Qw;obtain⟨tp,tc,rfl,_,_⟩:=ew.cap;simp only[L2];have hA:=ae w3 (.cells (Tai d tp tc) 51);have sX:=aa (b9 w3 (.cells (Tai d tp tc) 51));have a8:=hb3.trans (hA.mono hb3.size);have eI:=Zbl cm a8;have av:=aa (OA.o.below a8);clear hA hb3 a8 ew OA;go_upto_region 5 with(fail);generalize aw:AI w3 _=W4 at *;generalize aB:w3.1.size=Bd at *;clear aw;have dL:=cr sX.o;obtain⟨d0,d1,d2,d3,d4,d5,d6⟩:=se dL;clear dL;have aj:=aa (IP d tp tc W4);go_wp2_with fail;clear d0 d1 d2 d3 d4 d5 d6;refine aj.o.mono ?_;clear aj;rintro e w7 ⟨v7,rfl,ak,tb⟩;have wk:=Zbl eI tb;have am:=aa (Gn (lh d) x 1 (.inr (.inl rfl)) v7 _ w7 ak (av.o.below tb).rd (Et vu.o) I2.o (by simp[lh]) Tc1);obtain⟨p7,c7,rfl,_,_,_⟩:=ak;have a5:=wk.o.size;clear tb;go_wp2_with fail;refine am.o.mono ?_;clear am;rintro e w8 ⟨v8,x8,rfl,ao,a9,ab,ay,aq⟩;have az:=aa (ao.mono a5);clear ao;replace a9:=aa a9;replace ab:=aa ab;have Ix:=aa (wk.o.trans (aq.mono a5));clear aq;have aA:x8.length<=400006:=by simp only[lh,cS,Ox]at ay;omega
  go_wp2;go_ret2;rw[a7.o];refine⟨v8,x8,rfl,az.o,a9.o.congr fun n=>?_,ab.o,aA,Ix.o⟩;have hw:=Ec vu.o.1 n;have hx:=UM.o.2 n;simp only[GN,show ¬(1:Int)=0 by omega,fY,ej,eh,tz,fe,hw,Bool.eq_false_iff,ne_eq,hx]
open Go.Maps Go.Shelf
variable {g:af}{r:aY}{k b m:Nat}{W:World}{t:TypeId}{xs:List (List (Int × Int))}{x:List (Int × Int)}{p:Int × Int}
def LJ(Q:Exit->Act->World->Prop){c0 c1 c2 c3 c4 c5 c6 c10 TO W0 St Rr RE RK SO Se Sf To Wg aE Wr ZD UP US ab ao fa dj dq eS fs gE ff fi fb gn iS mx qS qe nF o4 oE oR qk oS pe ph pr pt qv rl rm rn sd sh ta zd zp aj ak am au av aw ay az aA aC a8:Value}(w:World)(B Bs b3 off3 k:Nat)(eN:Option Addr)(ac eR:Nat)(s:aB)(a:aR)(v8:Value)(l:List aR)
  (hB:B<=w.1.size) (Vk:k<s.Ga.length) (Tp:s.Ga.length<=1000) (hll:l.length<=100000) (Of:0<=s.length/\s.length<=1000000) (hst:0<=a.start/\a.start<=1000000)
  (hs:w.1[Bs]?=some (.cells (Tae s (some ⟨b3,off3,none⟩) ac eN eR) 114 (0,0))) (hb3:b3<w.1.size) (a9:w.cell? (b3,off3+k*3+1)=some (.string a.on)) (af:w.cell? (b3,off3+k*3+2)=some (.int .i64 a.start))
  (hO:iC B w v8 l)
  (HK:Hid (∀(v':Value) (w':World) (u53 u54 u55 u56 u57 u58 u59 u60 u61 u62 u63 u64 u65 u66 u67 u68 u69 u70 u71:Value),iC B w' v' (l++[kJ s a])->Below B w w'->w'.1[Bs]?=w.1[Bs]?->Q .normal ⟨#[c0,c1,c2,c3,c4,c5,c6,.pointer (some Bs),v',.int .i64 (k:Int),c10,TO,W0,St,Rr,RE,RK,SO,Se,Sf,To,Wg,aE,Wr,ZD,UP,US,ab,ao,fa,dj,dq,eS,fs,gE,ff,fi,fb,gn,iS,mx,qS,qe,nF,o4,oE,oR,qk,oS,pe,ph,pr,pt,u53,u54,u55,u56,u57,u58,u59,u60,u61,u62,u63,u64,u65,u66,u67,u68,u69,u70,u71,a8],[]⟩ w'))
  (hQ:∀c (a:Act) (d:Tmp) (v:Value) w,Q (.panic c) (a.put (some d) v) w->Q (.panic c) a w) :
  (Ai Tryz.f48 12).wp prog Q ⟨#[c0,c1,c2,c3,c4,c5,c6,.pointer (some Bs),v8,.int .i64 (k:Int),c10,TO,W0,St,Rr,RE,RK,SO,Se,Sf,To,Wg,aE,Wr,ZD,UP,US,ab,ao,fa,dj,dq,eS,fs,gE,ff,fi,fb,gn,iS,mx,qS,qe,nF,o4,oE,oR,qk,oS,pe,ph,pr,pt,qv,rl,rm,rn,sd,sh,ta,zd,zp,aj,ak,am,au,av,aw,ay,az,aA,aC,a8],[]⟩ w:=by
 conv=>arg 2;whnf
 have GF:=aq hs;have sL:∀(j:Nat) (z:Value),[.int .i64 s.start,.int .i64 s.length,.int .i64 s.kind,.slice (some (b3,off3)) s.Ga.length ac,.int .i64 s.chunk,.slice eN s.stale.length eR,.string s.log,.string s.pool,.int .i64 s.device,.int .i64 s.mode,.int .i64 s.done][j]?=some z->∀q:fo,(ext w q).cell? ⟨Bs,j,none⟩=some z:=fun j z hz=>aG GF (by
  simp only[AN,hs];simpa using hz)
 obtain⟨s0,s1,s2,s3,s4,s5,s6,s7,s8,s9,aF⟩:=IC sL;have a1:=aG hb3 a9;have a2:=aG hb3 af;replace hO:=aa hO;replace hs:=aa hs;have a5:=Of.1;have a7:=Of.2;have aH:=hst.1;have aI:=hst.2;have aL:0<=iB s.kind s.length s.Ga.length:=by
  unfold iB;split
  ·exact lz a5 Tc1
  exact a5
 have aM:iB s.kind s.length s.Ga.length<=1000000:=by
  unfold iB;split
  ·exact Int.le_trans (mS _ a5) a7
  exact a7
 obtain⟨i0,hi,du,On,RC⟩:=gg kL;replace hi:=aa hi;replace du:=aa du;replace On:=aa On;replace RC:=aa RC;have aJ:Hid (kJ s a=⟨false,a.on,a.start+iB s.kind s.length s.Ga.length⟩):=aa rfl;have Ss:=aa (fun w':World=>Im s.start s.length s.kind s.chunk s.device s.mode s.done (some ⟨b3,off3,none⟩) eN s.Ga.length ac s.stale.length eR s.log s.pool w' a5 Tc1 Tc1);generalize aK:iB s.kind s.length s.Ga.length=ex at *;have aN:IntKind.i64.wrap (a.start+ex)=a.start+ex:=dy _ Tc1;clear sL a9 af Of hst aK;(refine lG _ 16 Tc3 rfl rfl Tc3 Tc3 (fun _ _ _ _ h=>hQ _ _ _ _ _ h) Td4 ?_;simp only[xi,iv,cQ,cL])
 repeat(go_big_quiet_step ((go_at_call 92;exact iH (Ss.o _))))
 with_reducible refine fR ?_
 intro wq ia;have kq:=dY ia;clear ia s0 s1 s2 s3 s4 s5 s6 s7 s8 s9 aF a1 a2 Ss;have ag:=hO.o.below kq;have G2:=ae wq (.cells #[false,a.on,.int .i64 (a.start+ex)] 53);have ah:=ag.below G2;have ai:=aa ah;have pL:=aa G2;have C1:=aa kq;have PF:=cA hB kq.size;clear ag ah G2 kq;go_wp2_with(at_builtin;refine dX aQ.moves underlying49 hi.o du.o On.o RC.o rfl Tc4 Tc4 rfl _ _ rfl B (fun _=>False) v8 l ⟨false,a.on,a.start+ex⟩ rfl ai.o wq.1.size 1 [.bool false,.string a.on,.int .i64 (a.start+ex)] rfl rfl rfl ?d3 ?d4 ?d5 ?d6 (fun _ _ f=>f) ?_)
 all_goals first|(case d3=>(simp[GS]))|(case d4=>(intro j y hy;exact aD rfl Tdl))|(case d5=>omega)|(case d6=>omega)|(case d6=>simp only[cW];omega)|skip
 intro gb cap w3 hp;have CT:∀j,j<w.1.size->v8.ownBlock≠some j->w3.1[j]?=w.1[j]?:=fun j hj hne=>(hp.grown.block j (cC hj (cA C1.o.size pL.o.size)) (fun e=>hne e.symm)).trans ((pL.o.block j (cC hj C1.o.size)).trans (C1.o.block j hj));have jn:Below B w w3:=((C1.o.mono hB).trans (pL.o.mono PF)).grown hp.grown Teg (fun j e=>(ai.o.ge e).1);have hS:=CT Bs GF (hO.o.notSeg hs.o);have Qt:=hp.own;rw[<- aJ.o]at Qt;have HOW:=aa Qt;have PG:=aa jn;replace hS:=aa hS;clear hp Qt jn CT;go_wp2;exact HK.o _ _ _ _ _ _ _ _ _ _ _ _ _ _ _ _ _ _ _ _ _ HOW.o PG.o hS.o
def Nb{ok:Nat->Prop}(g:af)(a:bN)(nm:ByteArray)(w:World)(hr:ck aN 6 ok w [.slice a.vp g.F9.length a.vc] g.F9)(mb:g.F9.length<=1000000)(ht:qx g.F9)(CH:∀v∈g.F9,∀s∈v.Gf,fP s->∀a∈s.Ga,0<=a.start/\a.start<=1000000) :
  Calls prog 48 #[.agg (Tad g a),.string nm] w (D7 w (jE g nm)):=by
 replace hr:=aa hr;have hA1:=ae w (.cells (Tad g a) 31);replace hA1:=aa hA1;have CN:=aa (b9 w (.cells (Tad g a) 31));have gL:=cr CN.o;go_enter func48,ntmps48
 go_upto_region 1 with(fail);generalize R0:AI w _=W1 at *;obtain⟨g0,g1,g2,g3,g4,g5,g6,g7,g8⟩:=xr gL;clear gL R0;have Uz:=aa (aj7 (ok:=fun b=>ok b/\b<w.1.size) g a nm W1 ((ck.moves aN.moves).mv ⟨hA1.o.size,fun b hb ho=>⟨⟨ho,hb⟩,hA1.o.block b hb⟩⟩ hr.o) mb);go_wp2_with fail;clear g0 g1 g2 g3 g4 g5 g6 g7 g8;refine Uz.o.mono ?_;clear Uz;rintro e w2 ⟨u,kx,rfl,sA,Rn,hb2⟩;have eE:((aM g.F9 nm).getD eY).Gf.length<=1000/\∀s∈((aM g.F9 nm).getD eY).Gf,((0<=s.length/\s.length<=1000000)/\s.Ga.length<=1000/\(fP s->∀a∈s.Ga,a.vol=false))/\(fP s->∀a∈s.Ga,0<=a.start/\a.start<=1000000):=by
  exact TbN
 have XU:=aa eE.2;have mb:=eE.1;have PH:Hid (jE g nm=oZ ((aM g.F9 nm).getD eY).Gf):=aa rfl;have Ty:Hid ((aM g.F9 nm).isSome=false->((aM g.F9 nm).getD eY).Gf.length=0):=aa fun q=>by
  cases hf:aM g.F9 nm with
  |none=>rfl
  |some v=>rw[hf]at q;cases q
 generalize (aM g.F9 nm).isSome=YW at *;generalize hv:(aM g.F9 nm).getD eY=v at *;have cm:=Zbl hA1 hb2;obtain⟨tv,sv,rfl,ew,fL⟩:=sA;obtain⟨tp,tc,rfl,_,_⟩:=ew.cap;obtain⟨sp,sc,rfl,ai,ak⟩:=fL.cap;clear ew hb2 hv eE ht CH;have hA:=ae w2 (.cells (Tah v tp tc sp sc) 68);have zv:=aa (b9 w2 (.cells (Tah v tp tc sp sc) 68));have cJ:=Zbl cm hA;have Zv:=aa ((ck.moves bC.moves).mv (Mv.of hA) fL);clear fL hA cm;go_upto_region 2 with(fail);generalize am:AI w2 _=W3 at *;generalize aB:w2.1.size=Bv at *;clear am;have v5:=cr zv.o 5 _ rfl;by_cases h0:v.Gf.length=0
 ·have HE:Hid (oZ v.Gf=[]):=aa (yg (fX h0));clear Ty Rn;cases ab:decide (kx<0)with
  |true =>
   go_wp2;go_ret;exact⟨_,rfl,TeA,cJ.o⟩
  |false =>
   go_wp2;go_ret;exact⟨_,rfl,TeA,cJ.o⟩
 have ab:decide (kx<0)=false:=by
  rw[Rn];cases YW with
  |true=>rfl
  |false=>exact absurd (Ty.o rfl) h0
 clear Ty Rn;obtain⟨s,hs⟩:=aj v.Gf (v.Gf.length-1) Tc1;have HE:=aa (Dn Tc1 hs);obtain⟨b,off,us,qt,gR,cX,ez,eE,ON⟩:=Zv.o.elem hs;subst qt;have Su:=aa (XU.o s (ct hs));obtain⟨av,Oz,rfl,mC,hst⟩:=eE;obtain⟨ap,ac,rfl,_,_⟩:=mC.cap;obtain⟨eN,eR,rfl,_,_⟩:=hst.cap;have cT:W3.1[b]?=W3.1[b]?:=rfl;obtain⟨q0,q1,q2,q3,q4,q5,q6,q7,q8,q9,ao⟩:=ak5 cT ON;have YX:((v.Gf.length:Int)-1)=((v.Gf.length-1:Nat):Int):=by omega
 clear hs ON ez cT hst XU;have hA:=ae W3 (.cells (Tae s ap ac eN eR) 114);have lj:=aa (b9 W3 (.cells (Tae s ap ac eN eR) 114));have eI:=Zbl cJ hA;have ya:=aa ((ck.moves aQ.moves).mv (Mv.of hA) mC);clear mC hA cJ;go_upto_region 4 with(fail);go_upto_region 5 with(fail);generalize au:AI W3 _=W4 at *;generalize aC:W3.1.size=Bs at *;clear au q0 q1 q2 q3 q4 q5 q6 q7 q8 q9 ao v5;have s2:=cr lj.o 2 _ rfl;by_cases hk:s.kind=1\/s.kind=2
 ·have qT:Hid (jE g nm=qN s):=aa (by rw[PH.o,HE.o,aw hk]);have G0:fP s:=by rcases hk with q|q;exact .inl q;exact .inr (.inl q)
  have HVL:=aa (Su.o.1.2.2 G0);have sY:=aa (Su.o.2 G0);have Tp:=Su.o.1.2.1;have HLN:=aa Su.o.1.1;clear HE PH Su G0;have key:(s.kind != 1)=false\/((s.kind != 1)=true/\(s.kind != 2)=false):=by
   exact Tcs
  clear hk;have Zu:Hid (w.1.size<=W4.1.size):=aa eI.o.size;rcases key with n1|⟨n1,n2⟩<;>(
   (go_upto_region 7 with(fail))
   (try clear n2)
   clear n1 s2 YX ab;(go_upto_region 8 with(fail))
   (go_upto_region 9 with(fail))
   (go_loopw[8,9] (fun lv i wr=>∃k:Nat,k<=s.Ga.length/\i=.int .i64 k/\iC W4.1.size wr lv ((s.Ga.take k).map (kJ s))/\Below W4.1.size W4 wr) (fun _ i _=>s.Ga.length-(intOf i).toNat))
   exact⟨0,cg _,rfl,iC.nil _ _,bj _ _⟩;obtain⟨k,hk,rfl,a5,hB⟩:=hrel;replace a5:=aa a5;replace hB:=aa hB;have ag:=(hB.o.block _ (aq lj.o)).trans lj.o;have s3:=cr ag 3 _ rfl;clear ag;by_cases hlt:k<s.Ga.length
   ·obtain⟨x,hx⟩:=aj s.Ga k hlt;obtain⟨b3,off3,ay,a8,B7,PV,pT,Tr,a7⟩:=ya.o.elem hx;subst a8;obtain rfl:ay=_:=Tr;have Tl:wr.1[b3]?=W4.1[b3]?:=hB.o.block b3 PV;obtain⟨q0,q1,q2⟩:=Mn Tl a7;have HTS:Hid ((s.Ga.take (k+1)).map (kJ s)=(s.Ga.take k).map (kJ s)++[kJ s x]):=aa (by rw[take_snoc' s.Ga k x hx,gl];rfl);have pS:=HVL.o x (ct hx);have hst:=sY.o x (ct hx);clear hx a7 pT Tl;rw[pS]at q0;have mA:=hB.o.size;go_upto_region 11 with(fail);go_upto_region 12 with(fail);clear q0;refine LJ _ wr W4.1.size Bs b3 off3 k eN ac eR s x _ _ mA hlt Tp (by rw[fW,ey];omega) HLN.o hst ((hB.o.block _ (aq lj.o)).trans lj.o) (cC PV mA) q1 q2 a5.o (aa ?_) ?hQ
    case hQ=>exact fun _ _ _ _ _ h=>h
    intro v' w' u53 u54 u55 u56 u57 u58 u59 u60 u61 u62 u63 u64 u65 u66 u67 u68 u69 u70 u71 a9 ah az;replace a9:=aa a9;have Ks:=aa (hB.o.trans ah);clear ah az q1 q2 s3;go_wp2;go_roundw;exact⟨k+1,Tc1,Tc5,by rw[HTS.o];exact a9.o,Ks.o⟩;simp[intOf];omega
   obtain rfl:k=s.Ga.length:=by omega
   rw[cI]at a5;have aA:Hid ((jE g nm).map (fun x=>(⟨false,x.1,x.2⟩:aR))=s.Ga.map (kJ s)):=aa Te3;go_wp2;go_ret;exact⟨_,rfl,by rw[aA.o];exact a5.o.mono Zu.o,eI.o.trans (hB.o.mono Zu.o)⟩)
 exact Tbk
def Jw:∀(x:List (Int × Int)),(∀p∈x,1<=p.2)->(x.length:Int)<=Aw x
 |[],_=>by simp[Aw]
 |p :: x,h=>by
  have h1:=Jw x (fun q hq=>h q (kn _ hq));have h2:=h p cG;simp only[Aw,iu,List.sum_cons,cS]at h1 ⊢;omega
def LH{vs:List ay}(h:qx vs):∀p∈pieces vs,0<=p.len/\p.len<=1000000:=fun p hp=>by
 obtain⟨v,hv,hp⟩:=BY.1 hp;obtain⟨s,hs,hp⟩:=BY.1 hp;obtain⟨_,a,ha,rfl⟩:=gK hp;have h1:=((h v hv).2 s hs).1;have h2:=zV (k:=s.kind) (n:=s.Ga.length) h1.1;exact⟨h2.1,Int.le_trans h2.2 h1.2⟩
def nrL(es:List (ByteArray × Int))(nm:ByteArray)(f:Int × Int):List (Int × Int):=es.flatMap fun e=>if e.1=nm/\e.2=f.1 then [f] else []
def FZ(g:af)(r:aY)(d:az)(y:List (Int × Int)):Prop:=if nD g r d=true then ∃x,iE x (xy g d)/\dI x=true/\y=(if uM r=true then x.flatMap (nrL (jE g r.near) d.name) else x) else y=[]
def RPX(g:af)(r:aY)(ys:List (List (Int × Int))):Prop:=∀(i:Nat) (d:az) (y:List (Int × Int)),g.Gb[i]?=some d->ys[i]?=some y->FZ g r d y/\y.length<=600000
def RPX.snoc{ys:List (List (Int × Int))}{d:az}{y:List (Int × Int)}(h:RPX g r ys)(hd:g.Gb[ys.length]?=some d)(h1:FZ g r d y)(h3:y.length<=600000):RPX g r (ys++[y]):=by
 intro i d' z hd' hz;by_cases hi:i<ys.length
 ·rw[Fo hi]at hz;exact h i d' z hd' hz
 have hl:=(AT.1 hz).1;rw[cD,A4]at hl;obtain rfl:i=ys.length:=by omega
 rw[hd]at hd';obtain rfl:=gj hd';obtain rfl:y=z:=by simpa using hz
 exact⟨h1,h3⟩
def NG{es:List (ByteArray × Int)}{j:Nat}{e:ByteArray × Int}(nm:ByteArray)(f:Int × Int)(h:es[j]?=some e):nrL (es.take (j+1)) nm f=nrL (es.take j) nm f++(if e.1=nm/\e.2=f.1 then [f] else []):=by
 rw[take_snoc' es j e h];simp[nrL]
def Mh(es:List (ByteArray × Int))(nm:ByteArray)(f:Int × Int):(nrL es nm f).length<=es.length*1:=lY _ _ _ fun e _=>by split<;>simp
def NN{α β:Type}{l:List α}{x:α}(f:α->List β)(h:l[k]?=some x):(l.take (k+1)).flatMap f=(l.take k).flatMap f++f x:=by
 rw[take_snoc' l k x h];simp
def NY(g:af)(r:aY)(w:World)(e:Ending)(w':World):Prop:=∃v ys,e=.returned (.tuple #[v,.int .i64 0])/\fH w' w.1.size v ys/\ys.length=g.Gb.length/\RPX g r ys/\Below w.1.size w w'
def Te2{p:Prop}(h:p:=by rw[QY.o];exact HOJ.o.below (aT (bj _ _) _)):p:=h
def Teu{p:Prop}(h:p:=by have:=Zq.o x Uy.o Ux.o;rw[HIN.o]at this;exact this):p:=h
def Teh{p:Prop}(h:p:=by rw[hyl];exact HD.o):p:=h
def A7{ok:Nat->Prop}(g:af)(a:bN)(r:aY)(w:World)(hg:dN ok w g a)(hc:K5 g)(hr:dK r)(hq:yZ g r=0)(h2:¬r.Gg=2)(h3:¬r.Gg=3)(aP:∀p∈pieces g.F9,0<=p.len/\p.len<=1000000) :
  Calls prog 14 #[.agg (Tad g a),.agg (Tal r)] w (NY g r w):=by
 replace hg:=aa hg;have HC:=aa hc;have DG:=aa hc.pf;replace hr:=aa hr;replace hq:=aa hq;replace aP:=aa aP;have HP:=aa (⟨h2,h3⟩:_/\_);clear h2 h3 hc;have hA1:=ae w (.cells (Tad g a) 31);have hA2:=ae (w.alloc (.cells (Tad g a) 31)) (.cells (Tal r) 34);have RW:=b9 w (.cells (Tad g a) 31);have kc:=b9 (w.alloc (.cells (Tad g a) 31)) (.cells (Tal r) 34);rw[cW]at kc;have Fm:Hid (jF ((w.alloc (.cells (Tad g a) 31)).alloc (.cells (Tal r) 34)) w.1.size (w.1.size+1) g a r):=aa ⟨(hA2.block _ (aq RW)).trans RW,kc⟩;have cU:=aa (hA1.trans (hA2.mono hA1.size));clear hA1 hA2 RW kc;go_enter func14,ntmps14
 go_upto_region 1 with(fail);generalize R0:AI (AI w _) _=W1 at *;generalize Rz:w.1.size+1=Br at *;generalize TJ:w.1.size=Bg at *;have Tm:Hid (Below w.1.size w W1):=aa Tek;clear R0 cU;have gL:=Fm.o.gc;obtain⟨g0,g1,g2,g3,g4,g5,g6,g7,g8⟩:=xr gL;have rL:=Fm.o.rc;obtain⟨r0,r1,r2,r3,r4,r5,r6⟩:=se rL;clear gL rL;have SB:=Jt (ok:=ok) g a r W1 (hg.o.mv (Mv.of Tm.o)) HC.o hr.o;rw[hq.o]at SB;replace SB:=aa SB;go_wp2_with fail;clear g0 g1 g2 g3 g4 g5 g6 g7 g8 r0 r1 r2 r3 r4 r5 r6;refine SB.o.mono ?_;clear SB;rintro e w2 ⟨rfl,hb2⟩;have cm:=Zbl Tm hb2;have aJ:=aa (Fm.o.below hb2);clear hb2 Tm Fm;have gL:=aJ.o.gc;obtain⟨g0,g1,g2,g3,g4,g5,g6,g7,g8⟩:=xr gL;have r5:=aJ.o.rc 5 _ rfl;clear gL;have Sv:=aa (Nb (ok:=ok) g a r.near w2 ((hg.o.mv (Mv.of cm.o)).F9) TeN DG.o.tm DG.o.st);go_wp2_with fail;clear g0 g1 g2 g3 g4 g5 g6 g7 g8 r5;refine Sv.o.mono ?_;clear Sv;rintro e w3 ⟨ev,rfl,aZ,hb3⟩;have PH:Hid ((jE g r.near).length<=10):=aa (by
  refine cA (Bu (m:=6) ?_) Tc1;cases hf:aM g.F9 r.near with
  |none=>intro s hs;simp[eY]at hs
  |some v=>exact fun s hs=>DG.o.a6 v (eV hf) s hs)
 have kf:ck aQ 3 (fun _=>True) w3 [ev] ((jE g r.near).map fun x=>⟨false,x.1,x.2⟩):=bF.rd aQ.moves aZ Tc4 (fun _ _ _=>trivial) (fun _ _=>trivial);clear aZ;have cJ:=Zbl cm hb3;have C6:=aa (aJ.o.below hb3);clear hb3 cm aJ;generalize hE:jE g r.near=E at *;replace hE:=aa hE;obtain⟨ep,ec,rfl,WH,bK⟩:=kf.cap;replace kf:=aa kf;rw[fW]at WH ⊢;have Vh:=PH.o;have g6:=C6.o.gc 6 _ rfl;go_upto_region 7 with(fail);clear g6;have Wt:Hid (ck aO 7 (fun b=>b<w.1.size) w3 [.slice a.dp g.Gb.length a.dc] g.Gb):=aa ((hg.o.mv (ok':=fun b=>b<w.1.size) ⟨cJ.o.size,fun b hb _=>⟨hb,cJ.o.block b hb⟩⟩).Gb);have ux:Hid (dN (fun b=>b<w.1.size) w3 g a):=aa (hg.o.mv (ok':=fun b=>b<w.1.size) ⟨cJ.o.size,fun b hb _=>⟨hb,cJ.o.block b hb⟩⟩);have CD:=DG.o.dl;have az:=cJ.o.size;go_loopw[8,9] (fun ov i wr=>∃m:Nat,m<=g.Gb.length/\i=.int .i64 m/\Below w3.1.size w3 wr/\∃ys,fH wr w3.1.size ov ys/\ys.length=m/\RPX g r ys) (fun _ i _=>g.Gb.length-(intOf i).toNat)
 exact⟨0,cg _,rfl,bj _ _,[],fH.nil _ _,rfl,fun i d x _ h=>by cases h⟩;obtain⟨m,hm,rfl,hB,ys,a9,hyl,Uv⟩:=hrel;replace hB:=aa hB;replace a9:=aa a9;replace Uv:=aa Uv;have bL:=hB.o.size;have PJ:=aa (C6.o.below hB.o);have g6:=PJ.o.gc 6 _ rfl;by_cases hlt:m<g.Gb.length
 ·obtain⟨d,hd⟩:=aj g.Gb m hlt;obtain⟨b,off,us,qt,gR,cX,ez,eE,ON⟩:=Wt.o.elem hd;obtain⟨tv,rfl,ew⟩:=eE;obtain⟨tp,tc,rfl,_,_⟩:=ew.cap;have cT:wr.1[b]?=w3.1[b]?:=hB.o.block b cX;have bO:=DG.o.dt d (ct hd);have kj:=aa (DG.o.de d (ct hd));have WU:=aa (DG.o.df m d hd);have HD:=aa hd;clear hd;rw[qt]at g6;clear qt;obtain⟨q0,q1,q2,q3,q4,q5,q6⟩:=OD cT ON;clear ON ez cT;have hA:=ae wr (.cells (Tai d tp tc) 51);have sX:=aa (b9 wr (.cells (Tai d tp tc) 51));have aK:=hB.o.trans (hA.mono hB.o.size);have J1:=aa aK;have aA:=aa (a9.o.below hA);have aL:=aa (PJ.o.below hA);have Hx:Hid (ck aF 1 (fun _=>True) (wr.alloc (.cells (Tai d tp tc) 51)) [.slice tp d.tags.length tc] d.tags):=aa ((ck.moves aF.moves).mv ⟨aK.size,fun b hb _=>⟨trivial,aK.block b hb⟩⟩ ew);clear hA aK ew a9 hB PJ;go_upto_region 10 with(fail);clear q0 q1 q2 q3 q4 q5 q6 g6;generalize bg:AI wr _=W9 at *;generalize bP:wr.1.size=Bd at *;clear bg;have gL:=aL.o.gc;obtain⟨g0,g1,g2,g3,g4,g5,g6,g7,g8⟩:=xr gL;have rL:=aL.o.rc;obtain⟨r0,r1,r2,r3,r4,r5,r6⟩:=se rL;have dL:=mi sX.o;obtain⟨d0,d1,d2,d3,d4,d5,d6⟩:=se dL;clear gL rL dL;have b8:=aa (DC g a r d tp tc W9 Hx.o Tc1 HP.o.1 HP.o.2);go_wp2_with fail;clear g0 g1 g2 g3 g4 g5 g6 g7 g8 r0 r1 r2 r3 r4 r5 r6 d0 d1 d2 d3 d4 d5 d6;refine b8.o.mono ?_;clear b8 Hx;rintro e aS ⟨rfl,ag⟩;have Ax:=Zbl J1 ag;have ah:=aa (aA.o.below ag);have aU:=Zbk ag sX;have L3:=aa (aL.o.below ag);have ai:=Ax.o.size;clear ag J1 aA sX aL;have gL:=L3.o.gc;have ak:dN (fun b=>b<w.1.size) aS g a:=ux.o.mv ⟨Ax.o.size,fun b hb ho=>⟨ho,Ax.o.block b hb⟩⟩;have SJ:=aa (MB (ok:=fun b=>b<w.1.size) g a d.name aS ak.Gb Tc1 (fun D hD=>by have:=DG.o.de D hD;omega) ak.F9 TeN DG.o.tm (fun p hp=>by have:=DG.o.ps p hp;omega) aP.o (by have:=DG.o.pn;omega));clear ak;cases Uw:nD g r d with
  |false =>
   have Zq:Hid (FZ g r d []):=aa (by unfold FZ;rw[Uw,bh Tc2]);clear Uw gL;go_wp2_with(at_builtin;refine iA rfl _ _ rfl w3.1.size _ ys (.slice none 0 0) [] rfl ?c1 ?c2 aS.1.size 1 rfl ?c3 ?c4 ?c5 ?_)
   all_goals first|(case c1=>exact ah.o.below (ae _ _))|(case c2=>exact bM.nil _ _)|(case c3=>exact aD rfl rfl)|(case c4=>omega)|(case c5=>simp;omega)|skip
   intro v' ab OR sE _;have C7:=aa ((Ax.o.alloc ai _).trans sE);have a5:=aa OR;clear OR sE;go_wp2;go_roundw;exact⟨m+1,Tc1,Tc5,C7.o,_,a5.o,by simp[hyl],Uv.o.snoc Teh Zq.o Tc2⟩;simp[intOf];omega
  |true =>
   have Zq:Hid (∀x,iE x (xy g d)->dI x=true->FZ g r d (if uM r=true then x.flatMap (nrL E d.name) else x)):=aa fun x h1 h2=>by unfold FZ;rw[Uw,aw rfl,hE.o];exact⟨x,h1,h2,rfl⟩
   clear Uw;obtain⟨g0,g1,g2,g3,g4,g5,g6,g7,g8⟩:=xr gL;clear gL;have d0:=cr aU.o 0 _ rfl;go_wp2_with fail;clear g0 g1 g2 g3 g4 g5 g6 g7 g8 d0;refine SJ.o.mono ?_;clear SJ;rintro e ab aV;unfold lZ at aV;rw[WU.o]at aV;obtain⟨fv,x,rfl,SK,ba,SM,hfl,sE⟩:=aV;have Uy:Hid (iE x (xy g d)):=aa ba;clear ba;have bQ:x.length<=4097:=by
    have h1:=Jw x Uy.o.1.1;have h2:=(Uy.o.sum_bd kj.o.1 (fun n q=>q.1)).2;have:=kj.o.2;omega
   have CM:=aa (SK.mono (B':=w3.1.size) ai);clear SK;have Ux:=aa SM;clear SM;have C7:=aa (Ax.o.trans (sE.mono ai));have a5:=aa (ah.o.below sE);have Om:=aa (L3.o.below sE);have SN:=Zbk sE aU;have a8:=C7.o.size;clear sE Ax ah L3 aU hfl;go_upto_region 13 with(fail);have r3:=Om.o.rc 3 _ rfl;have r5:=Om.o.rc 5 _ rfl;have HIN:Hid (uM r=(r.Gg==1&&!r.near.toList.isEmpty)):=aa rfl;have key:(r.Gg==1)=false\/((r.Gg==1)=true/\r.near.toList.isEmpty=true)\/((r.Gg==1)=true/\r.near.toList.isEmpty=false):=by
    cases (r.Gg==1)<;>cases r.near.toList.isEmpty<;>simp
   have am:Hid ((r.Gg != 1)=!(r.Gg==1)):=aa rfl;rcases key with h1|⟨h1,h2⟩|⟨h1,h2⟩
   ·rw[h1]at HIN am;have aW:(r.Gg != 1)=true:=am.o;have aB:Hid (FZ g r d x):=aa Teu;obtain⟨pf,nf,cf,rfl⟩:=CM.o.slice;go_wp2_with(at_builtin;refine iA rfl _ _ rfl w3.1.size _ ys (.slice pf nf cf) x rfl ?c1 ?c2 ab.1.size 1 rfl ?c3 ?c4 ?c5 ?_)
    all_goals first|(case c1=>exact a5.o.below (ae _ _))|(case c2=>exact CM.o.below (ae _ _))|(case c3=>exact aD rfl rfl)|(case c4=>omega)|(case c5=>simp;omega)|skip
    intro v' bi OR sa _;have ay:=aa ((C7.o.alloc a8 _).trans sa);have a7:=aa OR;clear OR sa;go_wp2;go_roundw;exact⟨m+1,Tc1,Tc5,ay.o,_,a7.o,by simp[hyl],Uv.o.snoc Teh aB.o Tc1⟩;simp[intOf];omega
   ·rw[h1,h2]at HIN;rw[h1]at am;have aW:(r.Gg != 1)=false:=am.o;have aB:Hid (FZ g r d x):=aa Teu;obtain⟨pf,nf,cf,rfl⟩:=CM.o.slice;go_wp2_with(at_builtin;refine iA rfl _ _ rfl w3.1.size _ ys (.slice pf nf cf) x rfl ?e1 ?e2 ab.1.size 1 rfl ?e3 ?e4 ?e5 ?_)
    all_goals first|(case e1=>exact a5.o.below (ae _ _))|(case e2=>exact CM.o.below (ae _ _))|(case e3=>exact aD rfl rfl)|(case e4=>omega)|(case e5=>simp;omega)|skip
    intro v' bi OR sa _;have ay:=aa ((C7.o.alloc a8 _).trans sa);have a7:=aa OR;clear OR sa;go_wp2;go_roundw;exact⟨m+1,Tc1,Tc5,ay.o,_,a7.o,by simp[hyl],Uv.o.snoc Teh aB.o Tc1⟩;simp[intOf];omega
   rw[h1,h2]at HIN;rw[h1]at am;have aW:(r.Gg != 1)=false:=am.o;have aB:Hid (FZ g r d (x.flatMap (nrL E d.name))):=aa Teu;clear Zq HIN am;have HX:=aa CM.o.rd;obtain⟨p3,c3,rfl,bR,bS,hx3⟩:=CM.o.rd;replace hx3:=aa hx3;clear HX;go_upto_region 17 with(fail);clear r3 r5 h1 h2 aW;go_loopw[13,14] (fun lv i wi=>∃k:Nat,k<=x.length/\i=.int .i64 k/\bM wi ab.1.size lv ((x.take k).flatMap (nrL E d.name))/\Below ab.1.size ab wi) (fun _ i _=>x.length-(intOf i).toNat)
   exact⟨0,cg _,rfl,bM.nil _ _,bj _ _⟩;obtain⟨k,hk,rfl,ao,au⟩:=hrel;replace ao:=aa ao;replace au:=aa au;have bk:=au.o.size;have hll:=lY (nrL E d.name) 10 (x.take k) fun f _=>by have:=Mh E d.name f;omega
   have DB:(x.take k).length<=4097:=by rw[ey];omega
   by_cases hlt2:k<x.length
   ·obtain⟨f,hf⟩:=aj x k hlt2;obtain⟨b4,bl,bm,bp,bb⟩:=hx3.o Tc1;subst bm;have YC:=aa (NN (nrL E d.name) hf);have bd:=aa (fun(wj:World) (hj:Below ab.1.size ab wj)=>bb.below hj bp k f hf);clear bb hf;generalize bq:(x.take k).flatMap (nrL E d.name)=L0 at *;clear bq;go_upto_region 20 with(fail);go_loopw[13,15] (fun lv i wj=>∃j:Nat,j<=E.length/\i=.int .i64 j/\bM wj ab.1.size lv (L0++nrL (E.take j) d.name f)/\Below ab.1.size ab wj) (fun _ i _=>E.length-(intOf i).toNat)
    exact⟨0,cg _,rfl,by rw[iv,show nrL [] d.name f=[] from rfl,eM];exact ao.o,au.o⟩;clear ao au bk;obtain⟨j,hj,rfl,be,Y0⟩:=hrel;have HOJ:=aa be;clear be;replace Y0:=aa Y0;have bs:=Y0.o.size;have zr:=Mh (E.take j) d.name f;rw[ey]at zr;by_cases hlt3:j<E.length
    ·obtain⟨e,he⟩:=aj E j hlt3;obtain⟨b5,bu,bw,rfl,bT,bz,bC,bD,aC⟩:=kf.o.elem (k:=j) (x:=(⟨false,e.1,e.2⟩:aR)) (by rw[rI,he];rfl);obtain rfl:bw=_:=bD;have bf:wr.1[b5]?=w3.1[b5]?:=(Y0.o.block b5 Tc1).trans (C7.o.block b5 bz);obtain⟨q0,q1,q2⟩:=Mn bf aC;dsimp only at q1 q2;have QY:=aa (NG d.name f he);clear he aC bC bf q0;have bE:=bd.o _ Y0.o;obtain⟨f0,f1⟩:=bE;have d0:wr.cell? Bd=some (.string d.name):=by
      have:=(Y0.o.block Bd (aq SN.o)).trans SN.o;simp[AN,this]
     by_cases hen:e.1=d.name
     ·have aN:(e.1.toList==d.name.toList)=true:=by rw[hen];simp
      by_cases hes:e.2=f.1
      ·have hb2:(e.2==f.1)=true:=by rw[hes];simp
       rw[aw ⟨hen,hes⟩]at QY;clear hen hes;go_upto_region 22 with(fail);go_quiet (fail);have kq:∀n,Below wr.1.size wr (wr.drewN n):=fun n=>aT (bj _ _) n;generalize aE:World.drewN wr _=W22;have av:Below wr.1.size wr W22:=by rw[<- aE];exact kq _
       have bG:=aa (HOJ.o.below av);have aX:=aa (Y0.o.trans (av.mono bs));clear aN hb2 q1 q2 d0 kq aE av f0 f1;have bH:=aX.o.size;obtain⟨f0,f1⟩:=bd.o _ aX.o;go_wp2_with(at_builtin;refine jg rfl _ _ rfl ab.1.size _ (L0++nrL (E.take j) d.name f) f rfl ?c1 W22.1.size 1 rfl ?c2 ?c3 ?c4 ?c5 ?_)
       all_goals first|(case c1=>exact bG.o.below (ae _ _))|(case c2=>exact aD rfl rfl)|(case c3=>exact aD rfl rfl)|(case c4=>rw[cD];omega)|(case c5=>simp;omega)|skip
       intro v' w6 OR aG _;have hA:=ae W22 (.cells #[.int .i64 f.1,.int .i64 f.2] 55);have Tq:=aa ((aX.o.trans (hA.mono bH)).trans aG);replace OR:=aa OR;clear hA aG f0 f1;go_wp2;go_roundw;exact⟨j+1,Tc1,Tc5,by rw[QY.o];first|exact OR.o|(rw[<- cV];exact OR.o),Tq.o⟩;simp[intOf];omega
      have hb2:(e.2==f.1)=false:=beq_eq_false_iff_ne.2 hes;rw[bh (fun c=>hes c.2),eM]at QY;clear hen hes;go_upto_region 22 with(fail);go_quiet (fail);clear aN hb2 q1 q2 d0;go_wp2;go_roundw
      exact⟨j+1,Tc1,Tc5,Te2,aT Y0.o _⟩;simp[intOf];omega
     have aN:=jI hen;rw[bh (fun c=>hen c.1),eM]at QY;clear hen;go_upto_region 22 with(fail);go_quiet (fail);clear aN q1 q2 d0;go_wp2;go_roundw
     exact⟨j+1,Tc1,Tc5,Te2,aT Y0.o _⟩;simp[intOf];omega
    obtain rfl:j=E.length:=by omega
    rw[cI]at HOJ;go_wp2;go_roundw;exact⟨k+1,Tc1,Tc5,by rw[YC.o];exact HOJ.o,Y0.o⟩;simp[intOf];omega
   obtain rfl:k=x.length:=by omega
   rw[cI]at ao hll;obtain⟨pl,nl,cl,rfl⟩:=ao.o.slice;have ay:=aa (C7.o.trans (au.o.mono a8));have a7:=aa (a5.o.below au.o);have bI:=aa (ao.o.mono (B':=w3.1.size) a8);have aH:=ay.o.size;go_wp2_with(at_builtin;refine iA rfl _ _ rfl w3.1.size _ ys (.slice pl nl cl) (x.flatMap (nrL E d.name)) rfl ?c1 ?c2 wr.1.size 1 rfl ?c3 ?c4 ?c5 ?_)
   all_goals first|(case c1=>exact a7.o.below (ae _ _))|(case c2=>exact bI.o.below (ae _ _))|(case c3=>exact aD rfl rfl)|(case c4=>omega)|(case c5=>simp;omega)|skip
   intro v' bU OR aI _;have WX:=aa ((ay.o.alloc aH _).trans aI);replace OR:=aa OR;clear aI;go_wp2;go_roundw;exact⟨m+1,Tc1,Tc5,WX.o,_,OR.o,by simp[hyl],Uv.o.snoc Teh aB.o Tc1⟩;simp[intOf];omega
 obtain rfl:m=g.Gb.length:=by omega
 have TF:=aa (cJ.o.trans (hB.o.mono az));have bJ:=aa (a9.o.mono az);clear hB a9;go_wp2;go_ret2;exact⟨_,ys,rfl,bJ.o,hyl,Uv.o,TF.o⟩
structure uy(r:aY):Prop where
 l:1<=r.Gi/\r.Gi<=6
 s:1<=r.Gh/\r.Gh<=6
 ls:r.Gi*r.Gh<=6
 e:1<=r.Gc/\r.Gc<=4096
 p:1<=r.Gg/\r.Gg<=5
def uy.of(h:kP g r=0):uy r:=by
 unfold kP at h;split at h
 ·unfold yZ at h;split at h
  ·cases h
  rename_i h1;split at h
  ·cases h
  rename_i h2;simp only[Bool.not_eq_false,Dr,Ek,eh,fk]at h1 h2;exact⟨h1.1.1.1,h1.1.1.2,h1.1.2,h1.2,h2⟩
 rename_i hm;exact absurd h hm
def aZ{l:List Value}{q:Nat × Nat}(h:W.1[b]?=some (.cells l.toArray t q))(i:Nat)(z:Value)(hz:l[i]?=some z):W.cell? (b,i)=some z:=by
 exact TcH
def Taj(x0:af)(x1:bN)(x2:aY)(x3:Value):Tab #[.string x0.name,.int .u64 x0.id,.int .i64 x0.seq,.int .i64 x0.Gd,.int .i64 x0.next,.slice x1.tp x0.tags.length x1.tc,.slice x1.dp x0.Gb.length x1.dc,.slice x1.vp x0.F9.length x1.vc,.slice x1.hp x0.history.length x1.hc,.int .i64 x2.Gi,.int .i64 x2.Gh,.int .i64 x2.Gc,.int .i64 x2.Gg,.string x2.tag,.string x2.near,.string x2.sep,x3]:=⟨⟩
def MM(g:af)(a:bN)(r:aY)(pv:Value)(w:World)(h:uy r) :
  Calls prog 91 #[.agg (Taj g a r pv)] w fun e w'=>e=.returned (.int .i64 (r.Gi*r.Gh))/\Below w.1.size w w':=by
 have hB:=ae w (.cells (Taj g a r pv) 97);have hN:=b9 w (.cells (Taj g a r pv) 97);have c9:=aZ hN 9 _ rfl;have c10:=aZ hN 10 _ rfl;have h0:0<=r.Gi*r.Gh:=oA (by have:=h.l.1;omega) (by have:=h.s.1;omega);have hw:IntKind.i64.wrap (r.Gi*r.Gh)=r.Gi*r.Gh:=dy _ (by have:=h.ls;omega);have HB:=aa hB;clear hN hB h0;go_enter func91,ntmps91;exact TcJ
def GZ(r:aY):Int:=if 1<r.Gi*r.Gh then 2 else if r.Gg=1 then 1 else 0
def TcE{p:Prop}(h:p:=by
 go_wp2;go_ret;exact⟨by rw[HW.o];rfl,cm.o⟩):p:=h
def Li(g:af)(a:bN)(r:aY)(pv:Value)(w:World)(h:uy r) :
  Calls prog 45 #[.agg (Taj g a r pv)] w fun e w'=>e=.returned (.int .i64 (GZ r))/\Below w.1.size w w':=by
 have hB:=ae w (.cells (Taj g a r pv) 97);have hN:=b9 w (.cells (Taj g a r pv) 97);obtain⟨c0,c1,c2,c3,c4,c5,c6,c7,c8,c9,c10,TO,W0,St,Rr,RE,RK⟩:=And.intro (aZ hN 0 _ rfl) (And.intro (aZ hN 1 _ rfl) (And.intro (aZ hN 2 _ rfl) (And.intro (aZ hN 3 _ rfl) (And.intro (aZ hN 4 _ rfl) (And.intro (aZ hN 5 _ rfl) (And.intro (aZ hN 6 _ rfl) (And.intro (aZ hN 7 _ rfl) (And.intro (aZ hN 8 _ rfl) (And.intro (aZ hN 9 _ rfl) (And.intro (aZ hN 10 _ rfl) (And.intro (aZ hN 11 _ rfl) (And.intro (aZ hN 12 _ rfl) (And.intro (aZ hN 13 _ rfl) (And.intro (aZ hN 14 _ rfl) (And.intro (aZ hN 15 _ rfl) (aZ hN 16 _ rfl))))))))))))))));have HB:=aa hB;replace hN:=aa hN;clear hB;have HC:=aa (MM g a r pv (w.alloc (.cells (Taj g a r pv) 97)) h);go_enter func45,ntmps45
 go_wp2_with fail;refine HC.o.mono ?_;rintro e w2 ⟨rfl,hb2⟩;have cm:=Zbl HB hb2;have a5:=Zbk hb2 hN;clear hb2 c0 c1 c2 c3 c4 c5 c6 c7 c8 c9 c10 TO W0 St Rr RE RK;have a7:=aZ a5.o 12 _ rfl;by_cases h1:1<r.Gi*r.Gh
 ·have hg:decide (r.Gi*r.Gh>1)=true:=eA h1;have HW:Hid (GZ r=2):=aa (aw h1);clear h1;exact TcE
 have hg:decide (r.Gi*r.Gh>1)=false:=cN h1;by_cases h2:r.Gg=1
 ·have hq:(r.Gg==1)=true:=by simp[h2]
  have HW:Hid (GZ r=1):=aa ((bh h1).trans (aw h2));clear h1 h2;exact TcE
 have hq:(r.Gg==1)=false:=by simp[h2]
 have HW:Hid (GZ r=0):=aa ((bh h1).trans (bh h2));clear h1 h2;exact TcE
def sK{l:Array Value}(h:W.1[b]?=some (.cells l t (0,0)))(i:Nat):W.frozen? (b,i)=false:=by simp[BT,h]
def Mf{ok:Nat->Prop}(g:af)(a:bN)(r:aY)(pv:Value)(k:Nat)(st:Int)(d:az)(w:World)(hr:ck aO 7 ok w [.slice a.dp g.Gb.length a.dc] g.Gb)(hd:g.Gb[k]?=some d)(hl:g.Gb.length<=1000000) :
  Calls prog 90 #[.agg (Taj g a r pv),.int .i64 (k:Int),.int .i64 st] w fun e w'=>e=.returned (.agg (Tau d.name st))/\Below w.1.size w w':=by
 have hB:=ae w (.cells (Taj g a r pv) 97);have hN:=b9 w (.cells (Taj g a r pv) 97);have a5:=ae (w.alloc (.cells (Taj g a r pv) 97)) (.cells Tat 53);have kc:=b9 (w.alloc (.cells (Taj g a r pv) 97)) (.cells Tat 53);have pC:=hB.trans (a5.mono hB.size);have RW:=(a5.block _ (aq hN)).trans hN;rw[cW]at kc;have Vk:=(AT.1 hd).1;have ij:g.Gb.length<=a.dc/\a.dc<=9223372036854775807:=by
  obtain⟨_,_,e,h1,h2⟩:=hr.cap;injection e with _ _ e3;rw[e3];exact⟨h1,h2⟩
 obtain⟨a7,zc⟩:=ij;obtain⟨b,off,us,qt,gR,cX,ez,eE,ON⟩:=hr.elem hd;obtain⟨tv,rfl,ew⟩:=eE;have d0:=ON 0 _ rfl;rw[fg]at d0;have c6:=(aZ RW 6 _ rfl).trans (fj (fun p=>some (Value.slice p g.Gb.length a.dc)) qt);have e0:=(pC.cell (p:=⟨b,off+k*7,none⟩) cX).trans d0;have z0:=aZ kc 0 _ rfl;have z1:=aZ kc 1 _ rfl;have z2:=aZ kc 2 _ rfl;have zf:=sK kc;replace pC:=aa pC;clear hN hB hr hd ez ON ew d0 qt RW kc a5;go_enter func90,ntmps90
 go_upto_region 1 with(fail);generalize R0:AI (AI w _) _=W1 at *;have mA:w.1.size<=w.1.size+1:=by omega
 clear R0;go_wp2;refine eC (v:=.agg (Tau d.name st)) (by simp[results,Tryz.results90,go_sem,z0,z1,z2]) rfl ⟨rfl,?_⟩;have hL:∀(V:World) (o:Nat) (z:Value),Below w.1.size w V->Below w.1.size w (V.setCell ⟨w.1.size+1,o,none⟩ z):=fun V o z q=>q.setCell (p:=⟨w.1.size+1,o,none⟩) mA z;exact hL _ _ _ (hL _ _ _ (hL _ _ _ pC.o))
def N9(g:af)(a:bN)(r:aY)(w:World)(e:Ending)(w':World):Prop :=
 ∃v xs,e=.returned (.tuple #[.agg (Taj g a r v),.int .i64 (kP g r)])/\fH w' w.1.size v xs/\tK g r xs/\(xs.length=if kP g r=0 then g.Gb.length else 0)/\Below w.1.size w w'
def Taf(x0:af)(x1:bN)(x2:aY)(x3:Nat)(x4:Option Addr)(x5:Nat):Tab #[.string x0.name,.int .u64 x0.id,.int .i64 x0.seq,.int .i64 x0.Gd,.int .i64 x0.next,.slice x1.tp x0.tags.length x1.tc,.slice x1.dp x0.Gb.length x1.dc,.slice x1.vp x0.F9.length x1.vc,.slice x1.hp x0.history.length x1.hc,.int .i64 x2.Gi,.int .i64 x2.Gh,.int .i64 x2.Gc,.int .i64 x2.Gg,.string x2.tag,.string x2.near,.string x2.sep,.slice x4 x3 x5]:=⟨⟩
def Tay :Tab #[.string ⟨#[]⟩,.int .u64 0,.int .i64 0,.int .i64 0,.int .i64 0,.slice none 0 0,.slice none 0 0,.slice none 0 0,.slice none 0 0,.int .i64 0,.int .i64 0,.int .i64 0,.int .i64 0,.string ⟨#[]⟩,.string ⟨#[]⟩,.string ⟨#[]⟩,.slice none 0 0]:=⟨⟩
def xY{ok:Nat->Prop}(g:af)(a:bN)(r:aY)(w:World)(hg:dN ok w g a)(ag:GOk g)(hr:dK r)(hS:AW w) :
  Calls prog 41 #[.agg (Tad g a),.agg (Tal r)] w (N9 g a r w):=by
 have hA1:=ae w (.cells (Tad g a) 31);have RW:=b9 w (.cells (Tad g a) 31);generalize R0:w.alloc (.cells (Tad g a) 31)=W1 at *;have hA2:=ae W1 (.cells (Tal r) 34);have kc:=b9 W1 (.cells (Tal r) 34);have On:W1.1.size=w.1.size+1:=by rw[<- R0];exact cW ..
 generalize a7:W1.alloc (.cells (Tal r) 34)=W2 at *;have hA3:=ae W2 (.cells Tay 97);have ab:=b9 W2 (.cells Tay 97);have RC:W2.1.size=w.1.size+2:=by rw[<- a7,cW,On]
 generalize a8:W2.alloc (.cells Tay 97)=W3 at *;have ak:W3.1.size=w.1.size+3:=by rw[<- a8,cW,RC]
 have HB:=aa (hA1.trans ((hA2.mono Tc1).trans (hA3.mono Tc1)));have a9:=aa ((hA3.block _ Tc1).trans ((hA2.block _ Tc1).trans RW));have Lz:=aa ((hA3.block _ Tc1).trans kc);have XO:=aa ab;rw[On]at Lz;rw[RC]at XO;clear hA1 hA2 hA3 RW kc ab;have gL:=aZ a9.o;obtain⟨g0,g1,g2,g3,g4,g5,g6,g7,g8⟩:=xr gL;have qL:=aZ Lz.o;obtain⟨q0,q1,q2,q3,q4,q5,q6⟩:=se qL;clear gL qL;have HP:=aa (jk g a r W3 (hg.mv (Mv.of HB.o)) ag hr (hS.below HB.o));clear hg hS;go_enter func41,ntmps41
 go_upto_region 1 with(fail)
 try simp only[R0,a7,a8]
 try simp only[On,RC]
 clear R0 a7 a8;go_wp2_with fail;refine HP.o.mono ?_;clear HP;intro e w8 hp;obtain⟨xv,xs,rfl,OA,Zs,vh,a5⟩:=hp.form;clear hp;have HG:=aa ((a5.block _ Tc1).trans a9.o);have HQ:=aa ((a5.block _ Tc1).trans Lz.o);have HR:=aa ((a5.block _ Tc1).trans XO.o);have B3:=Zbl HB a5;obtain⟨px,cx,rfl,am,ao⟩:=OA.cap;have PW:=aa OA;have ah:=aa Zs;have HXL:=aa vh;have gO:=a5.size;clear g0 g1 g2 g3 g4 g5 g6 g7 g8 q0 q1 q2 q3 q4 q5 q6 a5 OA Zs vh a9 Lz XO HB;have gL:=aZ HG.o;obtain⟨g0,g1,g2,g3,g4,g5,g6,g7,g8⟩:=xr gL;have qL:=aZ HQ.o;obtain⟨q0,q1,q2,q3,q4,q5,q6⟩:=se qL;clear gL qL;have z0:=aZ HR.o 0 _ rfl;have z1:=aZ HR.o 1 _ rfl;have z2:=aZ HR.o 2 _ rfl;have z3:=aZ HR.o 3 _ rfl;have z4:=aZ HR.o 4 _ rfl;have z5:=aZ HR.o 5 _ rfl;have z6:=aZ HR.o 6 _ rfl;have z7:=aZ HR.o 7 _ rfl;have z8:=aZ HR.o 8 _ rfl;have z9:=aZ HR.o 9 _ rfl;have z10:=aZ HR.o 10 _ rfl;have z11:=aZ HR.o 11 _ rfl;have z12:=aZ HR.o 12 _ rfl;have z13:=aZ HR.o 13 _ rfl;have z14:=aZ HR.o 14 _ rfl;have ai:=aZ HR.o 15 _ rfl;have z16:=aZ HR.o 16 _ rfl;have zf:=sK HR.o;have mA:w.1.size<=w.1.size+2:=by omega
 go_wp2;refine eC (v:=.tuple #[.agg (Taf g a r xs.length px cx),.int .i64 (kP g r)]) (by simp[results,Tryz.results41,go_sem,z0,z1,z2,z3,z4,z5,z6,z7,z8,z9,z10,z11,z12,z13,z14,ai,z16]) rfl ⟨_,xs,rfl,?_,ah.o,HXL.o,?_⟩
 ·refine(PW.o.blk fun k hk _=>?_).mono Tc1;have aj:k≠w.1.size+2:=by omega
  simp only[bw _ ⟨w.1.size+2,_,none⟩ _ k aj]
 have hL:∀(V:World) (o:Nat) (z:Value),Below w.1.size w V->Below w.1.size w (V.setCell ⟨w.1.size+2,o,none⟩ z):=fun V o z q=>q.setCell (p:=⟨w.1.size+2,o,none⟩) mA z
 exact(hL _ _ _ (hL _ _ _ (hL _ _ _ (hL _ _ _ (hL _ _ _ (hL _ _ _ (hL _ _ _ (hL _ _ _ (hL _ _ _ (hL _ _ _ (hL _ _ _ (hL _ _ _ (hL _ _ _ (hL _ _ _ (hL _ _ _ (hL _ _ _ (hL _ _ _ B3.o)))))))))))))))))
attribute [local go_sem] Oper.semAt_some
def nU:Nat->List (List (Int × Int))->List (Nat × (Int × Int))
 |_,[]=>[]
 |i,x :: r=>x.map (fun p=>(i,p))++nU (i+1) r
def gW(xs:List (List (Int × Int))):List (Nat × (Int × Int)):=nU 0 xs
def rC:∀(i:Nat) (a b:List (List (Int × Int))),nU i (a++b)=nU i a++nU (i+a.length) b
 |_,[],_=>rfl
 |i,x :: a,b=>by
  rw[List.cons_append,nU,nU,rC (i+1) a b,cV,cS,show i+1+a.length=i+(a.length+1) by omega]
def Eb(h:xs[k]?=some x):gW (xs.take (k+1))=gW (xs.take k)++x.map fun p=>(k,p):=by
 have hk:=(AT.1 h).1;rw[take_snoc' xs k x h];unfold gW;rw[rC,ey,Nat.min_eq_left Tc1,eJ];simp[nU]
def Nl(h:xs[k]?=some x)(hp:x[m]?=some p):∃rest,gW xs=(gW (xs.take k)++(x.take m).map (fun p=>(k,p)))++(k,p) :: rest:=by
 have hk:=(AT.1 h).1;have e1:xs=xs.take (k+1)++xs.drop (k+1):=(rk ..).symm;have e2:x=x.take m++p :: x.drop (m+1):=al6 hp;refine⟨(x.drop (m+1)).map (fun p=>(k,p))++nU (k+1) (xs.drop (k+1)),?_⟩;have e3:gW xs=gW (xs.take (k+1))++nU (k+1) (xs.drop (k+1)):=by
  conv=>lhs;rw[e1]
  unfold gW;rw[rC,ey,Nat.min_eq_left Tc1,eJ]
 rw[e3,Eb h];conv=>lhs;rw[e2]
 simp
abbrev Lj(xs:List (List (Int × Int))):Type:={ y:Nat × (Int × Int) // y∈gW xs }
def LP{c:Nat}{y:Nat × (Int × Int)}(h:(gW xs)[c]?=some y):(gW xs).attach.take (c+1)=(gW xs).attach.take c++[⟨y,ct h⟩]:=by
 have hc:=(AT.1 h).1;have h2:(gW xs).attach[c]?=some ⟨y,ct h⟩:=by
  have zc:c<(gW xs).attach.length:=by rw[List.length_attach];exact hc
  rw[lO zc];congr 1
  apply Subtype.ext;rw[List.getElem_attach];exact(AT.1 h).2
 exact take_snoc' _ c _ h2
def Nh{xs:List (List (Int × Int))}(z:Lj xs):Array Value:=#[.int .i64 (z.1.1:Int),.agg #[.int .i64 z.1.2.1,.int .i64 z.1.2.2]]
def IJ(h:xs[k]?=some x)(hp:x[m]?=some p):(gW xs)[(gW (xs.take k)).length+m]?=some (k,p):=by
 obtain⟨rest,e⟩:=Nl h hp;have hm:=(AT.1 hp).1;rw[e];have e2:(gW (xs.take k)++(x.take m).map fun p=>(k,p)).length=(gW (xs.take k)).length+m:=by
  rw[cD,fW,ey,Nat.min_eq_left Tc1]
 rw[Cp Tc1,e2,Nat.sub_self];rfl
def KpN(n₀:Nat)(W W':World):Prop:=Below n₀ W W'
def pK(n₀:Nat)(w:World)(px:Option Addr)(xs:List (List (Int × Int))):Prop :=
 ∀(k:Nat) (x:List (Int × Int)),xs[k]?=some x->∃(bx:Nat) (p:Option Addr) (c:Nat),px=some ⟨bx,0,none⟩/\bx<n₀/\w.cell? (bx,k)=some (.slice p x.length c)/\x.length<=c/\c<=9223372036854775807 /\
  (0<x.length->∃b off,p=some ⟨b,off,none⟩/\b<n₀/\ru w b off x)
def ug(n n₀ Bt:Nat)(hn1:1<=n)(w:World)(px:Option Addr)(cx:Nat)(xs:List (List (Int × Int)))(hc:w.cell? (Tac Bt 16)=some (.slice px xs.length cx))(OI:xs.length<=cx/\cx<=9223372036854775807)(Ue:Bt<w.1.size)(hn:n₀<=w.1.size)(hr:pK n₀ w px xs)(vh:xs.length<=1000)(ab:∀x∈xs,x.length<=300000) :
  SeqStopsK Fence.wide n prog 133 #[.pointer (some Bt)] (Nh (xs:=xs)) (KpN n₀) (fun ys=>ys=(gW xs).attach) (fun pre=>pre <+: (gW xs).attach) (gW xs).length w:=by
 intro l J Jx W hW hJ Z9 hY h0;refine callsIn_of_wp func133 rfl trivial ?_ rfl;simp only[ntmps133,List.size_toArray,cS,Ox,Nat.reduceAdd,Nat.reduceSub,Array.replicate_succ,Array.replicate_zero,List.push_toArray,List.append_toArray,List.nil_append,List.cons_append];have ao:W.cell? (Tac Bt 16)=some (.slice px xs.length cx):=(cd (w:=w) (hW.block Bt Ue)).trans hc;have HR:=aa hr;have HY:=aa hY;have HJ:=aa hJ;have OB:=aa ab;have HW:=aa hW;have aq:=cA hn hW.size;obtain⟨au,av⟩:=OI;clear hc hr hY hJ Z9 ab hW;gi_wp2
 gi_loopw [10] (fun i wr=>∃k:Nat,k<=xs.length/\i=.int .i64 k/\J ((gW xs).attach.take (gW (xs.take k)).length) wr/\Below n₀ W wr/\W.1.size<=wr.1.size) (fun i _=>xs.length-(intOf i).toNat)
 exact⟨0,cg _,rfl,by rw[show(gW (xs.take 0)).length=0 from by rw[iv];rfl,iv];exact h0,bj _ _,bk _⟩;obtain⟨k,hk,rfl,a5,hB,hz⟩:=hrel;by_cases hlt:k<xs.length
 ·obtain⟨x,hx⟩:=aj xs k hlt;obtain⟨bx,pu,cu,rfl,PX,af,aw,ay,a8⟩:=HR.o k x hx;have cX:wr.1[bx]?=w.1[bx]?:=(hB.block bx PX).trans (HW.o.block bx Tc1);have ah:wr.cell? (bx,k)=some (.slice pu x.length cu):=(cd (w:=w) cX).trans af;have Tn:=OB.o x (ct hx);replace hx:=aa hx;replace a8:=aa a8;replace a5:=aa a5;replace hB:=aa hB;replace hz:=aa hz;clear af cX;gi_wp2
  clear ah;gi_loopw [17] (fun i wr=>∃m:Nat,m<=x.length/\i=.int .i64 m/\J ((gW xs).attach.take ((gW (xs.take k)).length+m)) wr/\Below n₀ W wr/\W.1.size<=wr.1.size) (fun i _=>x.length-(intOf i).toNat)
  exact⟨0,cg _,rfl,by rw[fg];exact a5.o,hB.o,hz.o⟩;clear a5 hB hz;obtain⟨m,hm,rfl,a5,hB,hz⟩:=hrel;by_cases hlt2:m<x.length
  ·obtain⟨p,hp⟩:=aj x m hlt2;obtain⟨bp,PC,rfl,ai,a9⟩:=a8.o Tc1;have cX:wr.1[bp]?=w.1[bp]?:=(hB.block bp ai).trans (HW.o.block bp Tc1);have p0:wr.cell? (bp,PC+m*2)=some (.int .i64 p.1):=(cd (w:=w) cX).trans (a9 m p hp).1;have p1:wr.cell? (bp,PC+m*2+1)=some (.int .i64 p.2):=(cd (w:=w) cX).trans (a9 m p hp).2;have a7:=aa (IJ hx.o hp);replace hp:=aa hp;have hA:=ae wr (.cells #[.int .i64 p.1,.int .i64 p.2] 55);have HN:=aa (b9 wr (.cells #[.int .i64 p.1,.int .i64 p.2] 55));have ag:=HJ.o _ _ _ none a5 (cK hA) (fun r e=>by cases e);have cm:=aa (hB.trans (hA.mono Tc1));have HZ2:=aa (cA hz hA.size);have ak:=(AT.1 a7.o).1;have Of:((gW xs).attach.take ((gW (xs.take k)).length+m)).length<(gW xs).length:=by
    rw[ey,List.length_attach];omega
   have b0:=aZ HN.o 0 _ rfl;have b1:=aZ HN.o 1 _ rfl;obtain⟨fn,tmps,assign,body,hy,hR⟩:=HY.o _ ⟨(k,p),ct a7.o⟩ _ ag Of;replace hR:=aa hR;dsimp only[Nh]at hy;clear a5 ag hB hz hA cX a9 Of ak;gi_wp2
   refine hR.o.mono ?_;rintro e w3 (⟨rfl,hJ3,hk3⟩|⟨rfl,hx3⟩)
   ·have QU:=aa hJ3;clear hJ3;have cJ:=aa (cm.o.trans hk3);have am:=aa (cA HZ2.o (Below.size hk3));clear hk3 hy b0 b1 p0 p1 hR;gi_wp2
    go_roundw;exact⟨m+1,Tc1,Tc5,by rw[<- Nat.add_assoc,LP a7.o];exact QU.o,cJ.o,am.o⟩;simp[intOf];omega
   replace hx3:=aa hx3;clear hy b0 b1 p0 p1 hR;gi_wp2
   refine eC (results_none rfl _ _ _) rfl ?_;exact⟨⟨_,rfl⟩,.inr ⟨_,by rw[<- LP a7.o];exact List.take_prefix _ _,hx3.o⟩⟩
  obtain rfl:m=x.length:=by omega
  have QU:=aa a5;clear a5;gi_wp2
  go_roundw;exact⟨k+1,Tc1,Tc5,by rw[Eb hx.o,cD,fW];exact QU.o,hB,hz⟩;simp[intOf];omega
 obtain rfl:k=xs.length:=by omega
 have QU:=aa a5;clear a5;gi_wp2
 go_end0
 exact⟨⟨_,rfl⟩,.inl ⟨_,rfl,by have:=QU.o;rwa[cI,jz (by rw[List.length_attach];exact bk _)]at this⟩⟩
def Lh(g:af)(a:bN)(r:aY)(pv:Value)(w:World) :
  Calls prog 89 #[.agg (Taj g a r pv)] w fun e w'=>e=.returned (.func (.func 133) #[] #[.pointer (some w.1.size)])/\w'=w.alloc (.cells (Taj g a r pv) 97):=by
 go_enter func89,ntmps89;go_wp2;go_ret;exact⟨rfl,rfl⟩
def ni:Int->List (Nat × (Int × Int))->List (Nat × (Int × Int)) × Int
 |rest,[]=>([],rest)
 |rest,x :: l=>if rest<=0 then([],rest) else(x :: (ni (rest-x.2.2) l).1,(ni (rest-x.2.2) l).2)
end Go.Proofs.YtaagglbgohjldaaGreatDoor
namespace Go.Proofs.YtaagglbgohjldaaGreatDoor
open Go.Proofs.Tryz
open Go.RowKit
def ze(n:Nat):Code->Option Code
 |.rangeFunc _ _ a b=>match kX n a with
  |some c=>some c
  |none=>kX n b
 |.seq a b=>match ze n a with
  |some c=>some c
  |none=>ze n b
 |.block _ c=>ze n c
 |.loop c=>ze n c
 |.scope c=>ze n c
 |.cond _ a b=>match ze n a with
  |some c=>some c
  |none=>ze n b
 |_=>none
noncomputable def NR(f:Func)(n:Nat):Code:=((f.body.bind (ze n)).getD .skip)
section
variable {n l:Nat}{P:Program}{ops:Array Oper}{Q:Exit->Act->World->Prop}{md:Region.Mode}
variable {i:Nat}{w:World}{K:Act->World->Prop}{a:Act}
def Bz(ops:Array Oper):Bool:=ops.all fun o=>match o.op with
 |.defer _=>false
 |_=>true
def Lf(h:Bz ops=true){o:Oper}(ho:ops[i]?=some o):∀c,o.op≠.defer c:=fun c e=>by
 have hm:=Array.mem_of_getElem? ho;have:=(Array.all_eq_true'.1 h) o hm;rw[e]at this;cases this
def MJ{f:FuncId}{args:Array Value}{R:Ending->World->Prop}(h:Calls P f args w R):CallsIn (Fence.wide.inRound l) n P f args w R:=(callsIn_wide.2 h).inRound l
def NT{o:Oper}(ho:∀c,o.op≠.defer c)(h:o.wp P a w K Q):o.wpIn (Fence.wide.inRound l) n P a w K Q:=by
 refine⟨fun _ _=>trivial,?_⟩;rw[Fence.inRound_round,Oper.semAt_some _ _ _ ho];unfold Oper.wp at h;generalize (execOp a.eval o).run P w=r at *
 match r with
 |.ok (.value u) w'=>exact h
 |.ok .skip w'=>exact h
 |.ok (.defer d) w'=>exact h
 |.ok (.enter f args) w'=>exact⟨fun q=>by simp[Fence.wide,Fence.inRound]at q,CallsIn.mono (MJ h) fun e a5 he=>by cases e<;>exact he⟩
 |.ok (.row row args) w'=>exact⟨fun q=>by simp[Fence.wide,Fence.inRound]at q,fun c cs _=>by
   obtain⟨v,a5,r,s⟩:=h c cs;exact⟨v,a5,r,stepsIn_wide.2 s⟩⟩
 |.ok (.round l f tmps assign body) w'=>exact h.elim
 |.halt (.panic u) w'=>exact h
def Ny(hd:Bz ops=true)(hl:¬LetsOut Q)(h:wpOp P ops Q i K a w):wpOpIn (Fence.wide.inRound l) n P ops Q i K a w:=by
 unfold wpOp at h;unfold wpOpIn;cases ho:ops[i]? with
 |none=>simp only[ho]at h;exact h
 |some o =>
  simp only[ho]at h ⊢;split at h
  ·rename_i hw;rw[aw hw];exact NT (Lf hd ho) (h.resolve_right fun q=>hl q.2)
  rename_i hw;rw[bh hw];exact⟨fun _ _=>trivial,h⟩
def KV(hd:Bz ops=true)(hl:¬LetsOut Q):∀(fuel:Nat) (a5:Array Bool) (a:Act) (w:World),wpAny P md ops Q fuel a5 a w->wpAnyIn (Fence.wide.inRound l) n P md ops Q fuel a5 a w
 |0,_,_,_,h=>h
 |fuel+1,_,_,_,h=>⟨h.1,fun i hi=>wpOpIn_mono (fun a' w' h'=>KV hd hl fuel _ a' w' h') (Ny hd hl (h.2 i hi))⟩
def Aa{id:Nat}(S:World->Prop)(m:Nat)(ws:List Nat)(hd:Bz ops=true)(hl:¬LetsOut Q)(hm:P.follows .mixedOrders=true)(hS:S w.drew)
  (h:S w.drew->bG P .any ops Q S (needs m ws) ops.size (GO ops.size false) a w.drew):(Code.region id ops true).wpIn (Fence.wide.inRound l) n P Q a w :=
 wpIn_region_any hm (KV hd hl _ _ _ _ (mF _ _ _ _ (h hS)))
end
open Go.Maps Go.Shelf
variable {B k:Nat}{w:World}{v c2 c3 c9 TO St Rr RE RK SO Se Sf To Wg aE Wr ZD UP US ab ao fa dj dq eS:Value}{l:List aR}{e:Int}{px:Option Addr}{xs:List (List (Int × Int))}
def iC.notT{cs:Array Value}{t:TypeId}{z:Nat × Nat}(h:iC B w v l)(hk:w.1[k]?=some (.cells cs t z))(ht:t≠53):v.ownBlock≠some k:=fun e=>by
 obtain⟨_,ho,_⟩:=h;rcases ho.2 with⟨rfl,_⟩|⟨g,cap,a5,rfl,_,TK,_⟩
 ·cases e
 obtain rfl:g=k:=by injection e
 rw[hk]at TK;injection TK with TK;injection TK with _ TK _;exact ht TK
def Ni{ok:Nat->Prop}(Q:Exit->Act->World->Prop)(lr nn:Nat){c0 c5 c8 c10 W0:Value}(w:World)(g:af)(a:bN)(r:aY)(pv v:Value)(B Bt Bl Br k:Nat)(d:az)(p:Int × Int)(l:List aR)
  (ht:w.1[Bt]?=some (.cells (Taj g a r pv) 97 (0,0))) (hl:w.1[Bl]?=some (.cells #[v] 49 (0,0))) (hr:w.1[Br]?=some (.cells #[.int .i64 p.1,.int .i64 p.2] 55 (0,0))) (hO:iC B w v l) (hB:B<=w.1.size) (hll:l.length<=100000)
  (kf:ck aO 7 ok w [.slice a.dp g.Gb.length a.dc] g.Gb) (hd:g.Gb[k]?=some d) (CD:g.Gb.length<=1000000)
  (HK:Hid (∀(v':Value) (W':World) (u17 u18 u19 u20 u21 u22 u23 u24:Value),iC B W' v' (l++[⟨false,d.name,p.1⟩])->W'.1[Bl]?=some (.cells #[v'] 49 (0,0))->(∀b,b<w.1.size->b≠Bl->v.ownBlock≠some b->W'.1[b]?=w.1[b]?)->w.1.size<=W'.1.size->W'.os=w.os->W'.tape=w.tape->W'.output=w.output->Q .normal ⟨#[c0,.pointer (some Bt),c2,c3,.pointer (some Bl),c5,.int .i64 (k:Int),.pointer (some Br),c8,c9,c10,TO,W0,St,Rr,RE,RK,u17,u18,u19,u20,u21,u22,u23,u24,UP,US,ab,ao,fa,dj,dq,eS],[]⟩ W'))
  (hQ:∀c (a:Act) (d:Tmp) (v:Value) w,Q (.panic c) (a.put (some d) v) w->Q (.panic c) a w) (ag:¬LetsOut Q) :
  (NR Tryz.f42 7).wpIn (Fence.wide.inRound lr) nn prog Q ⟨#[c0,.pointer (some Bt),c2,c3,.pointer (some Bl),c5,.int .i64 (k:Int),.pointer (some Br),c8,c9,c10,TO,W0,St,Rr,RE,RK,SO,Se,Sf,To,Wg,aE,Wr,ZD,UP,US,ab,ao,fa,dj,dq,eS],[]⟩ w:=by
 conv=>arg 4;whnf
 have ah:=aq ht;have hbl:=aq hl;have ai:=aq hr;replace hO:=aa hO;have HL:=aa hl;have hne:=hO.o.notT hl Tc4;obtain⟨i0,hi,du,On,RC⟩:=gg kL;replace hi:=aa hi;replace du:=aa du;replace On:=aa On;replace RC:=aa RC;replace kf:=aa kf;replace hd:=aa hd;have HS:Hid (∀w':World,Below w.1.size w w'->w'.1[Bt]?=some (.cells (Taj g a r pv) 97 (0,0))/\w'.1[Bl]?=some (.cells #[v] 49 (0,0))/\w'.1[Br]?=some (.cells #[.int .i64 p.1,.int .i64 p.2] 55 (0,0))):=aa fun w' e=>⟨(e.block _ ah).trans ht,(e.block _ hbl).trans hl,(e.block _ ai).trans hr⟩;clear ht hl hr;refine Aa (fun w'=>w'.1[Bt]?=some (.cells (Taj g a r pv) 97 (0,0))/\w'.1[Bl]?=some (.cells #[v] 49 (0,0))/\w'.1[Br]?=some (.cells #[.int .i64 p.1,.int .i64 p.2] 55 (0,0))) 7 [] Tc3 ag Tc3 (HS.o _ (bj _ _).drew) (fun a7=>?_)
 (refine o7 (i:=0) (v:=?_) rfl rfl Tc3 (fun _ _ _ h=>hQ _ _ _ _ _ h) (Or.inl ⟨Tc7,?_⟩) a7 ?_;rotate_left;(intro w ZS;have l0:=aZ ZS.2.1 0 _ rfl;clear ZS;go_simp;(try(with_reducible rfl)));(try simp only[aS]))
 (refine o7 (i:=1) (v:=?_) rfl rfl Tc3 (fun _ _ _ h=>hQ _ _ _ _ _ h) (Or.inl ⟨Tc7,?_⟩) a7 ?_;rotate_left;(intro w ZS;have s0:=aZ ZS.1 0 _ rfl;have s1:=aZ ZS.1 1 _ rfl;have s2:=aZ ZS.1 2 _ rfl;have s3:=aZ ZS.1 3 _ rfl;have s4:=aZ ZS.1 4 _ rfl;have s5:=aZ ZS.1 5 _ rfl;have s6:=aZ ZS.1 6 _ rfl;have s7:=aZ ZS.1 7 _ rfl;have s8:=aZ ZS.1 8 _ rfl;have s9:=aZ ZS.1 9 _ rfl;have au:=aZ ZS.1 10 _ rfl;have av:=aZ ZS.1 11 _ rfl;have aw:=aZ ZS.1 12 _ rfl;have ay:=aZ ZS.1 13 _ rfl;have aA:=aZ ZS.1 14 _ rfl;have aB:=aZ ZS.1 15 _ rfl;have aC:=aZ ZS.1 16 _ rfl;clear ZS;go_simp;(try(with_reducible rfl)));(try simp only[aS]))
 refine cH hQ 2 a7 ?_;refine cH hQ 3 a7 ?_;(refine o7 (i:=4) (v:=?_) rfl rfl Tc3 (fun _ _ _ h=>hQ _ _ _ _ _ h) (Or.inl ⟨Tc7,?_⟩) a7 ?_;rotate_left;(intro w ZS;have r0:=aZ ZS.2.2 0 _ rfl;clear ZS;go_simp;(try(with_reducible rfl)));(try simp only[aS]))
 refine lR 5 fun K hK=>?_;go_simp;refine(Mf (ok:=ok) g a r pv k p.1 d w.drew ((ck.moves aO.moves).mv ⟨bk _,fun b _ hb=>⟨hb,rfl⟩⟩ kf.o) hd.o CD).mono ?_;rintro e w6 ⟨rfl,mw⟩;have a5:Below w.1.size w w6:=⟨mw.os,mw.tape,mw.output,mw.size,mw.block⟩;refine hK.o _ _ (HS.o _ a5) ?_;clear hK K a7;replace a5:=aa a5;clear mw;have a7:=HS.o _ a5.o;have G2:=ae w6 (.cells (Tau d.name p.1) 53);have aj:=aa ((hO.o.below a5.o).below G2);have pL:=aa G2;have PF:=cA hB a5.o.size;have a9:=aa (b9 w6 (.cells (Tau d.name p.1) 53));clear G2;refine lR 6 fun K hK=>?_;go_simp;refine hK.o _ _ (HS.o _ (a5.o.trans (pL.o.mono a5.o.size))) ?_;clear hK K a7;generalize ak:AI w6 _=w7 at *;generalize aD:w6.1.size=b7 at *;clear ak;refine aP Tc3 rfl ?_;simp only[cQ,cL,km]
 go_wp2_with(at_builtin;refine dX aQ.moves underlying49 hi.o du.o On.o RC.o rfl Tc4 Tc4 rfl _ _ rfl B (fun _=>False) v l ⟨false,d.name,p.1⟩ rfl aj.o b7 1 [.bool false,.string d.name,.int .i64 p.1] rfl rfl rfl ?d3 ?d4 ?d5 ?d6 (fun _ _ f=>f) ?_)
 all_goals first|(case d3=>(simp[GS]))|(case d4=>(intro j y hy;rw[eJ];exact aZ a9.o j y hy))|(case d4=>(intro j y hy;exact aZ a9.o j y hy))|(case d5=>omega)|(case d6=>omega)|(case d6=>(have:=pL.o.size;omega))|skip
 intro gb cap w3 hp;have CT:∀j,j<w.1.size->v.ownBlock≠some j->w3.1[j]?=w.1[j]?:=fun j hj hn=>(hp.grown.block j (by have:=a5.o.size;have:=pL.o.size;omega) (fun e=>hn e.symm)).trans ((pL.o.block j (by have:=a5.o.size;omega)).trans (a5.o.block j hj));have a8:=(CT Bl hbl hne).trans HL.o;have z0:=aZ a8 0 _ rfl;have zf:=sK a8;have QP:=aa a8;have HOW:=aa hp.own;have am:=aa CT;have PS:Hid (w.1.size<=w3.1.size/\w3.os=w.os/\w3.tape=w.tape/\w3.output=w.output):=aa ⟨by have:=a5.o.size;have:=pL.o.size;have:=hp.grown.size;omega,hp.grown.os.trans (pL.o.os.trans a5.o.os),hp.grown.tape.trans (pL.o.tape.trans a5.o.tape),hp.grown.output.trans (pL.o.output.trans a5.o.output)⟩;clear hp a8 CT;go_wp2;refine HK.o _ _ _ _ _ _ _ _ _ _ ?_ (block_setCell (i:=0) _ QP.o) (fun b hb h1 h2=>(bw _ _ _ _ h1).trans (am.o b hb h2)) (by simp[AF];exact PS.o.1) PS.o.2.1 PS.o.2.2.1 PS.o.2.2.2;exact iC.keep (B:=B) HOW.o Tdd fun j e=>bw _ _ _ _ (fun e'=>by subst e';exact iC.notT (B:=B) HOW.o QP.o Tc4 e)
attribute [local go_sem] Oper.semAt_some
def jb(l:List (Nat × (Int × Int))):Int:=(l.map (·.2.2)).sum
def arN(g:af)(x:Nat × (Int × Int)):aR:=⟨false,(g.Gb.getD x.1 gT).name,x.2.1⟩
def sj(e:Int)(pre:List (Nat × (Int × Int))):Prop:=∀a5,ni e (pre++a5)=(pre++(ni (e-jb pre) a5).1,(ni (e-jb pre) a5).2)
def sj.nil(e:Int):sj e []:=fun a5=>by simp[jb]
def wQ(pre:List (Nat × (Int × Int)))(x:Nat × (Int × Int)):jb (pre++[x])=jb pre+x.2.2:=by simp[jb]
def sj.snoc{pre:List (Nat × (Int × Int))}(h:sj e pre)(h0:¬e-jb pre<=0)(x:Nat × (Int × Int)):sj e (pre++[x]):=fun a5=>by
 rw[cV,h,List.singleton_append,ni,bh h0,wQ,show e-(jb pre+x.2.2)=e-jb pre-x.2.2 by omega];simp
def sj.done{pre:List (Nat × (Int × Int))}(h:sj e pre):ni e pre=(pre,e-jb pre):=by
 have:=h [];rw[eM]at this;rw[this];simp[ni]
def sj.stop{pre a5:List (Nat × (Int × Int))}(h:sj e pre)(h0:e-jb pre<=0):ni e (pre++a5)=(pre,e-jb pre):=by
 rw[h];cases a5 with
 |nil=>simp[ni]
 |cons x l=>simp[ni,h0]
def BK(xs:List (List (Int × Int))):(gW xs).attach.map (·.1)=gW xs:=List.attach_map_subtype_val _
def pK.below{n₀:Nat}{w':World}(h:pK n₀ w px xs)(hb:Below n₀ w w'):pK n₀ w' px xs:=fun k x hx=>by
 obtain⟨bx,p,c,h1,h2,h3,h4,h5,h6⟩:=h k x hx;refine⟨bx,p,c,h1,h2,(cd (w:=w) (a:=⟨bx,k,none⟩) (hb.block bx h2)).trans h3,h4,h5,fun h0=>?_⟩;obtain⟨b,off,e1,e2,e3⟩:=h6 h0;exact⟨b,off,e1,e2,fun i p hp=>⟨(cd (w:=w) (a:=⟨b,off+i*2,none⟩) (hb.block b e2)).trans (e3 i p hp).1,(cd (w:=w) (a:=⟨b,off+i*2+1,none⟩) (hb.block b e2)).trans (e3 i p hp).2⟩⟩
def MI(g:af)(a:bN)(r:aY)(px:Option Addr)(cx b0:Nat)(xs:List (List (Int × Int)))(W5:World)(pre:List (Lj xs))(W:World):Prop:=∃v,W.1[b0+1]?=some (.cells #[v] 49 (0,0))/\W.1[b0+2]?=some (.cells #[.int .i64 (r.Gc-jb (pre.map (·.1)))] 3 (0,0))/\iC (b0+4) W v ((pre.map (·.1)).map (arN g))/\W.1[b0]?=some (.cells (Taf g a r xs.length px cx) 97 (0,0))/\Below b0 W5 W/\W5.1.size<=W.1.size/\sj r.Gc (pre.map (·.1))/\pre.length<=(gW xs).length
def Oe(g:af)(a:bN)(r:aY)(px:Option Addr)(cx b0:Nat)(xs:List (List (Int × Int)))(W5:World)(c:Code)(pre:List (Lj xs))(W:World):Prop:=c=.exit 0/\∃a5 x,pre=a5++[x]/\r.Gc-jb (a5.map (·.1))<=0/\MI g a r px cx b0 xs W5 a5 W
def MI.own{g:af}{a:bN}{r:aY}{cx b0:Nat}{W5:World}(a8:W5.1.size=b0+4):OwnFrom W5.1.size (MI g a r px cx b0 xs W5):=by
 rintro pre W W' row ⟨v,h1,h2,h3,h4,h5,h6,h7,h8⟩ hg hr;obtain⟨cs,a5,a7⟩:=h3;exact⟨v,xu hg hr h1,xu hg hr h2,⟨cs,keepR hg hr a5,Flat.moves aQ.moves ⟨hg.size,fun b _ f=>f.elim⟩ _ _ a7⟩,xu hg hr h4,h5.grown hg Tc1 (fun k e=>by have:=(hr k e).1;omega),cA h6 hg.size,h7,h8⟩
def iX{W:World}{o:Obj}(h:W.1[k]?=some o):k<W.1.size:=(DS.1 h).1
def iC.notObj{o:Obj}(h:iC B w v l)(hk:w.1[k]?=some o)(ho:o.isCells=false):v.ownBlock≠some k:=fun e=>by
 obtain⟨_,hw,_⟩:=h;rcases hw.2 with⟨rfl,_⟩|⟨g,cap,a5,rfl,_,TK,_⟩
 ·cases e
 obtain rfl:g=k:=by injection e
 rw[hk]at TK;injection TK with TK;subst TK;cases ho
noncomputable def LU(f:Func):Code:=((f.body.bind LG).getD .skip)
def MO{ok:Nat->Prop}(Q:Exit->Act->World->Prop){c0 c6 c7 c8 c10:Value}(g:af)(a:bN)(r:aY)(px:Option Addr)(cx b0:Nat)(xs:List (List (Int × Int)))(W5:World)(au:W5.1.size=b0+4)(hq:uy r)(kf:ck aO 7 (fun b=>ok b/\b<b0) W5 [.slice a.dp g.Gb.length a.dc] g.Gb)(CD:g.Gb.length<=1000)(vh:xs.length=g.Gb.length)(OI:xs.length<=cx/\cx<=9223372036854775807)
  (hr:pK b0 W5 px xs) (aw:∀x∈xs,x.length<=10000) (hyl:(gW xs).length<=100000) (ay:∀y∈gW xs,y.1<g.Gb.length/\1<=y.2.2/\y.2.2<=1000000) (az:∀pre:List (Lj xs),pre.length<=(gW xs).length->0<=jb (pre.map (·.1))/\jb (pre.map (·.1))<=1000000000000)
  (aA:W5.1[b0+3]?=some (.cells (Taf g a r xs.length px cx) 97 (0,0))) (aB:W5.1[b0]?=some (.cells (Taf g a r xs.length px cx) 97 (0,0))) (aC:W5.1[b0+1]?=some (.cells #[.slice none 0 0] 49 (0,0))) (aD:W5.1[b0+2]?=some (.cells #[.int .i64 r.Gc] 3 (0,0)))
  (HK:Hid (∀(D:Nat) (v:Value) (l:List (Nat × (Int × Int))) (W:World),(ni r.Gc (gW xs)).1=l->W.1[b0+1]?=some (.cells #[v] 49 (0,0))->W.1[b0+2]?=some (.cells #[.int .i64 (ni r.Gc (gW xs)).2] 3 (0,0))->iC (b0+4) W v (l.map (arN g))->Below b0 W5 W->W5.1.size<=W.1.size->W5.1.size<=D->W.1[D]?=some (.deferred (some []))->Q .normal ⟨#[c0,.pointer (some b0),c2,c3,.pointer (some (Tac (b0+1) 0)),.pointer (some (Tac (b0+2) 0)),c6,c7,c8,c9,c10,TO,.func (.func 133) #[] #[.pointer (some (Tac (b0+3) 0))],St,Rr,RE,RK,SO,Se,Sf,To,Wg,aE,Wr,ZD,UP,US,ab,ao,fa,dj,dq,eS],[{ target:=.collected D,args:=#[] }]⟩ W)) (aF:Hid (∀(D:Nat) (v:Value) (l:List (Nat × (Int × Int))) (W:World),(ni r.Gc (gW xs)).1=l->W.1[b0+1]?=some (.cells #[v] 49 (0,0))->W.1[b0+2]?=some (.cells #[.int .i64 (ni r.Gc (gW xs)).2] 3 (0,0))->iC (b0+4) W v (l.map (arN g))->Below b0 W5 W->W5.1.size<=W.1.size->W5.1.size<=D->W.1[D]?=some (.deferred (some []))->Q (.exit 0) ⟨#[c0,.pointer (some b0),c2,c3,.pointer (some (Tac (b0+1) 0)),.pointer (some (Tac (b0+2) 0)),c6,c7,c8,c9,c10,TO,.func (.func 133) #[] #[.pointer (some (Tac (b0+3) 0))],St,Rr,RE,RK,SO,Se,Sf,To,Wg,aE,Wr,ZD,UP,US,ab,ao,fa,dj,dq,eS],[{ target:=.collected D,args:=#[] }]⟩ W)) :
  (LU Tryz.f42).wp prog Q ⟨#[c0,.pointer (some b0),c2,c3,.pointer (some (Tac (b0+1) 0)),.pointer (some (Tac (b0+2) 0)),c6,c7,c8,c9,c10,TO,.func (.func 133) #[] #[.pointer (some (Tac (b0+3) 0))],St,Rr,RE,RK,SO,Se,Sf,To,Wg,aE,Wr,ZD,UP,US,ab,ao,fa,dj,dq,eS],[]⟩ W5:=by
 conv=>arg 2;whnf
 refine(wpIn_wide (n:=3)).1 ?_;refine wpIn_rangeFunc_ownH (F:=Fence.wide) rfl Tc1 (gf:=133) (lb:=#[.pointer (some (Tac (b0+3) 0))]) rfl trivial (enters_of func133 Tc3 rfl)
  (ug (3-1) b0 (b0+3) Tc1 W5 px cx xs (aZ aA 16 _ rfl) OI Tc1 Tc1 hr Tc1 (fun x hx=>by have:=aw x hx;omega))
  Below.trans (fun W l o o' hl h h1 h2=>belowK_b (w:=W5) Tc1 W l o o' hl h h1 h2) (bj _ _) (fun _=>rfl)
  (MI g a r px cx b0 xs W5)
  (Oe g a r px cx b0 xs W5) ?own ?ownx ?init
  (fun x a' W=>∃Br,W.1[Br]?=some (.cells #[.int .i64 x.1.2.1,.int .i64 x.1.2.2] 55 (0,0))/\W5.1.size<=Br/\a'=⟨#[c0,.pointer (some b0),c2,c3,.pointer (some (Tac (b0+1) 0)),.pointer (some (Tac (b0+2) 0)),.int .i64 (x.1.1:Int),.pointer (some ⟨Br,0,none⟩),c8,c9,c10,TO,.func (.func 133) #[] #[.pointer (some (Tac (b0+3) 0))],.int .i64 (x.1.1:Int),.agg #[.int .i64 x.1.2.1,.int .i64 x.1.2.2],RE,RK,SO,Se,Sf,To,Wg,aE,Wr,ZD,UP,US,ab,ao,fa,dj,dq,eS],[]⟩) ?ax ?assign ?body ?done ?stop
 case own=>exact MI.own au
 case init=>exact⟨.slice none 0 0,aC,by simpa[jb]using aD,iC.nil _ _,aB,bj _ _,bk _,sj.nil _,cg _⟩
 case ownx =>
  rintro c pre W W' row ⟨rfl,a5,x,rfl,h0,hI⟩ hg hr;exact⟨rfl,a5,x,rfl,h0,MI.own au a5 W W' row hI hg hr⟩
 case ax =>
  rintro x a' _ W W' row ⟨Br,h1,h2,h3⟩ hg hr;exact⟨Br,xu hg hr h1,h2,h3⟩
 case assign =>
  rintro l pre x W K ⟨v,h1,h2,h3,h4,h5,h6,h7,h8⟩ hK;have HI:=aa (⟨h1,h2,h3,h4,h5,h7,h8⟩:_/\_/\_/\_/\_/\_/\_);clear h1 h2 h3 h4 h5 h7 h8;have HK:=aa hK;clear hK;simp only[Nh,List.zip_toArray,List.zip_cons_cons,List.zip_nil_right,List.foldl_toArray,cF,cq,xT,List.set_cons_succ,List.set_cons_zero];gi_wp2
  obtain⟨h1,h2,h3,h4,h5,h7,h8⟩:=HI.o;have PX:=ae W (.cells #[.int .i64 x.1.2.1,.int .i64 x.1.2.2] 55);refine HK.o _ _ ((KeepsOthers.alloc _ _).from _) (PX.mono Tc1) ⟨v,(PX.block _ (aq h1)).trans h1,(PX.block _ (aq h2)).trans h2,h3.below PX,(PX.block _ (aq h4)).trans h4,h5.trans (PX.mono Tc1),cA h6 PX.size,h7,h8⟩ ⟨W.1.size,b9 W _,h6,rfl⟩
 case body =>
  rintro lr pre x a' W aI _ ⟨v,h1,h2,h3,h4,h5,h6,h7,h8⟩ ⟨Br,k1,k2,rfl⟩ hlt;have e0:=aZ h2 0 _ rfl;have HI:=aa (⟨h1,h2,h3,h4,h5,h7,h8⟩:_/\_/\_/\_/\_/\_/\_);replace k1:=aa k1;clear h1 h2 h3 h4 h5 h7 h8;by_cases hr0:r.Gc-jb (pre.map (·.1))<=0
  ·have g0:decide (r.Gc-jb (pre.map (·.1))<=0)=true:=eA hr0;have ak:=aa hr0;clear hr0;gi_wp2
   obtain⟨h1,h2,h3,h4,h5,h7,h8⟩:=HI.o;exact⟨KeepsFrom.refl _ _,rfl,pre,x,rfl,ak.o,v,h1,h2,h3,h4,h5,h6,h7,h8⟩
  have g0:decide (r.Gc-jb (pre.map (·.1))<=0)=false:=cN hr0;have ak:=aa hr0;clear hr0;gi_wp2
  obtain⟨i1,i2,i3,i4,i5,i7,i8⟩:=HI.o;obtain⟨aG,hy2,aJ⟩:=ay x.1 x.2;obtain⟨d,hd⟩:=aj g.Gb x.1.1 aG;have aK:=az pre Tc1;refine Ni (ok:=fun b=>ok b/\b<b0) _ lr 1 W g a r _ v (b0+4) b0 (b0+1) Br x.1.1 d x.1.2 ((pre.map (·.1)).map (arN g)) i4 i1 k1.o i3 Tc1 (by simp only[fW];omega) ((ck.moves aO.moves).mv ⟨h6,fun b _ hb=>⟨hb,i5.block b hb.2⟩⟩ kf) hd Tc1 (aa ?_) (fun _ _ _ _ _ h=>h) (fun⟨_,_,h⟩=>h);intro v' W' u17 u18 u19 u20 u21 u22 u23 u24 ho ag a7 mu hos ah ai;have mA:∀b,v.ownBlock=some b->b0+4<=b:=fun b e=>(i3.ge e).1;have a8:W'.1[b0+2]?=some (.cells #[.int .i64 (r.Gc-jb (pre.map (·.1)))] 3 (0,0)):=(a7 _ Tc1 Tc1 (fun e=>by have:=mA _ e;omega)).trans i2;have av:W'.1[Br]?=some (.cells #[.int .i64 x.1.2.1,.int .i64 x.1.2.2] 55 (0,0)):=(a7 _ (aq k1.o) Tc1 (i3.notT k1.o Tc4)).trans k1.o;have e1:=aZ a8 0 _ rfl;have ef:=sK a8 0;have r1:=aZ av 1 _ rfl;have hw:IntKind.i64.wrap (r.Gc-jb (pre.map (·.1))-x.1.2.2)=r.Gc-jb (pre.map (·.1))-x.1.2.2:=dy _ (by have:=hq.e;omega);have HX:=aa (⟨i1,i2,i3,i4,i5,i7,i8,ho,ag,a7,hos,ah,ai,a8,hd⟩:_/\_/\_/\_/\_/\_/\_/\_/\_/\_/\_/\_/\_/\_/\_);clear i1 i2 i3 i4 i5 i7 i8 ho ag a7 hos ah ai a8 av hd
  gi_wp2
  obtain⟨i1,i2,i3,i4,i5,i7,i8,ho,ag,a7,hos,ah,ai,a8,hd⟩:=HX.o;have Rn:∀(u:Value) k,k≠b0+2->(W'.setCell (Tac (b0+2) 0) u).1[k]?=W'.1[k]?:=fun u k e=>bw _ _ _ _ e;have Ud:∀u:Value,(W'.setCell (Tac (b0+2) 0) u).1.size=W'.1.size:=fun u=>by simp[AF]
  have PD:∀u:Value,Below b0 W (W'.setCell (Tac (b0+2) 0) u):=fun u=>⟨hos,ah,ai,by rw[Ud];exact mu,fun b hb=>(Rn u b Tc1).trans (a7 b Tc1 Tc1 (fun e=>by have:=mA _ e;omega))⟩;refine⟨⟨by rw[Ud];exact mu,fun k o hk am hk2=>(Rn _ k Tc1).trans ((a7 k (iX am) Tc1 (i3.notObj am hk2)).trans am)⟩,PD _,v',(Rn _ _ Tc1).trans ag,?_,?_,(Rn _ _ Tc1).trans ((a7 _ Tc1 Tc1 (fun e=>by have:=mA _ e;omega)).trans i4),i5.trans (PD _),(by rw[Ud];exact cA h6 mu),?_,?_⟩
  ·have:=block_setCell (i:=0) (.int .i64 (r.Gc-jb (pre.map (·.1))-x.1.2.2)) a8;rw[gl,L7,wQ,show r.Gc-(jb (pre.map (·.1))+x.1.2.2)=r.Gc-jb (pre.map (·.1))-x.1.2.2 by omega];exact this
  ·rw[gl,gl,L7,L7];have ha:arN g x.1=⟨false,d.name,x.1.2.1⟩:=by unfold arN;rw[List.getD_eq_getElem?_getD,hd];rfl
   rw[ha];exact iC.keep (B:=b0+4) ho (by rw[Ud];exact bk _) fun k e=>Rn _ k (by have:=(iC.ge ho e).1;omega)
  ·rw[gl,L7];exact i7.snoc (by have:=ak.o;omega) _
  rw[cD,A4];exact hlt
 case done =>
  rintro D ys W hD rfl ⟨v,h1,h2,h3,h4,h5,h6,h7,h8⟩ hK;rw[BK]at h2 h3 h7;have a9:=h7.done;exact HK.o D v (gW xs) W (by rw[a9]) h1 (by rw[a9];exact h2) h3 h5 h6 hD hK
 case stop =>
  rintro D c pre W hD ⟨aL,aH⟩ ⟨rfl,a5,x,rfl,h0,⟨v,h1,h2,h3,h4,h5,h6,h7,h8⟩⟩ hK;have a9:ni r.Gc (gW xs)=(a5.map (·.1),r.Gc-jb (a5.map (·.1))):=by
   have e1:=fj (List.map fun z:Lj xs=>z.1) aH;rw[BK,cV,gl]at e1;exact(fj (ni r.Gc) e1.symm).trans (h7.stop h0)
  refine wpIn_exit ?_;exact aF.o D v (a5.map (·.1)) W (by rw[a9]) h1 (by rw[a9];exact h2) h3 h5 h6 hD hK
end Go.Proofs.YtaagglbgohjldaaGreatDoor
namespace Go.Proofs.YtaagglbgohjldaaGreatDoor
open Go.Proofs.Tryz
open Go.RowKit
variable {xs:List (List (Int × Int))}
def wE:∀(i:Nat) (xs:List (List (Int × Int))) (y:Nat × (Int × Int)),y∈nU i xs->∃k x,xs[k]?=some x/\y.1=i+k/\y.2∈x
 |_,[],_,h=>by cases h
 |i,x :: r,y,h=>by
  rw[nU,oT]at h;rcases h with h|h
  ·obtain⟨p,hp,rfl⟩:=As.1 h;exact⟨0,x,rfl,rfl,hp⟩
  obtain⟨k,x',hk,e,hp⟩:=wE (i+1) r y h;exact⟨k+1,x',by simpa using hk,Tc1,hp⟩
def Hw(m:Nat):∀(i:Nat) (xs:List (List (Int × Int))),(∀x∈xs,x.length<=m)->(nU i xs).length<=xs.length*m
 |_,[],_=>by simp[nU]
 |i,x :: r,h=>by
  rw[nU,cD,fW,cS,Oy,Nat.one_mul];have h1:=Hw m (i+1) r (fun y hy=>h y (kn _ hy));have h2:=h x (cG ..);omega
structure zb(n:Nat)(xs:List (List (Int × Int))):Prop where
 n8:n<=8
 len:xs.length=n
 x1:∀x∈xs,x.length<=4096
 yl:(gW xs).length<=100000
 yy:∀y∈gW xs,y.1<n/\0<=y.2.1/\1<=y.2.2/\y.2.1+y.2.2<=4096
def Mi:∀(l:List (Nat × (Int × Int))),(∀y∈l,1<=y.2.2/\y.2.2<=4096)->0<=jb l/\jb l<=l.length*4096
 |[],_=>by simp[jb]
 |y :: l,h=>by
  have h1:=Mi l (fun z hz=>h z (kn _ hz));have h2:=h y (cG ..);simp only[jb,iu,List.sum_cons,cS]at h1 ⊢;omega
def zb.sum{n:Nat}(h:zb n xs)(pre:List (Lj xs))(hp:pre.length<=(gW xs).length):0<=jb (pre.map (·.1))/\jb (pre.map (·.1))<=1000000000000:=by
 have h1:=Mi (pre.map (·.1)) (fun y hy=>by
  obtain⟨z,-,rfl⟩:=As.1 hy;have:=h.yy z.1 z.2;omega)
 have h2:=h.yl;rw[fW]at h1;omega
def LC:∀(x:List (Int × Int)),(∀p∈x,1<=p.2)->(x.length:Int)<=Aw x
 |[],_=>by simp[Aw]
 |p :: x,h=>by
  have h1:=LC x (fun q hq=>h q (kn _ hq));have h2:=h p cG;simp only[Aw,iu,List.sum_cons,cS]at h1 ⊢;omega
def tK.runs{g:af}{r:aY}(hp:E9 g)(h:tK g r xs)(hl:xs.length=g.Gb.length):zb g.Gb.length xs:=by
 have hb:∀(i:Nat) (x:List (Int × Int)),xs[i]?=some x->x.length<=4096/\∀p∈x,0<=p.1/\1<=p.2/\p.1+p.2<=4096:=fun i x hx=>by
  obtain⟨d,hd⟩:=aj g.Gb i (by have:=(AT.1 hx).1;omega);obtain⟨h1,-,-⟩:=h i d x hd hx;have vu:=hp.de d (ct hd);have hS:∀n,kI g r d n->0<=n/\n<d.Gc:=fun n q=>(GG q).1;refine⟨?_,fun p a5=>?_⟩
  ·have a1:=LC x h1.1.1;have a2:=h1.sum_bd vu.1 hS;omega
  have q1:=h1.1.1 p a5;have q2:=hS p.1 ((h1.2 p.1).1 ⟨p,a5,Tc1,Tc1⟩);have q3:=hS (p.1+p.2-1) ((h1.2 _).1 ⟨p,a5,Tc1,Tc1⟩);omega
 have a7:∀x∈xs,x.length<=4096:=fun x hx=>by
  obtain⟨i,hi⟩:=List.mem_iff_getElem?.1 hx;exact(hb i x hi).1
 have CD:=hp.dl;refine⟨CD,hl,a7,?_,fun y hy=>?_⟩
 ·have h2:(gW xs).length<=xs.length*4096:=Hw 4096 0 xs a7;have h3:xs.length*4096<=8*4096:=tA _ Tc1;omega
 obtain⟨k,x,hx,e,hy2⟩:=wE 0 xs y hy;have:=(AT.1 hx).1;have h4:=(hb k x hx).2 y.2 hy2;exact⟨Tc1,h4⟩
def Bo(e:Int)(o:Option (Nat × (Int × Int)))(x:Nat × (Int × Int)):Option (Nat × (Int × Int)) :=
 if e<=x.2.2 then(match o with
  |none=>some x
  |some y=>if x.2.2<y.2.2 then some x else some y) else o
def mq(e:Int)(l:List (Nat × (Int × Int))):Option (Nat × (Int × Int)):=l.foldl (Bo e) none
def Mx(e:Int)(l:List (Nat × (Int × Int)))(x:Nat × (Int × Int)):mq e (l++[x])=Bo e (mq e l) x:=by simp[mq,List.foldl_append]
open Classical in
noncomputable def Ob(e:Int)(an:Bool)(cl:Nat->ByteArray)(d:Nat):Nat->Int->Int->List (Nat × Int)->List (Nat × Int)
 |0,_,_,s=>s
 |f+1,st,n,s=>if e<=n/\(an=true\/cl d ∉ s.map fun p=>cl p.1) then Ob e an cl d f (st+e) (n-e) (s++[(d,st)]) else s
open Go.Maps Go.Shelf
variable {g:af}{i B b:Nat}{d:az}{nm:ByteArray}{e:ByteArray × Int}{x:List (Int × Int)}{r:aY}{p:Int × Int}{y:Nat × (Int × Int)}{xs:List (List (Int × Int))}{w:World}{v:Value}{l:List aR}
def Ms(hc:K5 g)(hd:g.Gb[i]?=some d)(he:e∈jE g nm)(hn:e.1=d.name):Mem (fM d.name d.Gc (pieces g.F9)) (e.2-1):=by
 unfold jE at he;cases hf:aM g.F9 nm with
 |none =>
  rw[hf]at he;simp[eY,oZ]at he
 |some v =>
  have hv:=eV hf;rw[hf,L2]at he;unfold oZ at he;split at he
  ·rename_i s hs;have a7:=mem_of_getLast? hs;split at he
   ·rename_i hk;obtain⟨a,ha,rfl⟩:=As.1 he;obtain⟨k,Rn⟩:=fc a7;obtain⟨x,-,-,⟨hl,-⟩,-,-,-,-,-,-,-,-,-,hm,-⟩:=DD (hc.sg v hv k s Rn).1;have a9:fP s:=by unfold fP;omega
    have aa:=(hc.pf.tm v hv).2 s a7;have B4:=aa.2.2 a9 a ha;have a5:=hc.re v hv s a7;have a8:fI g s a=true:=by
     unfold mM at a5;split at a5
     ·cases a5
     split at a5
     ·cases a5
     rename_i hall;have hall:s.Ga.all (fI g s)=true:=by simpa using hall
     exact An.1 hall a ha
    have N4:bH g.Gb a.on=some d:=by
     rw[show a.on=d.name from hn];exact hc.pf.df i d hd
    unfold fI at a8;rw[B4,N4,nj,eh,eh,fk,fk,fk,L2]at a8;have ab:1<=iB s.kind s.length s.Ga.length:=by
     unfold iB;split
     ·rename_i hk2;have h0:=hm hk2.1;have hq:=Int.mul_ediv_add_emod s.length s.Ga.length;rw[h0,Int.add_zero]at hq;refine Decidable.byContradiction fun hlt=>?_;have h1:s.length/(s.Ga.length:Int)<=0:=by omega
      have h2:(s.Ga.length:Int)*(s.length/(s.Ga.length:Int))<=0:=Int.mul_nonpos_of_nonneg_of_nonpos Tc1 h1;omega
     exact hl
    refine⟨_,F4.2 ⟨aJ v.name s a,BY.2 ⟨v,hv,BY.2 ⟨s,a7,by unfold aK;rw[aw a9];exact As.2 ⟨a,ha,rfl⟩⟩⟩,⟨hn,a8.1.1,?_,?_⟩,rfl⟩,?_,?_⟩
    ·simp only[aJ];omega
    ·simp only[aJ];omega
    ·simp only[aJ];omega
    simp only[aJ];omega
   simp at he
  simp at he
def L6(hc:K5 g)(hd:g.Gb[i]?=some d)(he:e∈jE g nm)(hn:e.1=d.name)(hx:iE x (xy g d)){r:Int × Int}(hr:r∈x)(h1:r.1<=e.2)(h2:e.2<r.1+r.2):r.1=e.2:=by
 refine Decidable.byContradiction fun hne=>?_;have hf:=(hx.2 (e.2-1)).1 ⟨r,hr,Tc1,Tc1⟩;exact hf.2 (Ms hc hd he hn)
def Mk{es:List (ByteArray × Int)}{f:Int × Int}:p∈nrL es nm f↔p=f/\∃e∈es,e.1=nm/\e.2=f.1:=by
 unfold nrL;rw[ur];refine⟨fun⟨e,he,hp⟩=>?_,fun⟨h,e,he,h1⟩=>⟨e,he,by rw[aw h1];simp[h]⟩⟩;split at hp
 ·rename_i h;exact⟨by simpa using hp,e,he,h⟩
 simp at hp
def vC{y:List (Int × Int)}(hc:K5 g)(hd:g.Gb[i]?=some d)(hx:iE x (kI g r d))(hy:FZ g r d y)(p:Int × Int):p∈y↔p∈x:=by
 unfold FZ at hy;split at hy
 ·rename_i hb;obtain⟨z,hz,-,rfl⟩:=hy;cases hn:uM r with
  |false =>
   rw[bh Tc2];rw[hz.eq (tq hb hn hz) fun n=>?_,hx.eq (tq hb hn hz) fun _=>Iff.rfl];unfold kI;rw[hb,hn];simp
  |true =>
   rw[aw rfl];have hq:iE (z.filter fun f=>(jE g r.near).any fun e=>decide (e.1=d.name)&&decide (e.2=f.1)) (kI g r d):=by
    refine yE hb hn hz ⟨⟨fun q hq=>hz.1.1 q (DP.1 hq).1,hz.1.2.filter _⟩,fun n=>⟨fun⟨f,hf,h1,h2⟩=>?_,fun⟨q,hq,h1,h2⟩=>?_⟩⟩
    ·obtain⟨Yi,a7⟩:=DP.1 hf;obtain⟨e,he,a5⟩:=Ft.1 a7;rw[eh,fk,fk]at a5;have a8:=hz.1.1 f Yi;refine⟨(e.2,f.1+f.2-e.2),BY.2 ⟨e,he,List.mem_filterMap.2 ⟨f,Yi,aw ⟨a5.1,Tc1,Tc1⟩⟩⟩,?_,?_⟩
     ·show e.2<=n;omega
     show n<e.2+(f.1+f.2-e.2);omega
    obtain⟨e,he,hen,h3,f,hf,h4,h5,h6⟩:=Dl hq;have:=L6 hc hd he hen hz hf h4 h5;exact⟨f,DP.2 ⟨hf,Ft.2 ⟨e,he,by simp[hen,this]⟩⟩,Tc1,Tc1⟩
   rw[hx.eq hq fun _=>Iff.rfl,ur,DP];refine⟨fun⟨f,hf,hp⟩=>?_,fun⟨hp,he⟩=>⟨p,hp,?_⟩⟩
   ·obtain⟨rfl,e,he,h1,h2⟩:=Mk.1 hp;exact⟨hf,Ft.2 ⟨e,he,by simp[h1,h2]⟩⟩
   obtain⟨e,he,h1⟩:=Ft.1 he;rw[eh,fk,fk]at h1;exact Mk.2 ⟨rfl,e,he,h1⟩
 rename_i hb;rw[hy,NJ hx fun n h=>hb h.1]
def Ld :y∈gW xs↔∃x,xs[y.1]?=some x/\y.2∈x:=by
 refine⟨fun h=>?_,fun⟨x,h1,h2⟩=>?_⟩
 ·obtain⟨k,x,h1,h2,h3⟩:=wE 0 xs y h;exact⟨x,by rw[h2,eJ];exact h1,h3⟩
 obtain⟨m,hm⟩:=fc h2;exact ct (IJ h1 hm)
def Ez{e:Int}:∀(l:List (Nat × (Int × Int))) (o:Option (Nat × (Int × Int))),(∀z,o=some z->e<=z.2.2)->l.foldl (Bo e) o=some y ->
  (y∈l\/o=some y)/\e<=y.2.2/\(∀z∈l,e<=z.2.2->y.2.2<=z.2.2)/\∀z,o=some z->y.2.2<=z.2.2
 |[],o,ho,h=>⟨.inr h,ho y h,fun z hz=>by simp at hz,fun z hz=>by rw[show o=some y from h]at hz;injection hz with hz;rw[hz];omega⟩
 |x :: l,o,ho,h=>by
  rw[cF]at h;have hst:∀z,Bo e o x=some z->e<=z.2.2:=fun z hz=>by
   unfold Bo at hz;split at hz
   ·split at hz
    ·injection hz with hz;rw[<- hz];assumption
    split at hz
    ·injection hz with hz;rw[<- hz];assumption
    exact ho z hz
   exact ho z hz
  obtain⟨h1,h2,h3,h4⟩:=Ez l _ hst h;refine⟨?_,h2,?_,?_⟩
  ·rcases h1 with h1|h1
   ·exact .inl (kn _ h1)
   unfold Bo at h1;split at h1
   ·split at h1
    ·injection h1 with h1;exact .inl (by rw[h1];exact cG)
    split at h1
    ·injection h1 with h1;exact .inl (by rw[h1];exact cG)
    exact .inr h1
   exact .inr h1
  ·intro z hz he;rcases F1.1 hz with rfl|hz
   ·unfold Bo at h4;rw[aw he]at h4;split at h4
    ·exact h4 z rfl
    rename_i q;split at h4
    ·exact h4 z rfl
    have:=h4 q rfl;omega
   exact h3 z hz he
  rintro z rfl;unfold Bo at h4;split at h4
  ·simp only at h4;split at h4
   ·have:=h4 x rfl;omega
   exact h4 z rfl
  exact h4 z rfl
structure N8(g:af)(ys:List (List (Int × Int)))(e:Int)(nm:ByteArray)(s n:Int):Prop where
 at_:∃(i:Nat) (d:az) (y:List (Int × Int)),g.Gb[i]?=some d/\ys[i]?=some y/\d.name=nm/\(s,n)∈y
 one:∀(i:Nat) (d:az) (y:List (Int × Int)) (p:Int × Int),g.Gb[i]?=some d->ys[i]?=some y->p∈y->d.name=nm->p.1=s->p.2=n
 le:e<=n
 low:∀(i:Nat) (y:List (Int × Int)) (p:Int × Int),ys[i]?=some y->p∈y->e<=p.2->n<=p.2
def NF.start_inj(h:NF x){q:Int × Int}(hp:p∈x)(hq:q∈x)(e:p.1=q.1):p=q:=by
 have h1:=h.1 p hp;have h2:=h.1 q hq;have Ua:=h.2;rw[It]at Ua;obtain⟨i,hi,rfl⟩:=List.mem_iff_getElem.1 hp;obtain⟨j,hj,rfl⟩:=List.mem_iff_getElem.1 hq;rcases Nat.lt_trichotomy i j with OG|OG|OG
 ·have:=Ua i j hi hj OG;omega
 ·subst OG;rfl
 have:=Ua j i hj hi OG;omega
def NW{ys:List (List (Int × Int))}{e:Int}(hc:K5 g)(hx:tK g r xs)(vh:xs.length=g.Gb.length)(hy:RPX g r ys)(hyl:ys.length=g.Gb.length)(hw:mq e (gW xs)=some y) :
  N8 g ys e (g.Gb.getD y.1 gT).name y.2.1 y.2.2:=by
 obtain⟨h1,h2,h3,-⟩:=Ez (gW xs) none (fun z h=>by cases h) hw;replace h1:=h1.resolve_right (fun h=>by cases h);obtain⟨x,a5,hyx⟩:=Ld.1 h1;have hlt:y.1<g.Gb.length:=by
  have:=(AT.1 a5).1;omega
 obtain⟨d,hd⟩:=aj g.Gb y.1 hlt;obtain⟨z,hz⟩:=aj ys y.1 Tc1;have pD:g.Gb.getD y.1 gT=d:=by rw[List.getD_eq_getElem?_getD,hd];rfl
 rw[pD];have aa:=vC hc hd (hx y.1 d x hd a5).1 (hy y.1 d z hd hz).1;refine⟨⟨y.1,d,z,hd,hz,rfl,(aa y.2).2 hyx⟩,fun i d' y' p hd' a7 hp hn hs=>?_,h2,fun i y' p a7 hp he=>?_⟩
 ·have e1:=hc.pf.df i d' hd';have e2:=hc.pf.df y.1 d hd;rw[hn,e2]at e1;obtain rfl:=gj e1;obtain⟨x',a8⟩:=aj xs i (by have:=(AT.1 hd').1;omega);have hx2:=(hx i d x' hd' a8).1;have a9:=(vC hc hd' hx2 (hy i d y' hd' a7).1 p).1 hp;rw[hx2.eq (hx y.1 d x hd a5).1 fun _=>Iff.rfl]at a9;rw[(hx y.1 d x hd a5).1.1.start_inj a9 hyx hs]
 have hi:i<g.Gb.length:=by
  have:=(AT.1 a7).1;omega
 obtain⟨d',hd'⟩:=aj g.Gb i hi;obtain⟨x',a8⟩:=aj xs i Tc1;have a9:=(vC hc hd' (hx i d' x' hd' a8).1 (hy i d' y' hd' a7).1 p).1 hp;exact h3 (i,p) (Ld.2 ⟨x',a8,a9⟩) he
def iC.slice(h:iC B w v l):∃p n c,v=.slice p n c:=by
 obtain⟨_,ho,_⟩:=h;rcases ho.2 with⟨rfl,_⟩|⟨g,cap,a5,rfl,_⟩
 ·exact⟨_,_,_,rfl⟩
 exact⟨_,_,_,rfl⟩
def kZ(w:World)(B:Nat)(v:Value)(xs:List (List aR)):Prop :=
 ∃vs:List Value,w.ownsRow B 49 1 v xs.length vs/\vs.length=xs.length/\∀(i:Nat) (u:Value) (x:List aR),vs[i]?=some u->xs[i]?=some x->iC B w u x
def kZ.mono{B':Nat}{xs:List (List aR)}(h:kZ w B v xs)(hB:B'<=B):kZ w B' v xs:=by
 exact Tbp
def kZ.cap{xs:List (List aR)}(h:kZ w B v xs):∃p c,v=.slice p xs.length c/\xs.length<=c/\c<=9223372036854775807:=by
 exact Tbq
def kZ.at{p:Option Addr}{n c:Nat}{xs:List (List aR)}(h:kZ w B (.slice p n c) xs){k:Nat}{x:List aR}(hx:xs[k]?=some x) :
  ∃b u,p=some ⟨b,0,none⟩/\B<=b/\b<w.1.size/\w.cell? ⟨b,k,none⟩=some u/\iC B w u x:=by
 exact Ta8
def kZ.one{u:Value}(hb:w.1[b]?=some (.cells #[u] 49 (0,0)))(hB:B<=b)(hu:iC B w u l):kZ w B (.slice (some b) 1 1) [l] :=
 ⟨[u],⟨rfl,.inr ⟨b,1,#[u],rfl,hB,hb,bk _,Tda,rfl,rfl⟩⟩,rfl,fun i y x hy hx=>by
  match i,hy,hx with
  |0,hy,hx =>
   obtain rfl:=gj hy;obtain rfl:=gj hx;exact hu
  |i+1,hy,_=>simp at hy⟩
def iC.one{x:aR}(hb:w.1[b]?=some (.cells (Taw x) 53 (0,0)))(hB:B<=b):iC B w (.slice (some b) 1 1) [x] :=
 ⟨[.bool x.vol,.string x.on,.int .i64 x.start],⟨rfl,.inr ⟨b,1,_,rfl,hB,hb,bk _,Tda,rfl,rfl⟩⟩,[.bool x.vol,.string x.on,.int .i64 x.start],[],rfl,rfl,rfl,Tdc,rfl⟩
def sO:az:=⟨⟨#[112,118,48]⟩,1,0,10,false,false,[]⟩
def NS:ay:=⟨⟨#[97]⟩,0,false,false,[],[⟨0,3,1,[⟨false,⟨#[112,118,48]⟩,2⟩],0,[],⟨#[]⟩,⟨#[]⟩,0,0,0⟩]⟩
def ku:af:=⟨⟨#[118,103]⟩,0,0,1,0,[],[sO],[NS],[]⟩
def JR:aY:=⟨1,1,4,4,⟨#[]⟩,⟨#[]⟩,⟨#[]⟩⟩
def LD:aY:=⟨1,1,6,1,⟨#[]⟩,⟨#[]⟩,⟨#[]⟩⟩
def Nv:kP ku JR=0:=by kernel_rfl
def LY:kP ku LD=0:=by kernel_rfl
def MV:fM sO.name sO.Gc (pieces ku.F9)=[(2,3)]:=by
 have h:pieces ku.F9=[⟨⟨#[97]⟩,⟨#[112,118,48]⟩,2,3⟩]:=by kernel_rfl
 rw[h];rfl
def NU(hb:nD ku r sO=true)(hn:uM r=false)(h:iE x (kI ku r sO)):x=[(0,2),(5,5)]:=by
 refine h.eq (T:=kI ku r sO) ⟨by constructor<;>decide,fun n=>?_⟩ fun _=>Iff.rfl;unfold kI;rw[hb,bh (by rw[hn];decide)];unfold xy;rw[MV,ko,fK,ko];show _↔true=true/\(0<=n/\n<10)/\_;simp only[true_and];omega
def Mm(hb:nD ku r sO=true)(hn:uM r=false)(h:tK ku r xs)(hl:xs.length=1):xs=[[(0,2),(5,5)]]:=by
 match xs,hl with
 |[x],_=>rw[NU hb hn (h 0 sO x rfl rfl).1]
def NL:nD ku JR sO=true:=by kernel_rfl
def NK:nD ku LD sO=true:=by kernel_rfl
attribute [local go_sem] Oper.semAt_some
def NV(ps:List (List aR))(ok:Bool)(w:World)(e:Ending)(w':World):Prop:=∃v,e=.returned (.tuple #[v,ok])/\kZ w' w.1.size v ps/\Below w.1.size w w'
def Me(Q:Exit->Act->World->Prop):∃Q':Exit->Act->World->Prop,(∀e a w,Q' e a w->Q e a w)/\(∀a w,Q .normal a w->Q' .normal a w)/\∀c (a:Act) (d:Tmp) (v:Value) w,Q' (.panic c) (a.put (some d) v) w->Q' (.panic c) a w :=
 ⟨fun e a w=>e=.normal/\Q e a w,fun _ _ _ h=>h.2,fun _ _ h=>⟨rfl,h⟩,fun _ _ _ _ _ h=>nomatch h.1⟩
def Lt(Q:Exit->Act->World->Prop){c0 c1 c2 c3 c6 c7 c8 c9 c10 TO W0 St Rr RE RK SO Se Sf To Wg aE Wr ZD UP US ab ao fa dj dq eS:Value}(ds:List Deferred)(w:World)(Bl Br:Nat)(vp:Option Addr)(vn vc:Nat)(n:Int)(hl:w.1[Bl]?=some (.cells #[.slice vp vn vc] 49 (0,0)))(hr:w.1[Br]?=some (.cells #[n] 3 (0,0)))
  (HK:Hid (∀(u29 a9 u31 u32:Value) (b:Nat) (W:World),Below w.1.size w W->w.1.size<=b->W.1[b]?=some (.cells #[.slice vp vn vc] 49 (0,0))->Q .normal ⟨#[c0,c1,.slice (some b) 1 1,.bool (decide (n<=0)),.pointer (some Bl),.pointer (some Br),c6,c7,c8,c9,c10,TO,W0,St,Rr,RE,RK,SO,Se,Sf,To,Wg,aE,Wr,ZD,UP,US,ab,ao,u29,a9,u31,u32],ds⟩ W)) :
  (Ai Tryz.f42 9).wp prog Q ⟨#[c0,c1,c2,c3,.pointer (some Bl),.pointer (some Br),c6,c7,c8,c9,c10,TO,W0,St,Rr,RE,RK,SO,Se,Sf,To,Wg,aE,Wr,ZD,UP,US,ab,ao,fa,dj,dq,eS],ds⟩ w:=by
 conv=>arg 2;whnf
 obtain⟨Q',a8,a7,hQ⟩:=Me Q;replace a7:=aa a7;refine wp_mono ?_ a8;clear a8;have HS:Hid (∀w':World,Below w.1.size w w'->w'.cell? Bl=some (.slice vp vn vc)/\w'.cell? Br=some (.int .i64 n)):=aa fun w' e=>⟨aZ ((e.block _ (aq hl)).trans hl) 0 _ rfl,aZ ((e.block _ (aq hr)).trans hr) 0 _ rfl⟩;clear hl hr;refine aL (fun w'=>w'.cell? Bl=some (.slice vp vn vc)/\w'.cell? Br=some (.int .i64 n)) 6 [] Tc3 (HS.o _ (bj _ _).drew) (fun a5=>?_);refine cH hQ 0 a5 ?_;refine cH hQ 2 a5 ?_;refine cH hQ 3 a5 ?_;refine lR 1 fun K hK=>?_;go_simp;have hb2:Below w.1.size w (w.drew.alloc (.cells #[.slice vp vn vc] 49)):=(bj w.1.size w).drew.alloc (bk _) _;refine hK.o _ _ (HS.o _ hb2) ?_;clear hK K a5;have a5:=HS.o _ hb2;replace hb2:=aa hb2;refine cH hQ 4 a5 ?_;refine cH hQ 5 a5 ?_;clear hb2;refine aP Tc3 rfl ?_;simp only[cQ,cL,km];go_wp2;exact a7.o _ _ (HK.o _ _ _ _ _ _ ((bj w.1.size w).alloc (bk _) _).drew (bk _) (b9 w _))
def TcQ{p:Prop}(h:p:=by
 ·exact eK.o.trans (H4.o.trans ((J1.o.mono Tc1).trans (belowK_b (w:=w) (bk _) W9 D _ _ Tc1 hK9 rfl rfl)))):p:=h
def TcO{p:Prop}(h:p:=by
 have ho:=H3.o.below J1.o;exact kZ.one ((Q1 b hbl Tc1).trans HN9.o) Tc1 ((ho.keep (by simp[World.putObj]) fun k e=>Q1 k (ho.ge e).2 fun q=>ho.notObj hK9 rfl (q ▸ e)).mono Tc1)):p:=h
def Ta2{p:Prop}(h:p:=by
 intro D v l W hpl h1 h2 h3 h4 h5 h6 hK;obtain⟨vp,vn,vc,rfl⟩:=h3.slice;have hKl:=iX hK;have HK:=aa hK;clear hK;have H1:=aa h1;clear h1;have H2:=aa h2;clear h2;have H3:=aa h3;clear h3;have H4:=aa h4;clear h4;have RL:=aa hpl;clear hpl;go_upto_region 9 with(fail);refine Lt _ _ W _ _ vp vn vc _ H1.o H2.o (aa ?_);intro u29 u30 u31 u32 b W9 hb9 hbz hn9;have hK9:=(hb9.block D hKl).trans HK.o;have J1:=aa hb9;clear hb9;have HN9:=aa hn9;clear hn9;go_wp2;refine⟨Tc2,.inl ⟨_,_,rfl,run_takeDeferred hK9,?_⟩⟩;refine⟨.tuple #[.slice (some b) 1 1,.bool (decide ((ni r.Gc (gW xs)).2<=0))],by simp[results,Tryz.results42,go_sem],?_⟩;have hz9:=J1.o.size;have Q1:∀k,k<W9.1.size->k≠D->(W9.putObj D (.deferred none)).1[k]?=W9.1[k]?:=fun k hk hne=>(grownBy_putObj' W9 D _).block k hk (fun q=>by injection q with q;exact hne q)
 have hbl:=aq HN9.o;refine⟨_,rfl,?_,?_⟩
 ·rw[RL.o];exact TcO
 exact TcQ):p:=h
def Tdi{p:Prop}(h:p:=by show w.1.size<=w.1.size+2;omega):p:=h
def Lm{ok:Nat->Prop}(g:af)(a:bN)(r:aY)(px:Option Addr)(cx:Nat)(xs:List (List (Int × Int)))(w:World)(hq:uy r)(kf:ck aO 7 ok w [.slice a.dp g.Gb.length a.dc] g.Gb)(hx:zb g.Gb.length xs)(OI:xs.length<=cx/\cx<=9223372036854775807)(hr:pK w.1.size w px xs) :
  Calls prog 42 #[.agg (Taf g a r xs.length px cx)] w (NV [((ni r.Gc (gW xs)).1).map (arN g)] (decide ((ni r.Gc (gW xs)).2<=0)) w):=by
 refine callsIn_wide (n:=3) |>.1 ?_;refine callsIn_of_wp_marks func42 rfl trivial ?_ rfl;simp only[ntmps42,List.size_toArray,cS,Ox,Nat.reduceAdd,Nat.reduceSub,Array.replicate_succ,Array.replicate_zero,List.push_toArray,List.append_toArray,List.nil_append,List.cons_append];refine wpIn_wide.2 ?_;have hA1:=ae w (.cells (Taf g a r xs.length px cx) 97);have RW:=b9 w (.cells (Taf g a r xs.length px cx) 97);generalize R0:w.alloc (.cells (Taf g a r xs.length px cx) 97)=W1 at *;have On:W1.1.size=w.1.size+1:=by rw[<- R0];exact cW ..
 have hA2:=ae W1 (.cells #[.slice none 0 0] 49);have kc:=b9 W1 (.cells #[.slice none 0 0] 49);generalize ai:W1.alloc (.cells #[.slice none 0 0] 49)=W2 at *;have RC:W2.1.size=w.1.size+2:=by rw[<- ai,cW,On]
 have hA3:=ae W2 (.cells #[.int .i64 0] 3);have ab:=b9 W2 (.cells #[.int .i64 0] 3);generalize aj:W2.alloc (.cells #[.int .i64 0] 3)=W3 at *;have ak:W3.1.size=w.1.size+3:=by rw[<- aj,cW,RC]
 rw[On]at kc;rw[RC]at ab;have cJ:=aa (hA1.trans ((hA2.mono Tc1).trans (hA3.mono Tc1)));have a7:=aa ((hA3.block _ Tc1).trans ((hA2.block _ Tc1).trans RW));have QP:=aa ((hA3.block _ Tc1).trans kc);have a8:=aa ab;have TO:=aZ ((hA2.block _ Tc1).trans RW) 11 _ rfl;have ag:=aZ a7.o 11 _ rfl;have t3:=aZ a7.o;have r3:=aZ a8.o 0 _ rfl;have rf:=sK a8.o 0;replace kf:=aa kf;have HX:=aa hx;clear hx;replace hr:=aa hr;clear hA1 hA2 hA3 RW kc ab;go_upto_region 3 with(fail);have Rn:∀k,k≠w.1.size+2->(W3.setCell (Tac (w.1.size+2) 0) (.int .i64 r.Gc)).1[k]?=W3.1[k]?:=fun k e=>bw _ _ _ _ e;have Q9:=aa ((Rn _ Tc1).trans a7.o);have WC:=aa ((Rn _ Tc1).trans QP.o);have WD:=aa (block_setCell (i:=0) (.int .i64 r.Gc) a8.o);have eI:=aa (cJ.o.setCell (p:=⟨w.1.size+2,0,none⟩) Tdi (.int .i64 r.Gc));have ah:(W3.setCell (Tac (w.1.size+2) 0) (.int .i64 r.Gc)).1.size=w.1.size+3:=by simp[AF,ak]
 clear Rn r3 rf TO ag t3 a7 QP a8 cJ;generalize am:AF W3 _ _=W4 at *;clear am;have tL:=aZ Q9.o;obtain⟨t0,t1,t2,t3,t4,t5,t6,t7,t8,t9,ao,au⟩:=IE tL;have av:=tL 12 _ rfl;have aw:=tL 13 _ rfl;have ay:=tL 14 _ rfl;have az:=tL 15 _ rfl;have aA:=tL 16 _ rfl;clear tL;go_wp2_with fail;clear t0 t1 t2 t3 t4 t5 t6 t7 t8 t9 ao au av aw ay az aA;refine(Lh g a r _ W4).mono ?_;rintro e w5 ⟨rfl,rfl⟩;have a5:=ae W4 (.cells (Taf g a r xs.length px cx) 97);have a9:=b9 W4 (.cells (Taf g a r xs.length px cx) 97);have aB:(W4.alloc (.cells (Taf g a r xs.length px cx) 97)).1.size=w.1.size+4:=by rw[cW,ah]
 rw[ah]at a9;have eK:=aa (eI.o.trans (a5.mono Tc1));have aC:=aa ((a5.block _ Tc1).trans Q9.o);have aD:=aa ((a5.block _ Tc1).trans WC.o);have aE:=aa ((a5.block _ Tc1).trans WD.o);replace a9:=aa a9;clear a5 Q9 WC WD eI;rw[ah];generalize aF:AI W4 _=W5 at *;clear aF;go_wp2;refine MO (ok:=ok) _ g a r px cx w.1.size xs W5 aB hq ((ck.moves aO.moves).mv ⟨eK.o.size,fun b hb ho=>⟨⟨ho,hb⟩,eK.o.block b hb⟩⟩ kf.o) (by have:=HX.o.n8;omega) HX.o.len OI (hr.o.below eK.o) (fun x hx=>by have:=HX.o.x1 x hx;omega) HX.o.yl (fun y hy=>by have:=HX.o.yy y hy;omega) HX.o.sum a9.o aC.o aD.o aE.o (aa ?_) (aa ?_)
 ·exact Ta2
 exact Ta2
end Go.Proofs.YtaagglbgohjldaaGreatDoor
namespace Go.Proofs.YtaagglbgohjldaaGreatDoor
open Go.Proofs.Tryz
open Go.RowKit Go.Maps Go.Shelf
variable {c2 c3 c9 TO W0 St Rr RE RK SO Se Sf To Wg aE Wr ZD UP US ab ao fa dj dq eS fs gE ff fi fb gn iS c6:Value}{b0:Nat}{g:af}
attribute [local go_sem] Oper.semAt_some
def Oc(w:World)(a:Option Addr)(n c:Nat):(binOp .eql 49 (.slice a n c) (.slice none 0 0)).run prog w=.ok (.bool a.isNone) w:=run_eql_slice_nil w _ _ a n c underlying49
def Oa(w:World)(a:Option Addr)(n c:Nat):(binOp .neq 49 (.slice a n c) (.slice none 0 0)).run prog w=.ok (.bool (!a.isNone)) w:=run_neq_slice_nil w _ _ a n c underlying49
attribute [local go_sem] Oc Oa
def LA{ok:Nat->Prop}(Q:Exit->Act->World->Prop)(lr nn:Nat){c0 c8 c10:Value}(w:World)(g:af)(a:bN)(r:aY)(pv v:Value)(n:Int)(Bt Bl Be Br k:Nat)(d:az)(p:Int × Int)(hne:Bl≠Be)
  (ht:w.1[Bt]?=some (.cells (Taj g a r pv) 97 (0,0))) (hl:w.1[Bl]?=some (.cells #[v] 49 (0,0))) (he:w.1[Be]?=some (.cells #[n] 3 (0,0))) (hr:w.1[Br]?=some (.cells #[.int .i64 p.1,.int .i64 p.2] 55 (0,0)))
  (kf:ck aO 7 ok w [.slice a.dp g.Gb.length a.dc] g.Gb) (hd:g.Gb[k]?=some d) (CD:g.Gb.length<=1000000)
  (HK:Hid (∀(W':World) (b:Nat) (u28 u29 ai u31 u32 u33 u34 u35:Value),w.1.size<=b->W'.1[b]?=some (.cells (Tau d.name p.1) 53 (0,0))->W'.1[Bl]?=some (.cells #[.slice (some ⟨b,0,none⟩) 1 1] 49 (0,0))->W'.1[Be]?=some (.cells #[.int .i64 p.2] 3 (0,0))->(∀b,b<w.1.size->b≠Bl->b≠Be->W'.1[b]?=w.1[b]?)->w.1.size<=W'.1.size->W'.os=w.os->W'.tape=w.tape->W'.output=w.output->Q .normal ⟨#[c0,.pointer (some Bt),c2,c3,.pointer (some Bl),.pointer (some Be),.int .i64 (k:Int),.pointer (some Br),c8,c9,c10,TO,W0,St,Rr,RE,RK,SO,Se,Sf,To,Wg,aE,Wr,ZD,UP,US,ab,u28,u29,ai,u31,u32,u33,u34,u35,fi,fb,gn,iS],[]⟩ W'))
  (hQ:∀c (a:Act) (d:Tmp) (v:Value) w,Q (.panic c) (a.put (some d) v) w->Q (.panic c) a w) (aj:¬LetsOut Q) :
  (NR Tryz.f43 7).wpIn (Fence.wide.inRound lr) nn prog Q ⟨#[c0,.pointer (some Bt),c2,c3,.pointer (some Bl),.pointer (some Be),.int .i64 (k:Int),.pointer (some Br),c8,c9,c10,TO,W0,St,Rr,RE,RK,SO,Se,Sf,To,Wg,aE,Wr,ZD,UP,US,ab,ao,fa,dj,dq,eS,fs,gE,ff,fi,fb,gn,iS],[]⟩ w:=by
 conv=>arg 4;whnf
 have hn1:Bt≠Bl:=fun e=>by
  subst e;rw[ht]at hl;injection hl with hl;injection hl with _ h2 _;exact absurd h2 Tc4
 have hn2:Br≠Bl:=fun e=>by
  subst e;rw[hr]at hl;injection hl with hl;injection hl with _ h2 _;exact absurd h2 Tc4
 have ak:=aq ht;have hbl:=aq hl;have Qu:=aq he;have am:=aq hr;have HL:=aa hl;have HE:=aa he;replace kf:=aa kf;replace hd:=aa hd;have HS:Hid (∀w':World,Below w.1.size w w'->w'.1[Bt]?=some (.cells (Taj g a r pv) 97 (0,0))/\w'.1[Br]?=some (.cells #[.int .i64 p.1,.int .i64 p.2] 55 (0,0))):=aa fun w' e=>⟨(e.block _ ak).trans ht,(e.block _ am).trans hr⟩;clear ht hl hr he;refine Aa (fun w'=>w'.1[Bt]?=some (.cells (Taj g a r pv) 97 (0,0))/\w'.1[Br]?=some (.cells #[.int .i64 p.1,.int .i64 p.2] 55 (0,0))) 9 [] Tc3 aj Tc3 (HS.o _ (bj _ _).drew) (fun a5=>?_)
 (refine o7 (i:=0) (v:=?_) rfl rfl Tc3 (fun _ _ _ h=>hQ _ _ _ _ _ h) (Or.inl ⟨Tc7,?_⟩) a5 ?_;rotate_left;(intro w ZS;have s0:=aZ ZS.1 0 _ rfl;have s1:=aZ ZS.1 1 _ rfl;have s2:=aZ ZS.1 2 _ rfl;have s3:=aZ ZS.1 3 _ rfl;have s4:=aZ ZS.1 4 _ rfl;have s5:=aZ ZS.1 5 _ rfl;have s6:=aZ ZS.1 6 _ rfl;have s7:=aZ ZS.1 7 _ rfl;have s8:=aZ ZS.1 8 _ rfl;have s9:=aZ ZS.1 9 _ rfl;have ay:=aZ ZS.1 10 _ rfl;have aA:=aZ ZS.1 11 _ rfl;have aB:=aZ ZS.1 12 _ rfl;have aC:=aZ ZS.1 13 _ rfl;have aD:=aZ ZS.1 14 _ rfl;have aF:=aZ ZS.1 15 _ rfl;have aG:=aZ ZS.1 16 _ rfl;clear ZS;go_simp;(try(with_reducible rfl)));(try simp only[aS]))
 refine cH hQ 1 a5 ?_;refine cH hQ 2 a5 ?_;(refine o7 (i:=3) (v:=?_) rfl rfl Tc3 (fun _ _ _ h=>hQ _ _ _ _ _ h) (Or.inl ⟨Tc7,?_⟩) a5 ?_;rotate_left;(intro w ZS;have r0:=aZ ZS.2 0 _ rfl;clear ZS;go_simp;(try(with_reducible rfl)));(try simp only[aS]))
 refine cH hQ 6 a5 ?_;(refine o7 (i:=7) (v:=?_) rfl rfl Tc3 (fun _ _ _ h=>hQ _ _ _ _ _ h) (Or.inl ⟨Tc7,?_⟩) a5 ?_;rotate_left;(intro w ZS;have r1:=aZ ZS.2 1 _ rfl;clear ZS;go_simp;(try(with_reducible rfl)));(try simp only[aS]))
 refine lR 4 fun K hK=>?_;go_simp;refine(Mf (ok:=ok) g a r pv k p.1 d w.drew ((ck.moves aO.moves).mv ⟨bk _,fun b _ hb=>⟨hb,rfl⟩⟩ kf.o) hd.o CD).mono ?_;rintro e w6 ⟨rfl,mw⟩;have a7:Below w.1.size w w6:=⟨mw.os,mw.tape,mw.output,mw.size,mw.block⟩;refine hK.o _ _ (HS.o _ a7) ?_;clear hK K a5;replace a7:=aa a7;clear mw;have a5:=HS.o _ a7.o;have G2:=ae w6 (.cells (Tau d.name p.1) 53);have pL:=Zbl a7 G2;have au:=aa (b9 w6 (.cells (Tau d.name p.1) 53));clear G2;refine lR 5 fun K hK=>?_;go_simp;refine hK.o _ _ (HS.o _ pL.o) ?_;clear hK K a5;have av:=a7.o.size;generalize aw:AI w6 _=w7 at *;generalize aH:w6.1.size=b7 at *;clear aw;have a8:=(pL.o.block _ hbl).trans HL.o;have a9:=(pL.o.block _ Qu).trans HE.o;have z0:=aZ a8 0 _ rfl;have zf:=sK a8;have y0:∀V:Value,(w7.setCell Bl V).cell? Be=some (.int .i64 n):=fun V=>aZ ((bw _ _ _ _ (fun e=>hne e.symm)).trans a9) 0 _ rfl;have yf:∀(V:Value) (i:Nat),(w7.setCell Bl V).frozen? (Be,i)=false:=fun V=>sK ((bw _ _ _ _ (fun e=>hne e.symm)).trans a9);have HF:Hid (∀V X:Value,((w7.setCell Bl V).setCell Be X).1[Bl]?=some (.cells #[V] 49 (0,0))/\((w7.setCell Bl V).setCell Be X).1[Be]?=some (.cells #[X] 3 (0,0))/\∀k,k≠Bl->k≠Be->((w7.setCell Bl V).setCell Be X).1[k]?=w7.1[k]?):=aa fun V X=>⟨(bw _ _ _ _ hne).trans (block_setCell (i:=0) V a8),block_setCell (i:=0) X ((bw _ _ _ _ (fun e=>hne e.symm)).trans a9),fun k h1 h2=>(bw _ _ _ _ h2).trans (bw _ _ _ _ h1)⟩;have ah:b7≠Bl/\b7≠Be:=⟨Tc1,Tc1⟩;have Qc:=aa ah;have Zu:Hid (∀V X:Value,((w7.setCell Bl V).setCell Be X).1.size=w7.1.size):=aa fun V X=>by simp[AF]
 have ag:∀V:Value,(w7.setCell Bl V).1[Bt]?=some (.cells (Taj g a r pv) 97 (0,0))/\(w7.setCell Bl V).1[Br]?=some (.cells #[.int .i64 p.1,.int .i64 p.2] 55 (0,0)):=fun V=>⟨(bw _ _ _ _ hn1).trans (HS.o _ pL.o).1,(bw _ _ _ _ hn2).trans (HS.o _ pL.o).2⟩;replace ag:=aa ag;clear a8 a9 ah;refine lR 8 fun K hK=>?_;go_simp;refine hK.o _ _ (ag.o _) ?_;clear hK K z0 zf;refine aP Tc3 rfl ?_;simp only[cQ,cL,km];go_wp2;refine HK.o _ b7 _ _ _ _ _ _ _ _ av ((((HF.o _ _).2.2 _ Qc.o.1 Qc.o.2)).trans au.o) (HF.o _ _).1 (HF.o _ _).2.1 (fun b hb h1 h2=>((HF.o _ _).2.2 b h1 h2).trans (pL.o.block b hb)) (by rw[Zu.o];exact pL.o.size) pL.o.os pL.o.tape pL.o.output
def Nc(e:Int)(x:Nat × (Int × Int)):Bo e none x=if e<=x.2.2 then some x else none:=rfl
def Mq(e:Int)(y x:Nat × (Int × Int)):Bo e (some y) x=if e<=x.2.2 then(if x.2.2<y.2.2 then some x else some y) else some y:=rfl
def NP{e:Int}{o:Option (Nat × (Int × Int))}{x:Nat × (Int × Int)}(h:¬e<=x.2.2):Bo e o x=o:=bh h
def WhV(b0:Nat)(g:af)(W:World)(v:Value)(n:Int):Option (Nat × (Int × Int))->Prop
 |none=>v=.slice none 0 0/\n=0
 |some y=>∃b,v=.slice (some ⟨b,0,none⟩) 1 1/\b0+4<=b/\W.1[b]?=some (.cells (Tau ((arN g y).on) y.2.1) 53 (0,0))/\n=y.2.2
def WhI(g:af)(a:bN)(r:aY)(px:Option Addr)(cx b0:Nat)(xs:List (List (Int × Int)))(W5:World)(pre:List (Lj xs))(W:World):Prop:=∃v n,W.1[b0+1]?=some (.cells #[v] 49 (0,0))/\W.1[b0+2]?=some (.cells #[.int .i64 n] 3 (0,0))/\WhV b0 g W v n (mq r.Gc (pre.map (·.1)))/\W.1[b0]?=some (.cells (Taf g a r xs.length px cx) 97 (0,0))/\Below b0 W5 W/\W5.1.size<=W.1.size/\pre.length<=(gW xs).length
def WhV.mv{W W':World}{v:Value}{n:Int}{o:Option (Nat × (Int × Int))}(h:WhV b0 g W v n o)(hk:∀(b:Nat) (cs:Array Value),b0+4<=b->W.1[b]?=some (.cells cs 53 (0,0))->W'.1[b]?=W.1[b]?):WhV b0 g W' v n o:=by
 cases o with
 |none=>exact h
 |some y =>
  obtain⟨b,h1,h2,h3,h4⟩:=h;exact⟨b,h1,h2,(hk b _ h2 h3).trans h3,h4⟩
def WhI.own{a:bN}{r:aY}{px:Option Addr}{cx:Nat}{xs:List (List (Int × Int))}{W5:World}(a5:W5.1.size=b0+4):OwnFrom W5.1.size (WhI g a r px cx b0 xs W5):=by
 rintro pre W W' row ⟨v,n,h1,h2,h3,h4,h5,h6,h7⟩ hg hr;exact⟨v,n,xu hg hr h1,xu hg hr h2,h3.mv fun b cs _ hb=>(xu hg hr hb).trans hb.symm,xu hg hr h4,h5.grown hg Tc1 (fun k e=>by have:=(hr k e).1;omega),cA h6 hg.size,h7⟩
def MQ{ok:Nat->Prop}(Q:Exit->Act->World->Prop){c0 c7 c8 c10:Value}(g:af)(a:bN)(r:aY)(px:Option Addr)(cx b0:Nat)(xs:List (List (Int × Int)))(W5:World)(a9:W5.1.size=b0+4)(hq:uy r)(kf:ck aO 7 (fun b=>ok b/\b<b0) W5 [.slice a.dp g.Gb.length a.dc] g.Gb)(hx:zb g.Gb.length xs)(OI:xs.length<=cx/\cx<=9223372036854775807)
  (hr:pK b0 W5 px xs)
  (ah:W5.1[b0+3]?=some (.cells (Taf g a r xs.length px cx) 97 (0,0))) (ai:W5.1[b0]?=some (.cells (Taf g a r xs.length px cx) 97 (0,0))) (ak:W5.1[b0+1]?=some (.cells #[.slice none 0 0] 49 (0,0))) (am:W5.1[b0+2]?=some (.cells #[.int .i64 0] 3 (0,0)))
  (HK:Hid (∀(D:Nat) (v:Value) (n:Int) (W:World),W.1[b0+1]?=some (.cells #[v] 49 (0,0))->WhV b0 g W v n (mq r.Gc (gW xs))->Below b0 W5 W->W5.1.size<=W.1.size->W5.1.size<=D->W.1[D]?=some (.deferred (some []))->Q .normal ⟨#[c0,.pointer (some b0),c2,c3,.pointer (some (Tac (b0+1) 0)),.pointer (some (Tac (b0+2) 0)),c6,c7,c8,.func (.func 133) #[] #[.pointer (some (Tac (b0+3) 0))],c10,TO,W0,St,Rr,RE,RK,SO,Se,Sf,To,Wg,aE,Wr,ZD,UP,US,ab,ao,fa,dj,dq,eS,fs,gE,ff,fi,fb,gn,iS],[{ target:=.collected D,args:=#[] }]⟩ W)) :
  (LU Tryz.f43).wp prog Q ⟨#[c0,.pointer (some b0),c2,c3,.pointer (some (Tac (b0+1) 0)),.pointer (some (Tac (b0+2) 0)),c6,c7,c8,.func (.func 133) #[] #[.pointer (some (Tac (b0+3) 0))],c10,TO,W0,St,Rr,RE,RK,SO,Se,Sf,To,Wg,aE,Wr,ZD,UP,US,ab,ao,fa,dj,dq,eS,fs,gE,ff,fi,fb,gn,iS],[]⟩ W5:=by
 conv=>arg 2;whnf
 refine(wpIn_wide (n:=3)).1 ?_;have aD:=hx.n8;have vh:=hx.len;refine wpIn_rangeFunc_ownH (F:=Fence.wide) rfl Tc1 (gf:=133) (lb:=#[.pointer (some (Tac (b0+3) 0))]) rfl trivial (enters_of func133 Tc3 rfl)
  (ug (3-1) b0 (b0+3) Tc1 W5 px cx xs (aZ ah 16 _ rfl) OI Tc1 Tc1 hr Tc1 (fun x au=>by have:=hx.x1 x au;omega))
  Below.trans (fun W l o o' hl h h1 h2=>belowK_b (w:=W5) Tc1 W l o o' hl h h1 h2) (bj _ _) (fun _=>rfl)
  (WhI g a r px cx b0 xs W5)
  (fun _ _ _=>False) ?own (fun _ _ _ _ _ h _ _=>h) ?init
  (fun x a' W=>∃Br,W.1[Br]?=some (.cells #[.int .i64 x.1.2.1,.int .i64 x.1.2.2] 55 (0,0))/\W5.1.size<=Br/\a'=⟨#[c0,.pointer (some b0),c2,c3,.pointer (some (Tac (b0+1) 0)),.pointer (some (Tac (b0+2) 0)),.int .i64 (x.1.1:Int),.pointer (some ⟨Br,0,none⟩),c8,.func (.func 133) #[] #[.pointer (some (Tac (b0+3) 0))],.int .i64 (x.1.1:Int),.agg #[.int .i64 x.1.2.1,.int .i64 x.1.2.2],W0,St,Rr,RE,RK,SO,Se,Sf,To,Wg,aE,Wr,ZD,UP,US,ab,ao,fa,dj,dq,eS,fs,gE,ff,fi,fb,gn,iS],[]⟩) ?ax ?assign ?body ?done ?stop
 case own=>exact WhI.own a9
 case init=>exact⟨.slice none 0 0,0,ak,am,⟨rfl,rfl⟩,ai,bj _ _,bk _,cg _⟩
 case ax =>
  rintro x a' _ W W' row ⟨Br,h1,h2,h3⟩ hg hr;exact⟨Br,xu hg hr h1,h2,h3⟩
 case assign =>
  rintro l pre x W K ⟨v,n,h1,h2,h3,h4,h5,h6,h7⟩ hK;have HI:=aa (⟨h1,h2,h3,h4,h5,h7⟩:_/\_/\_/\_/\_/\_);clear h1 h2 h3 h4 h5 h7;have HK:=aa hK;clear hK;simp only[Nh,List.zip_toArray,List.zip_cons_cons,List.zip_nil_right,List.foldl_toArray,cF,cq,xT,List.set_cons_succ,List.set_cons_zero];gi_wp2
  obtain⟨h1,h2,h3,h4,h5,h7⟩:=HI.o;have PX:=ae W (.cells #[.int .i64 x.1.2.1,.int .i64 x.1.2.2] 55);refine HK.o _ _ ((KeepsOthers.alloc _ _).from _) (PX.mono Tc1) ⟨v,n,(PX.block _ (aq h1)).trans h1,(PX.block _ (aq h2)).trans h2,h3.mv fun b cs _ hb=>PX.block b (aq hb),(PX.block _ (aq h4)).trans h4,h5.trans (PX.mono Tc1),cA h6 PX.size,h7⟩ ⟨W.1.size,b9 W _,h6,rfl⟩
 case body =>
  rintro lr pre x a' W aF _ ⟨v,n,h1,h2,h3,h4,h5,h6,h7⟩ ⟨Br,k1,k2,rfl⟩ hlt;have e0:=aZ h2 0 _ rfl;have l0:=aZ h1 0 _ rfl;have aG:=aZ h4 11 _ rfl;have r1:=aZ k1 1 _ rfl;obtain⟨av,hy2,aH,aI⟩:=hx.yy x.1 x.2;obtain⟨d,hd⟩:=aj g.Gb x.1.1 av;have QY:Hid (mq r.Gc ((pre++[x]).map (·.1))=Bo r.Gc (mq r.Gc (pre.map (·.1))) x.1):=aa (by rw[gl,L7,Mx]);have TW:(pre++[x]).length<=(gW xs).length:=by rw[cD,A4];exact hlt
  have ha:arN g x.1=⟨false,d.name,x.1.2.1⟩:=by unfold arN;rw[List.getD_eq_getElem?_getD,hd];rfl
  have HIN:Hid (∀(W':World) (b:Nat),mq r.Gc ((pre++[x]).map (·.1))=some x.1->W.1.size<=b->W'.1[b]?=some (.cells (Tau d.name x.1.2.1) 53 (0,0))->W'.1[b0+1]?=some (.cells #[.slice (some ⟨b,0,none⟩) 1 1] 49 (0,0))->W'.1[b0+2]?=some (.cells #[.int .i64 x.1.2.2] 3 (0,0))->(∀b,b<W.1.size->b≠b0+1->b≠b0+2->W'.1[b]?=W.1[b]?)->W.1.size<=W'.1.size->W'.os=W.os->W'.tape=W.tape->W'.output=W.output->KeepsFrom W5.1.size W W'/\Below b0 W W'/\WhI g a r px cx b0 xs W5 (pre++[x]) W'):=aa fun W' b hs hbz hb ay az a8 mu hos aA aB=>by
   have PD:Below b0 W W':=⟨hos,aA,aB,mu,fun k hk=>a8 k Tc1 Tc1 Tc1⟩;refine⟨⟨mu,fun k o hk ag hk2=>(a8 k (iX ag) Tc1 Tc1).trans ag⟩,PD,_,_,ay,az,?_,(a8 _ Tc1 Tc1 Tc1).trans h4,h5.trans PD,cA h6 mu,TW⟩;rw[hs];exact⟨b,rfl,Tc1,by rw[ha];exact hb,rfl⟩
  have a7:Hid (mq r.Gc ((pre++[x]).map (·.1))=mq r.Gc (pre.map (·.1))->KeepsFrom W5.1.size W W/\Below b0 W W/\WhI g a r px cx b0 xs W5 (pre++[x]) W):=aa fun hs=>⟨KeepsFrom.refl _ _,bj _ _,v,n,h1,h2,by rw[hs];exact h3,h4,h5,h6,TW⟩;have HX:=aa (⟨h1,h2,h4,k1,hd,h5⟩:_/\_/\_/\_/\_/\_);clear h1 h2 h4 k1 hd h5 ha TW a9
  by_cases c1:r.Gc<=x.1.2.2
  ·have g1:decide (x.1.2.2 ≥ r.Gc)=true:=eA c1;replace c1:=aa c1;cases ho:mq r.Gc (pre.map (·.1))with
   |none =>
    rw[ho]at h3 QY;have a5:=aa ((Nc r.Gc x.1).trans (aw c1.o));obtain⟨rfl,rfl⟩:=h3;clear a7 ho;gi_wp2
    obtain⟨i1,i2,i4,ik,id,i5⟩:=HX.o;refine LA (ok:=fun b=>ok b/\b<b0) _ lr 1 W g a r _ _ _ b0 (b0+1) (b0+2) Br x.1.1 d x.1.2 Tc1 i4 i1 i2 ik ((ck.moves aO.moves).mv ⟨h6,fun b _ hb=>⟨hb,i5.block b hb.2⟩⟩ kf) id Tc1 (aa ?_) (fun _ _ _ _ _ h=>h) (fun⟨_,_,h⟩=>h);intro W' b u28 u29 aC u31 u32 u33 u34 u35 f1 f2 f3 f4 f5 f6 f7 f8 f9;exact HIN.o W' b (by rw[QY.o,a5.o]) f1 f2 f3 f4 f5 f6 f7 f8 f9
   |some y =>
    rw[ho]at h3 QY a7;have a5:=aa ((Mq r.Gc y x.1).trans (aw c1.o));obtain⟨b,rfl,hb,cT,rfl⟩:=h3;by_cases c2:x.1.2.2<y.2.2
    ·have g2:decide (x.1.2.2<y.2.2)=true:=eA c2;have HW2:Hid (mq r.Gc ((pre++[x]).map (·.1))=some x.1):=aa (by rw[QY.o,a5.o];exact aw c2);clear a7 a5 QY ho c2;gi_wp2
     obtain⟨i1,i2,i4,ik,id,i5⟩:=HX.o;refine LA (ok:=fun b=>ok b/\b<b0) _ lr 1 W g a r _ _ _ b0 (b0+1) (b0+2) Br x.1.1 d x.1.2 Tc1 i4 i1 i2 ik ((ck.moves aO.moves).mv ⟨h6,fun b _ hb=>⟨hb,i5.block b hb.2⟩⟩ kf) id Tc1 (aa ?_) (fun _ _ _ _ _ h=>h) (fun⟨_,_,h⟩=>h);intro W' b u28 u29 aC u31 u32 u33 u34 u35 f1 f2 f3 f4 f5 f6 f7 f8 f9;exact HIN.o W' b HW2.o f1 f2 f3 f4 f5 f6 f7 f8 f9
    have g2:decide (x.1.2.2<y.2.2)=false:=cN c2;have HW2:Hid (mq r.Gc ((pre++[x]).map (·.1))=some y):=aa (by rw[QY.o,a5.o];exact bh c2);clear HIN a5 QY ho c2;gi_wp2
    exact a7.o HW2.o
  have g1:decide (x.1.2.2 ≥ r.Gc)=false:=cN c1;have a5:=aa (QY.o.trans (NP c1));clear c1 HIN;gi_wp2
  exact a7.o a5.o
 case done =>
  rintro D ys W hD rfl ⟨v,n,h1,h2,h3,h4,h5,h6,h7⟩ hK;rw[BK]at h3;exact HK.o D v n W h1 h3 h5 h6 hD hK
 case stop =>
  rintro D c pre W _ _ h _;exact h.elim
def Nt:Option Nat->Value
 |none=>.slice none 0 0
 |some b=>.slice (some b) 1 1
def Nz(Q:Exit->Act->World->Prop){c0 c1 c5 c7 c8 c10:Value}(ds:List Deferred)(w:World)(Bl:Nat)(o:Option Nat)(hl:w.1[Bl]?=some (.cells #[Nt o] 49 (0,0)))
  (HK:Hid (∀(u36 u37 u38 u39:Value) (b:Nat) (W:World),Below w.1.size w W->w.1.size<=b->W.1[b]?=some (.cells #[Nt o] 49 (0,0))->Q .normal ⟨#[c0,c1,.slice (some b) 1 1,.bool o.isSome,.pointer (some Bl),c5,c6,c7,c8,c9,c10,TO,W0,St,Rr,RE,RK,SO,Se,Sf,To,Wg,aE,Wr,ZD,UP,US,ab,ao,fa,dj,dq,eS,fs,gE,ff,u36,u37,u38,u39],ds⟩ W)) :
  (Ai Tryz.f43 8).wp prog Q ⟨#[c0,c1,c2,c3,.pointer (some Bl),c5,c6,c7,c8,c9,c10,TO,W0,St,Rr,RE,RK,SO,Se,Sf,To,Wg,aE,Wr,ZD,UP,US,ab,ao,fa,dj,dq,eS,fs,gE,ff,fi,fb,gn,iS],ds⟩ w:=by
 conv=>arg 2;whnf
 obtain⟨Q',a8,a7,hQ⟩:=Me Q;replace a7:=aa a7;refine wp_mono ?_ a8;clear a8;cases o
 all_goals
  have hbl:=aq hl;simp only[Nt,Option.isSome_none,Option.isSome_some]at hl HK;have HS:Hid (∀w':World,Below w.1.size w w'->w'.1[Bl]?=w.1[Bl]?):=aa fun w' e=>e.block _ hbl;replace hl:=aa hl;refine aL (fun w'=>w'.1[Bl]?=w.1[Bl]?) 6 [] Tc3 (HS.o _ (bj _ _).drew) (fun a5=>?_)
  (refine o7 (i:=0) (v:=?_) rfl rfl Tc3 (fun _ _ _ h=>hQ _ _ _ _ _ h) (Or.inl ⟨Tc7,?_⟩) a5 ?_;rotate_left;(intro w ZS;have r0:=aZ (ZS.trans hl.o) 0 _ rfl;clear ZS;go_simp;(try(with_reducible rfl)));(try simp only[aS]))
  (refine o7 (i:=2) (v:=?_) rfl rfl Tc3 (fun _ _ _ h=>hQ _ _ _ _ _ h) (Or.inl ⟨Tc7,?_⟩) a5 ?_;rotate_left;(intro w ZS;have r0:=aZ (ZS.trans hl.o) 0 _ rfl;clear ZS;go_simp;(try(with_reducible rfl)));(try simp only[aS]))
  refine cH hQ 3 a5 ?_;refine lR 1 fun K hK=>?_;go_simp;refine hK.o _ _ (HS.o _ ((bj w.1.size w).drew.alloc (bk _) _)) ?_;clear hK K a5
  (refine o7 (i:=4) (v:=?_) rfl rfl Tc3 (fun _ _ _ h=>hQ _ _ _ _ _ h) (Or.inl ⟨Tc7,?_⟩) (HS.o _ ((bj w.1.size w).drew.alloc (bk _) _)) ?_;rotate_left;(intro w ZS;go_simp;(try(with_reducible rfl)));(try simp only[aS]))
  (refine o7 (i:=5) (v:=?_) rfl rfl Tc3 (fun _ _ _ h=>hQ _ _ _ _ _ h) (Or.inl ⟨Tc7,?_⟩) (HS.o _ ((bj w.1.size w).drew.alloc (bk _) _)) ?_;rotate_left;(intro w ZS;go_simp;(try(with_reducible rfl)));(try simp only[aS]))
  refine aP Tc3 rfl ?_;simp only[cQ,cL,km];go_wp2;exact a7.o _ _ (HK.o _ _ _ _ _ _ ((bj w.1.size w).alloc (bk _) _).drew (bk _) (b9 w _))
def Ls{ok:Nat->Prop}(g:af)(a:bN)(r:aY)(px:Option Addr)(cx:Nat)(xs:List (List (Int × Int)))(w:World)(hq:uy r)(kf:ck aO 7 ok w [.slice a.dp g.Gb.length a.dc] g.Gb)(hx:zb g.Gb.length xs)(OI:xs.length<=cx/\cx<=9223372036854775807)(hr:pK w.1.size w px xs) :
  Calls prog 43 #[.agg (Taf g a r xs.length px cx)] w (NV [((mq r.Gc (gW xs)).toList).map (arN g)] (mq r.Gc (gW xs)).isSome w):=by
 refine callsIn_wide (n:=3) |>.1 ?_;refine callsIn_of_wp_marks func43 rfl trivial ?_ rfl;simp only[ntmps43,List.size_toArray,cS,Ox,Nat.reduceAdd,Nat.reduceSub,Array.replicate_succ,Array.replicate_zero,List.push_toArray,List.append_toArray,List.nil_append,List.cons_append];refine wpIn_wide.2 ?_;have hA1:=ae w (.cells (Taf g a r xs.length px cx) 97);have RW:=b9 w (.cells (Taf g a r xs.length px cx) 97);generalize R0:w.alloc (.cells (Taf g a r xs.length px cx) 97)=W1 at *;have On:W1.1.size=w.1.size+1:=by rw[<- R0];exact cW ..
 have hA2:=ae W1 (.cells #[.slice none 0 0] 49);have kc:=b9 W1 (.cells #[.slice none 0 0] 49);generalize aj:W1.alloc (.cells #[.slice none 0 0] 49)=W2 at *;have RC:W2.1.size=w.1.size+2:=by rw[<- aj,cW,On]
 have hA3:=ae W2 (.cells #[.int .i64 0] 3);have a9:=b9 W2 (.cells #[.int .i64 0] 3);generalize ak:W2.alloc (.cells #[.int .i64 0] 3)=W3 at *;have am:W3.1.size=w.1.size+3:=by rw[<- ak,cW,RC]
 rw[On]at kc;rw[RC]at a9;have cJ:=aa (hA1.trans ((hA2.mono Tc1).trans (hA3.mono Tc1)));have ah:=aa ((hA3.block _ Tc1).trans ((hA2.block _ Tc1).trans RW));have QP:=aa ((hA3.block _ Tc1).trans kc);have a7:=aa a9;have r3:=aZ a7.o 0 _ rfl;have rf:=sK a7.o 0;replace kf:=aa kf;replace hx:=aa hx;replace hr:=aa hr;clear hA1 hA2 hA3 RW kc a9;go_upto_region 3 with(fail);have Rn:∀k,k≠w.1.size+2->(W3.setCell (Tac (w.1.size+2) 0) (.int .i64 0)).1[k]?=W3.1[k]?:=fun k e=>bw _ _ _ _ e;have Q9:=aa ((Rn _ Tc1).trans ah.o);have WC:=aa ((Rn _ Tc1).trans QP.o);have WD:=aa (block_setCell (i:=0) (.int .i64 0) a7.o);have eI:=aa (cJ.o.setCell (p:=⟨w.1.size+2,0,none⟩) Tdi (.int .i64 0));have ab:(W3.setCell (Tac (w.1.size+2) 0) (.int .i64 0)).1.size=w.1.size+3:=by simp[AF,am]
 clear Rn r3 rf ah QP a7 cJ;generalize ao:AF W3 _ _=W4 at *;clear ao;have tL:=aZ Q9.o;obtain⟨t0,t1,t2,t3,t4,t5,t6,t7,t8,t9,au,av⟩:=IE tL;have aw:=tL 12 _ rfl;have ay:=tL 13 _ rfl;have az:=tL 14 _ rfl;have aA:=tL 15 _ rfl;have aB:=tL 16 _ rfl;clear tL;go_wp2_with fail;clear t0 t1 t2 t3 t4 t5 t6 t7 t8 t9 au av aw ay az aA aB;refine(Lh g a r _ W4).mono ?_;rintro e w5 ⟨rfl,rfl⟩;have a5:=ae W4 (.cells (Taf g a r xs.length px cx) 97);have a8:=b9 W4 (.cells (Taf g a r xs.length px cx) 97);have aC:(W4.alloc (.cells (Taf g a r xs.length px cx) 97)).1.size=w.1.size+4:=by rw[cW,ab]
 rw[ab]at a8;have eK:=aa (eI.o.trans (a5.mono Tc1));have aD:=aa ((a5.block _ Tc1).trans Q9.o);have aE:=aa ((a5.block _ Tc1).trans WC.o);have aF:=aa ((a5.block _ Tc1).trans WD.o);replace a8:=aa a8;clear a5 Q9 WC WD eI;rw[ab];generalize aG:AI W4 _=W5 at *;clear aG;go_wp2;refine MQ (ok:=ok) _ g a r px cx w.1.size xs W5 aC hq ((ck.moves aO.moves).mv ⟨eK.o.size,fun b hb ho=>⟨⟨ho,hb⟩,eK.o.block b hb⟩⟩ kf.o) hx.o OI (hr.o.below eK.o) a8.o aD.o aE.o aF.o (aa ?_);intro D v n W h1 h3 h4 h5 h6 hK;obtain⟨o,rfl,hos,gR⟩:∃o:Option Nat,v=Nt o/\o.isSome=(mq r.Gc (gW xs)).isSome/\iC (w.1.size+4) W (Nt o) (((mq r.Gc (gW xs)).toList).map (arN g)):=by
  cases ho:mq r.Gc (gW xs)with
  |none =>
   rw[ho]at h3;obtain⟨rfl,-⟩:=h3;exact⟨none,rfl,rfl,iC.nil _ _⟩
  |some y =>
   rw[ho]at h3;obtain⟨b,rfl,hb,cT,-⟩:=h3;exact⟨some b,rfl,rfl,iC.one (x:=arN g y) cT hb⟩
 clear h3;have aH:=iX hK;replace hK:=aa hK;replace h1:=aa h1;have H3:=aa gR;clear gR;have H4:=aa h4;clear h4;replace hos:=aa hos;go_upto_region 8 with(fail);refine Nz _ _ W _ o h1.o (aa ?_);intro u36 u37 u38 u39 b W9 ag hbz ai;have hK9:=(ag.block D aH).trans hK.o;have J1:=aa ag;clear ag;have HN9:=aa ai;clear ai;go_wp2;refine⟨Tc2,.inl ⟨_,_,rfl,run_takeDeferred hK9,?_⟩⟩;refine⟨.tuple #[.slice (some b) 1 1,.bool o.isSome],by simp[results,Tryz.results43,go_sem],?_⟩;have aI:=J1.o.size;have Q1:∀k,k<W9.1.size->k≠D->(W9.putObj D (.deferred none)).1[k]?=W9.1[k]?:=fun k hk hne=>(grownBy_putObj' W9 D _).block k hk (fun q=>by injection q with q;exact hne q)
 have hbl:=aq HN9.o;rw[hos.o];refine⟨_,rfl,?_,?_⟩
 ·exact TcO
 exact TcQ
end Go.Proofs.YtaagglbgohjldaaGreatDoor
namespace Go.Proofs.YtaagglbgohjldaaGreatDoor
open Go.Proofs.Tryz
open Go.RowKit Go.Maps Go.Shelf
variable {px:Option Addr}{xs:List (List (Int × Int))}{r:aY}
def fH.runs{w:World}{B n₀:Nat}{n cx:Nat}(h:fH w B (.slice px n cx) xs)(hn:w.1.size<=n₀):pK n₀ w px xs:=fun k x hx=>by
 obtain⟨b,u,h1,-,h3,h4,h5⟩:=h.at hx;obtain⟨p,c,rfl,a5,zc,a7⟩:=h5.rd;refine⟨b,p,c,h1,Tc1,h4,a5,zc,fun h0=>?_⟩;obtain⟨b',off,e1,e2,e3⟩:=a7 h0;exact⟨b',off,e1,Tc1,e3⟩
attribute [local go_sem] Oper.semAt_some run_makeMap_plain
def Mt(l:List (Nat × (Int × Int))):Int:=l.foldl (fun m x=>max m x.2.2) 0
def hvN(r:aY)(l:List (Nat × (Int × Int))):Int:=if r.Gg=1 then Mt l else jb l
def MR(l:List (Nat × (Int × Int)))(x:Nat × (Int × Int)):Mt (l++[x])=max (Mt l) x.2.2:=by simp[Mt,List.foldl_append]
def Ml:∀(l:List (Nat × (Int × Int))) (m:Int),0<=m->m<=4096->(∀y∈l,1<=y.2.2/\y.2.2<=4096)->0<=l.foldl (fun m x=>max m x.2.2) m/\l.foldl (fun m x=>max m x.2.2) m<=4096
 |[],m,h0,h1,_=>⟨h0,h1⟩
 |y :: l,m,h0,h1,h=>by
  have hy:=h y (cG ..);exact Ml l (max m y.2.2) Tc1 Tc1 fun z hz=>h z (kn _ hz)
def RfI(g:af)(a:bN)(r:aY)(px:Option Addr)(cx b0:Nat)(xs:List (List (Int × Int)))(W6:World)(pre:List (Lj xs))(W:World):Prop:=W.1[b0+1]?=some (.cells #[.int .i64 0,.int .i64 (hvN r (pre.map (·.1))),.int .i64 r.Gc] 105 (0,0))/\W.1[b0]?=some (.cells (Taf g a r xs.length px cx) 97 (0,0))/\Below b0 W6 W/\W6.1.size<=W.1.size/\pre.length<=(gW xs).length
def RfI.own{g:af}{a:bN}{cx b0:Nat}{W6:World}(a5:W6.1.size=b0+5):OwnFrom W6.1.size (RfI g a r px cx b0 xs W6):=by
 rintro pre W W' row ⟨h1,h2,h3,h4,h5⟩ hg hr;exact⟨xu hg hr h1,xu hg hr h2,h3.grown hg (by have:=h3.size;omega) (fun k e=>by have:=(hr k e).1;omega),cA h4 hg.size,h5⟩
def Mo(h:r.Gi*r.Gh=1):GZ r=if r.Gg=1 then 1 else 0:=by
 unfold GZ;rw[bh Tc1]
def Nk(Q:Exit->Act->World->Prop){c0 c1 c2 c3 c4 c5 c7 c9 c10 TO W0 St Rr RE RK SO Se Sf To Wg aE Wr ZD UP US ab ao dj dq eS fs gE ff fi fb gn iS mx qS qe nF o4 oE oR qk oS pe ph pr pt qv rl rm rn sd sh ta zd zp aQ aR aS aT aU aV aW aX b8 ba bb bd be bf bg bi bl bm bp bq bs bu bz bC bD bE bF bG bH bI bJ bK bL bM bO bP:Value}(g:af)(a:bN)(r:aY)(px:Option Addr)(cx b0:Nat)(xs:List (List (Int × Int)))(W6:World)(bQ:W6.1.size=b0+5)(hq:uy r)(bR:r.Gi*r.Gh=1)(hx:zb g.Gb.length xs)(OI:xs.length<=cx/\cx<=9223372036854775807)
  (hr:pK b0 W6 px xs)
  (ca:W6.1[b0+4]?=some (.cells (Taf g a r xs.length px cx) 97 (0,0))) (cc:W6.1[b0]?=some (.cells (Taf g a r xs.length px cx) 97 (0,0))) (cd:W6.1[b0+1]?=some (.cells #[.int .i64 0,.int .i64 0,.int .i64 r.Gc] 105 (0,0)))
  (HK:Hid (∀(D:Nat) (W:World),W.1[b0+1]?=some (.cells #[.int .i64 0,.int .i64 (hvN r (gW xs)),.int .i64 r.Gc] 105 (0,0))->W.1[b0]?=some (.cells (Taf g a r xs.length px cx) 97 (0,0))->Below b0 W6 W->W6.1.size<=W.1.size->W6.1.size<=D->W.1[D]?=some (.deferred (some []))->Q .normal ⟨#[c0,c1,c2,c3,c4,c5,.pointer (some b0),c7,.pointer (some (Tac (b0+1) 0)),c9,c10,TO,W0,St,Rr,RE,RK,SO,Se,Sf,To,Wg,aE,Wr,ZD,UP,US,ab,ao,.func (.func 133) #[] #[.pointer (some (Tac (b0+4) 0))],dj,dq,eS,fs,gE,ff,fi,fb,gn,iS,mx,qS,qe,nF,o4,oE,oR,qk,oS,pe,ph,pr,pt,qv,rl,rm,rn,sd,sh,ta,zd,zp,aQ,aR,aS,aT,aU,aV,aW,aX,b8,ba,bb,bd,be,bf,bg,bi,bl,bm,bp,bq,bs,bu,bz,bC,bD,bE,bF,bG,bH,bI,bJ,bK,bL,bM,bO,bP],[{ target:=.collected D,args:=#[] }]⟩ W)) :
  (LU Tryz.f47).wp prog Q ⟨#[c0,c1,c2,c3,c4,c5,.pointer (some b0),c7,.pointer (some (Tac (b0+1) 0)),c9,c10,TO,W0,St,Rr,RE,RK,SO,Se,Sf,To,Wg,aE,Wr,ZD,UP,US,ab,ao,.func (.func 133) #[] #[.pointer (some (Tac (b0+4) 0))],dj,dq,eS,fs,gE,ff,fi,fb,gn,iS,mx,qS,qe,nF,o4,oE,oR,qk,oS,pe,ph,pr,pt,qv,rl,rm,rn,sd,sh,ta,zd,zp,aQ,aR,aS,aT,aU,aV,aW,aX,b8,ba,bb,bd,be,bf,bg,bi,bl,bm,bp,bq,bs,bu,bz,bC,bD,bE,bF,bG,bH,bI,bJ,bK,bL,bM,bO,bP],[]⟩ W6:=by
 conv=>arg 2;whnf
 refine(wpIn_wide (n:=3)).1 ?_;have ci:=hx.n8;have vh:=hx.len;refine wpIn_rangeFunc_ownH (F:=Fence.wide) rfl Tc1 (gf:=133) (lb:=#[.pointer (some (Tac (b0+4) 0))]) rfl trivial (enters_of func133 Tc3 rfl)
  (ug (3-1) b0 (b0+4) Tc1 W6 px cx xs (aZ ca 16 _ rfl) OI Tc1 Tc1 hr Tc1 (fun x ce=>by have:=hx.x1 x ce;omega))
  Below.trans (fun W l o o' hl h h1 h2=>belowK_b (w:=W6) Tc1 W l o o' hl h h1 h2) (bj _ _) (fun _=>rfl)
  (RfI g a r px cx b0 xs W6)
  (fun _ _ _=>False) ?own (fun _ _ _ _ _ h _ _=>h) ?init
  (fun x a' W=>∃(Br:Nat) (a9 ag ah ai aj ak am au av ay az aA aB aC aD aF aG aH aI aJ aK aL aM aN aO aP:Value),W.1[Br]?=some (.cells #[.int .i64 x.1.2.1,.int .i64 x.1.2.2] 55 (0,0))/\W6.1.size<=Br/\a'=⟨#[c0,c1,c2,c3,c4,c5,.pointer (some b0),c7,.pointer (some (Tac (b0+1) 0)),c9,.int .i64 (x.1.1:Int),.pointer (some Br),W0,St,Rr,RE,RK,SO,Se,Sf,To,Wg,aE,Wr,ZD,UP,US,ab,ao,.func (.func 133) #[] #[.pointer (some (Tac (b0+4) 0))],.int .i64 (x.1.1:Int),.agg #[.int .i64 x.1.2.1,.int .i64 x.1.2.2],a9,ag,ah,ai,aj,ak,am,au,av,ay,az,aA,aB,aC,aD,aF,aG,aH,aI,aJ,aK,aL,aM,aN,aO,aP,sh,ta,zd,zp,aQ,aR,aS,aT,aU,aV,aW,aX,b8,ba,bb,bd,be,bf,bg,bi,bl,bm,bp,bq,bs,bu,bz,bC,bD,bE,bF,bG,bH,bI,bJ,bK,bL,bM,bO,bP],[]⟩) ?ax ?assign ?body ?done ?stop
 case own=>exact RfI.own bQ
 case init=>exact⟨by rw[show hvN r (([]:List (Lj xs)).map (·.1))=0 from by unfold hvN;split<;>rfl];exact cd,cc,bj _ _,bk _,cg _⟩
 case ax =>
  rintro x a' _ W W' row ⟨Br,a9,ag,ah,ai,aj,ak,am,au,av,ay,az,aA,aB,aC,aD,aF,aG,aH,aI,aJ,aK,aL,aM,aN,aO,aP,h1,h2,h3⟩ hg hr;exact⟨Br,a9,ag,ah,ai,aj,ak,am,au,av,ay,az,aA,aB,aC,aD,aF,aG,aH,aI,aJ,aK,aL,aM,aN,aO,aP,xu hg hr h1,h2,h3⟩
 case assign =>
  rintro l pre x W K ⟨h1,h2,h3,h4,h5⟩ hK;have HI:=aa (⟨h1,h2,h3,h5⟩:_/\_/\_/\_);clear h1 h2 h3 h5;have HK:=aa hK;clear hK;simp only[Nh,List.zip_toArray,List.zip_cons_cons,List.zip_nil_right,List.foldl_toArray,cF,cq,xT,List.set_cons_succ,List.set_cons_zero];gi_wp2
  obtain⟨h1,h2,h3,h5⟩:=HI.o;have PX:=ae W (.cells #[.int .i64 x.1.2.1,.int .i64 x.1.2.2] 55);refine HK.o _ _ ((KeepsOthers.alloc _ _).from _) (PX.mono Tc1) ⟨(PX.block _ (aq h1)).trans h1,(PX.block _ (aq h2)).trans h2,h3.trans (PX.mono Tc1),cA h4 PX.size,h5⟩ ⟨W.1.size,_,_,_,_,_,_,_,_,_,_,_,_,_,_,_,_,_,_,_,_,_,_,_,_,_,_,b9 W _,h4,rfl⟩
 case body =>
  rintro lr pre x a' W cj _ ⟨h1,h2,h3,h4,h5⟩ ⟨Br,a9,ag,ah,ai,aj,ak,am,au,av,ay,az,aA,aB,aC,aD,aF,aG,aH,aI,aJ,aK,aL,aM,aN,aO,aP,k1,k2,rfl⟩ hlt;have tL:=aZ h2;obtain⟨t0,t1,t2,t3,t4,t5,t6,t7,t8,t9,bS,bT⟩:=IE tL;have bU:=tL 12 _ rfl;have bV:=tL 13 _ rfl;have bW:=tL 14 _ rfl;have bX:=tL 15 _ rfl;have bY:=tL 16 _ rfl;clear tL;obtain⟨ck,hy2,cl,cn⟩:=hx.yy x.1 x.2;have TW:(pre++[x]).length<=(gW xs).length:=by rw[cD,A4];exact hlt
  have bZ:=hx.sum pre Tc1;have c6:=Ml (pre.map (·.1)) 0 Tc1 Tc1 (fun y hy=>by
   obtain⟨z,-,rfl⟩:=As.1 hy;have:=hx.yy z.1 z.2;omega)
  have OL:∀(W1:World) (y:Value),Below W.1.size W W1->y=.int .i64 (hvN r ((pre++[x]).map (·.1)))->KeepsFrom W6.1.size W (W1.setCell (Tac (b0+1) 1) y)/\Below b0 W (W1.setCell (Tac (b0+1) 1) y)/\RfI g a r px cx b0 xs W6 (pre++[x]) (W1.setCell (Tac (b0+1) 1) y):=fun W1 y hb he=>by
   have hbl:=aq h1;have ks:∀k,k≠b0+1->(W1.setCell (Tac (b0+1) 1) y).1[k]?=W1.1[k]?:=fun k e=>bw _ _ _ _ e;have hs:(W1.setCell (Tac (b0+1) 1) y).1.size=W1.1.size:=by simp[AF]
   have PD:Below b0 W (W1.setCell (Tac (b0+1) 1) y):=(hb.mono Tc1).setCell (p:=⟨b0+1,1,none⟩) (by show b0<=b0+1;omega) y;refine⟨⟨by rw[hs];exact hb.size,fun k o hk c8 hk2=>(ks k Tc1).trans ((hb.block k (iX c8)).trans c8)⟩,PD,?_,(ks _ Tc1).trans ((hb.block _ Tc1).trans h2),h3.trans PD,by rw[hs];exact cA h4 hb.size,TW⟩;rw[<- he];exact block_setCell (cs:=#[_,_,_]) (i:=1) y ((hb.block _ hbl).trans h1)
  have Zw:=aa OL;have HH:=aa (⟨h1,k1⟩:_/\_);have a7:=aa (Li g a r (.slice px xs.length cx) W hq);rw[Mo bR]at a7;have cf:=aa (⟨bZ,c6⟩:_/\_);clear h1 h2 h3 h5 k1 TW OL bQ bZ c6 bR vh;by_cases hp:r.Gg=1
  ·rw[aw hp]at a7;have hv:hvN r (pre.map (·.1))=Mt (pre.map (·.1)):=aw hp;have a8:hvN r ((pre++[x]).map (·.1))=max (Mt (pre.map (·.1))) x.1.2.2:=by unfold hvN;rw[aw hp,gl,L7,MR]
   have Vn:=aa a8;rw[hv]at HH;clear hp hv a8;gi_wp2_with fail
   clear t0 t1 t2 t3 t4 t5 t6 t7 t8 t9 bS bT bU bV bW bX bY;refine⟨trivial,CallsIn.inRound lr (callsIn_wide.2 (a7.o.mono ?_))⟩;rintro e W1 ⟨rfl,a5⟩;have q1:=(a5.block _ (aq HH.o.1)).trans HH.o.1;have x1:=aZ q1 1 _ rfl;have xf:=sK q1;have r1:=aZ ((a5.block _ (aq HH.o.2)).trans HH.o.2) 1 _ rfl;have cU:=aa a5;clear q1 a5 a7 HH;gi_wp2
   exact Zw.o _ _ cU.o (by rw[Vn.o])
  rw[bh hp]at a7;have hv:hvN r (pre.map (·.1))=jb (pre.map (·.1)):=bh hp;have a8:hvN r ((pre++[x]).map (·.1))=jb (pre.map (·.1))+x.1.2.2:=by unfold hvN;rw[bh hp,gl,L7,wQ]
  have Vn:=aa a8;rw[hv]at HH;have hw:IntKind.i64.wrap (jb (pre.map (·.1))+x.1.2.2)=jb (pre.map (·.1))+x.1.2.2:=dy _ (by have:=cf.o.1;omega);clear hp hv a8;gi_wp2_with fail
  clear t0 t1 t2 t3 t4 t5 t6 t7 t8 t9 bS bT bU bV bW bX bY;refine⟨trivial,CallsIn.inRound lr (callsIn_wide.2 (a7.o.mono ?_))⟩;rintro e W1 ⟨rfl,a5⟩;have q1:=(a5.block _ (aq HH.o.1)).trans HH.o.1;have x1:=aZ q1 1 _ rfl;have xf:=sK q1;have r1:=aZ ((a5.block _ (aq HH.o.2)).trans HH.o.2) 1 _ rfl;have cU:=aa a5;clear q1 a5 a7 HH;gi_wp2
  exact Zw.o _ _ cU.o (by rw[Vn.o])
 case done =>
  rintro D ys W hD rfl ⟨h1,h2,h3,h4,h5⟩ hK;rw[BK]at h1;exact HK.o D W h1 h2 h3 h4 hD hK
 case stop =>
  rintro D c pre W _ _ h _;exact h.elim
end Go.Proofs.YtaagglbgohjldaaGreatDoor
