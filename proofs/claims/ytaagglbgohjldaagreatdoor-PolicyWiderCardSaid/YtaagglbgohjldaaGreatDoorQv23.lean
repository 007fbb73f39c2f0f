/- Lemmas: NeeD, NeeE. -/
import Derived.Test.YtaagglbgohjldaaGreatDoorQv22
import Derived.Deep.AppendLies
set_option maxRecDepth 100000
set_option maxHeartbeats 32000000
set_option linter.all false
namespace Go.Proofs.YtaagglbgohjldaaGreatDoor
open Go.Proofs.Tryz
open Go.RowKit Go.Maps Go.Shelf
variable {B b2 n:Nat}{k:TypeId}{f:Value->Option Value}{w w':World}{l:List ByteArray}{ok:Nat->Prop}{g:af}
theorem cR.belowAt {F:Nat->Prop}{a b c:World}(h:cR F a b)(hb:Below a.heap.size b c):cR F a c :=
 ⟨hb.os.trans h.os,hb.tape.trans h.tape,hb.output.trans h.output,cA h.size hb.size,fun k hk hF=>(hb.block k hk).trans (h.block k hk hF)⟩
theorem Eg {y:Value}(hy:ck aF 1 (fun b=>B<=b) w [y] l)(hm:cR (fun b=>b=b2) w w')(hb:bi prog k w b2 n f):ck aF 1 (fun b=>B<=b) w' [y] l:=by
 obtain ⟨p,c,e,h1,h2,h3⟩:=hy;refine ⟨p,c,e,h1,h2,fun h0=>?_⟩;obtain ⟨b,off,e2,hlt,gw,hc⟩:=h3 h0;have Hh:w'.heap[b]?=w.heap[b]?:=by
  refine hm.block b hlt ?_;rintro rfl;obtain ⟨x0,hx0⟩:=aj l 0 h0;obtain ⟨us,ez,eE,hcv⟩:=hc 0 x0 hx0;obtain rfl:us=_:=eE;have:=hcv 0 _ rfl;obtain ⟨D,⟨es,clock,e,_⟩,_⟩:=hb;simp [World.cell?,e] at this
 exact ⟨b,off,e2,cC hlt hm.size,gw,fun i x hx=>by
  obtain ⟨us,ez,eE,hcv⟩:=hc i x hx;exact ⟨us,ez,eE,fun j z hz=>(cd (a:=⟨b,_,none⟩) Hh).trans (hcv j z hz)⟩⟩
theorem gQ.mod {bm:Nat}{F9:List ay}{A:List (ay × Value)}(h:gQ B w bm F9 A)(hm:cR (fun b=>b=b2) w w')(hb:bi prog k w b2 n f)(hne:bm≠b2):gQ B w' bm F9 A :=
 ⟨h.map.block (hm.block _ h.map.lt hne),h.fd,fun p hp=>Eg (h.rd p hp) hm hb,h.le⟩
theorem ww :∀ (l:List ByteArray) (cs:List Value),Flat aF 1 ok w cs l->cs=l.map Value.string
 | [],cs,h=>h
 | x :: l,cs,⟨u,r,e,_,hv,_,hr⟩=>by
  obtain rfl:u=[.string x]:=hv;rw [e,ww l r hr];rfl
theorem yG (l:List ByteArray)(v:Value)(w:World)(hr:ck aF 1 ok w [v] l)(hlen:l.length<=1000000) :
  Calls prog 65 #[v] w (Dx w.heap.size w l):=by
 by_cases h0:0<l.length
 ·obtain ⟨i0,hi,hz0,hz1,hz2⟩:=cy o5;obtain ⟨p,cap,e,hlc,ij,hp⟩:=hr;obtain rfl:=List.singleton_inj.1 e;obtain ⟨b,off,rfl,cX,gR,hc⟩:=hp h0;obtain ⟨cs,hf,hcs⟩:=jy (fun u x h y hy=>by obtain rfl:u=_:=h;obtain rfl:=List.mem_singleton.1 hy;rfl) l off hc;have hl:=Flat.length l cs hf;have Li:l.length*16<=1000000*16:=ue hlen (bk _);refine (AnyE.slices_Clone Tryz.cloneS i0 _ 1 16 hi hz0 hz1 hz2 rfl TcF Tryz.sizeOf9 b off l.length cap cs w hl TcN TcC hcs (qZ l cs hf)).mono ?_;rintro e w' ⟨v',rfl,ho,_,hb'⟩;refine ⟨v',rfl,?_,hb'⟩;unfold dF;rw [<- ww l cs hf];exact ho
 obtain ⟨p,c,rfl,hr'⟩:=vB hr h0 (fun b=>ok b\/w.heap.size<=b) w;clear hr;have HR:=aa hr';clear hr';have HN:Hid (l=[]):=aa (fX TcC);clear h0 hlen;cases p with
 | none =>
  refine (AnyE.slices_Clone_nil Tryz.cloneS _ _ w).mono ?_;rintro e w' ⟨rfl,rfl⟩;exact ⟨_,rfl,by rw [HN.o];exact dF.nil _ _,bj _ _⟩
 | some a =>
  have q22:∀ (w:World) (a:Option Addr) (n c n' c':Nat),(binOp .eql 26 (.slice a n c) (.slice none n' c')).run prog w=.ok (.bool a.isNone) w:=fun w a n c n' c'=>Cl w _ _ a n c n' c' underlying26;go_enter func65,ntmps65;go_wp2;go_ret;exact ⟨.slice (some ⟨w.heap.size,0,none⟩) 0 0,rfl,by rw [HN.o];exact ⟨rfl,.inr ⟨w.heap.size,0,#[],rfl,bk _,b9 w _,bk _,TcN,rfl,rfl⟩⟩,(RowKit.Below.refl _ _).alloc (bk _) _⟩
theorem dF.last {v:Value}{x:ByteArray}(h:dF w B v (l++[x])) :
  ∃ g cap,v=.slice (some ⟨g,0,none⟩) (l.length+1) cap/\l.length+1<=cap/\cap<=9223372036854775807/\w.cell? ⟨g,l.length,none⟩=some (.string x)/\dF w B (.slice (some ⟨g,0,none⟩) l.length cap) l:=by
 have h':w.ownsRow B 9 1 v (l.length+1) (l.map Value.string++[.string x]):=by
  unfold dF at h;rw [cD,gl] at h;exact h
 obtain ⟨g,cap,hv,hB,hlt⟩:=h'.form TcC;subst hv;have hc:=h'.cells (g:=g) rfl l.length (.string x) (by rw [Cp TcD];simp);rw [iz,eJ] at hc;have ij:l.length+1<=cap/\cap<=maxLen:=by
  rcases h'.2 with ⟨e,_⟩ | ⟨g',cap',cur,e,_,_,h1,h2,_⟩
  ·cases e
  cases e
  exact ⟨h1,h2⟩
 unfold maxLen at ij;exact ⟨g,cap,rfl,ij.1,ij.2,hc,ownsRow_pop TcD h'⟩
theorem I1 (hu:uw g)(nm:ByteArray):((dU g.F9 nm).getD []).length<=1000:=by
 unfold dU;cases hf:aM g.F9 nm with
 | none=>simp
 | some v=>exact hu.ul v (eV hf)
theorem rW (hu:uw g)(nm:ByteArray):∀ x∈(dU g.F9 nm).getD [],x.size<=maxLen:=by
 unfold dU;cases hf:aM g.F9 nm with
 | none=>simp
 | some v=>exact hu.un v (eV hf)
def ET (F9:List ay)(nm:ByteArray)(w:World)(e:Ending)(w':World):Prop:=∃ bm met,e=.returned (.map (some bm))/\bi prog 9 w' bm met.length (oN met)/\(∀ x,x∈met↔Reach (dU F9) ((dU F9 nm).getD []) x)/\met.length<=1000/\Below w.heap.size w w'/\w.heap.size<=bm
attribute [local go_sem] run_makeMap_plain
theorem TeG {p:Prop}(h:p:=by have:=lw (g.F9.map (·.name)) 1000 met init x;have:=Mt.o;omega):p:=h
theorem AY (g:af)(a:bN)(nm:ByteArray)(w:World)(hr:ck aN 6 ok w [.slice a.vp g.F9.length a.vc] g.F9)(hu:uw g)(pD:nm.size<=maxLen) :
  Calls prog 61 #[.agg (Tad g a),.string nm] w (ET g.F9 nm w):=by
 have HG:=aa hr;clear hr;have HU:=aa hu;clear hu;have cU:=aa (ae w (.cells (Tad g a) 31));have hN1:=b9 w (.cells (Tad g a) 31);have gL:=cr hN1;go_enter func61,ntmps61
 go_upto_region 1 with (fail);generalize hW1:World.alloc w _=W1 at *;obtain ⟨g0,g1,g2,g3,g4,g5,g6,g7,g8⟩:=xr gL;clear gL hN1 hW1;go_wp2_with fail;clear g0 g1 g2 g3 g4 g5 g6 g7 g8;refine (AU (ok:=ok) g a W1 ((ck.moves aN.moves).mv (Mv.of cU.o) HG.o) HU.o).mono ?_;rintro e w2 ⟨bl,A,rfl,hlk,hb2,hbl⟩;have HLK:=aa hlk;clear hlk;have cm:=Zbl cU hb2;clear hb2 hbl cU;have hA:=ae w2 (.map #[] 0);have HM:=aa (bi.made prog 9 w2);have aq4:=aa (HLK.o.below hA);have cJ:=Zbl cm hA;have hlt:=HLK.o.map.lt;have mA:=cm.o.size;clear hA HLK cm;go_upto_region 3 with (fail);generalize hW3:World.alloc w2 _=W3 at *;generalize Hv:w2.heap.size=bm at *;clear hW3;obtain ⟨p0,c0,-,hl2,hr0⟩:=aq4.o.look nm pD;have HR0:=aa hr0;clear hr0;have hlen0:=I1 HU.o nm;have my:=aa (rW HU.o nm);generalize hl0:(dU g.F9 nm).getD []=l0 at *;have QX:=aa hl0;clear hl0;go_wp2_with fail;clear hl2;refine (yG l0 _ W3 HR0.o TcC).mono ?_;rintro e w4 ⟨td0,rfl,how,hb4⟩;have sq:Hid (cR (fun b=>b=bm) W3 w4):=aa (cR.of_below hb4);have HOW:=aa how;clear how;have Ql:=aa (HM.o.block (hb4.block bm HM.o.lt));clear hb4;have Pp:Hid (nX (dU g.F9) l0 [] l0):=aa nX.start;have hN0:nK (g.F9.map (·.name)) 1000 [] l0<=1002000:=by
  have h1:=Ae (g.F9.map (·.name)) [];rw [fW] at h1;have h2:=HU.o.vl;have h3:(BG (g.F9.map (·.name)) [])*1001<=1000*1001:=tA _ TcC;unfold nK;unfold BG at h3;omega
 have tj:Hid (bi prog 9 w4 bm 0 (oN [])):=aa (Ql.o.congr fun key _ _=>by unfold oN;split <;> rfl);clear Ql;go_upto_region 4 with (fail);go_loopg [7] (nK (g.F9.map (·.name)) 1000 [] l0) (fun gk td wr=>∃ met todo:List ByteArray,dF wr W3.heap.size td todo/\cR (fun b=>b=bm) W3 wr/\bi prog 9 wr bm met.length (oN met)/\nX (dU g.F9) l0 met todo/\nK (g.F9.map (·.name)) 1000 met todo<=gk/\gk<=1002000/\met.length+BG (g.F9.map (·.name)) met<=1000/\∀ x∈todo,x.size<=maxLen)
 exact ⟨[],l0,HOW.o,sq.o,tj.o,Pp.o,bk _,hN0,by have:=Ae (g.F9.map (·.name)) [];have:=HU.o.vl;rw [fW] at *;simp only [Ox];omega,my.o⟩;clear HOW sq tj Pp hN0 my hlen0;obtain ⟨met,todo,how,Gk,C4,YD,hbn,hgk,QM,hsz⟩:=hrel;have HOW:=aa how;clear how;have sq:=aa Gk;clear Gk;have tj:=aa C4;clear C4;have Pp:=aa YD;clear YD;have Mt:=aa hbn;clear hbn;have RH:=aa QM;clear QM;have Zu:=aa hsz;clear hsz;have fy:Hid (Below w.heap.size w wr):=aa (cJ.o.trans (sq.o.below cJ.o.size (fun b e=>by omega)));have YE:=HM.o.lt;rcases List.eq_nil_or_concat todo with NN | ⟨init,x,NN⟩
 ·subst NN;obtain ⟨tp,tc,e,_,_⟩:=(HOW.o.rd (ok:=fun _=>True) (fun _ _=>trivial)).cap;subst e;go_wp2;go_ret;exact ⟨bm,met,rfl,tj.o,by rw [QX.o];exact Pp.o.done,by have:=RH.o;omega,fy.o,TcC⟩
 rw [List.concat_eq_append] at NN;subst NN;obtain ⟨gb,cap,e,hc1,hc2,hcell,RI⟩:=HOW.o.last;subst e;have ab1:init.length<=1002000:=by
  have:=Mt.o;unfold nK at this;rw [cD] at this;omega
 have LN:=aa RI;clear RI;have hxs:=Zu.o x TcD;have Pq:=aa (aq4.o.mod sq.o HM.o TcC);obtain ⟨lp,lc,hl1,-,-⟩:=Pq.o.look x hxs;have hmk:=(bi.look tj.o oM underlying120 (wY wr) (key:=.string x) (gG x hxs)).1;rw [xk] at hmk;have Uk:Hid ((dU g.F9 x).isSome=(aM g.F9 x).isSome):=aa (by unfold dU;simp);clear HOW;cases hf:(aM g.F9 x).isSome with
 | false =>
  rw [hf] at hl1 Uk;have HF:=aa hf;clear hf hmk;have RG:=aa (Pp.o.skip (.inl Uk.o));go_wp2;go_roundg (nK (g.F9.map (·.name)) 1000 met init)
  case measure=>exact cC (lw _ _ _ _ _) Mt.o
  exact ⟨met,init,LN.o,sq.o,tj.o,RG.o,bk _,TeG,RH.o,fun y hy=>Zu.o y (ju _ hy)⟩
 | true =>
  rw [hf] at hl1 Uk;cases hh:bI met x with
  | true =>
   rw [hh] at hmk;have HF:=aa hf;clear hf;have RG:=aa (Pp.o.skip (.inr (ny.1 hh)));have HH:=aa hh;clear hh;go_wp2;go_roundg (nK (g.F9.map (·.name)) 1000 met init)
   case measure=>exact cC (lw _ _ _ _ _) Mt.o
   exact ⟨met,init,LN.o,sq.o,tj.o,RG.o,bk _,TeG,RH.o,fun y hy=>Zu.o y (ju _ hy)⟩
  | false =>
   rw [hh] at hmk;have as6:x∈g.F9.map (·.name):=by
    obtain ⟨v,hv⟩:=Option.isSome_iff_exists.1 hf;exact List.mem_map.2 ⟨v,eV hv,by simpa using List.find?_some hv⟩
   have hlx:dU g.F9 x=some ((dU g.F9 x).getD []):=by
    obtain ⟨l,hl⟩:=Option.isSome_iff_exists.1 Uk.o;rw [hl];rfl
   have Wd:=lX.1 hh;have Pr:=aa (Pp.o.more hlx);have hll:=I1 HU.o x;have HLZ:=aa (rW HU.o x);have YF:=aa (Ap (g.F9.map (·.name)) 1000 met init ((dU g.F9 x).getD []) x as6 Wd hll);have HCM:=aa (Bn (g.F9.map (·.name)) met x as6 Wd);clear as6 hlx Wd;have HF:=aa hf;clear hf;have HH:=aa hh;clear hh;obtain ⟨w',hst,hm',hg',hz'⟩:=bi.store tj.o oM underlying120 (by have:=RH.o;unfold maxLen;omega) (key:=.string x) (gG x hxs) (.bool true);obtain ⟨qp,qc,-,hl2,T9⟩:=(Pq.o.mod (cR.grown hg') tj.o TcC).look x hxs;have HQR:=aa T9;clear T9;have RJ:Hid (dF w' W3.heap.size (.slice (some gb) init.length cap) init):=aa (LN.o.blk fun k e=>oJ hg' (fh LN.o k e).2 (by have:=(fh LN.o k e).1;omega));have LO:=aa (sq.o.trans (cR.grown hg') (fun i e=>.inl e));have Nn:Hid (bi prog 9 w' bm (met.length+1) (oN (met++[x]))):=aa (hm'.congr fun key _ _=>uH met x key);have aj8:=LO.o.size;clear hm' hg' hz' Pq;generalize YG:(dU g.F9 x).getD []=lx at *;have Vj:=aa YG;clear YG;go_wp2_with (at_builtin;refine mW (ok:=fun b=>W1.heap.size<=b) rfl _ _ rfl W3.heap.size _ init lx rfl ?c1 qp qc rfl ?c2 ?c3 ?c4 ?_)
   case c1=>exact RJ.o
   case c2=>exact HQR.o
   case c3=>omega
   intro v' w5 hown5 hb5 _;have HOW5:=aa hown5;clear hown5;have We:=aa (LO.o.belowAt hb5);have Np:=aa (Nn.o.block (hb5.block bm (by have:=HM.o.lt;omega)));clear hb5;go_wp2;go_roundg (nK (g.F9.map (·.name)) 1000 (met++[x]) (init++lx))
   case measure=>exact cC YF.o Mt.o
   exact ⟨met++[x],init++lx,HOW5.o,We.o,by rw [cD];exact Np.o,Pr.o,bk _,by have:=YF.o;have:=Mt.o;omega,by have:=HCM.o;have:=RH.o;rw [cD];simp only [cS,Ox];omega,fun y hy=>by
    rcases List.mem_append.1 hy with hy | hy
    ·exact Zu.o y (ju _ hy)
    exact HLZ.o y hy⟩
end Go.Proofs.YtaagglbgohjldaaGreatDoor
namespace Go.Proofs.YtaagglbgohjldaaGreatDoor
open Go.Proofs.Tryz
open Go.RowKit Go.Maps Go.Shelf
variable {ok:Nat->Prop}
theorem TbS {p:Prop}(h:p:=by
 ·obtain rfl:k=l.length:=by omega
  rw [cI] at cE;go_wp2;go_ret;exact ⟨⟨-1,rfl,Tdz⟩,rfl⟩):p:=h
theorem yo (l:List ByteArray)(x:ByteArray)(v:Value)(w:World)(h:ck aF 1 ok w [v] l)(hl:l.length<=1000000) :
  Calls prog 113 #[v,.string x] w fun e w'=>(∃ r:Int,e=.returned (.int .i64 r)/\decide (0<=r)=bI l x)/\w=w':=by
 obtain ⟨p,cap,rfl,hc1,hc2⟩:=h.cap;have HH:=aa h;clear h;go_enter func113,ntmps113;go_wp2
 go_loop [8,5] (fun i _=>∃ k:Nat,k<=l.length/\i=.int .i64 k/\bI (l.take k) x=false) (fun i _=>l.length - (intOf i).toNat)
 exact ⟨0,cg _,rfl,rfl⟩;obtain ⟨k,hk,rfl,hall⟩:=hrel;have cE:=aa hall;clear hall;by_cases hlt:k<l.length
 ·obtain ⟨y,hy⟩:=aj l k hlt;obtain ⟨b,off,us,rfl,gR,cX,ez,eE,hcv⟩:=HH.o.elem hy;obtain rfl:us=_:=eE;have q0:=hcv 0 _ rfl;rw [fp,fg] at q0;have ap1:Hid (bI (l.take (k+1)) x=decide (y=x)):=aa (by rw [take_snoc' l k y hy,fU,cE.o,nj]);have AE:Hid (y=x->bI l x=true):=aa fun h=>ny.2 (h ▸ ct hy);clear hy cE hcv ez
  by_cases Ob:y=x
  ·have hb:(x.toList == y.toList)=true:=by rw [Ob];simp
   have HR:=aa (AE.o Ob);have HYX:=aa Ob;clear Ob;go_wp2;go_ret;exact ⟨⟨k,rfl,by rw [HR.o];simp⟩,rfl⟩
  have hb:(x.toList == y.toList)=false:=by
   rw [Bool.eq_false_iff];intro e;rw [A6,A6] at e;have e2:x.data.toList=y.data.toList:=by simpa using e
   exact Ob (by rw [bytes_eta y,bytes_eta x,e2])
  have HR:=aa (ap1.o.trans (cN Ob));have HYX:=aa Ob;clear Ob;go_wp2;go_round;exact ⟨k+1,TcC,TcG,HR.o⟩;simp [intOf];omega
 exact TbS
theorem TbY {p:Prop}(h:p:=by
 rintro e w2 ⟨⟨r,rfl,hr2⟩,rfl⟩;have HR:=aa hr2;clear hr2;go_wp2;go_ret;exact ⟨ah HR.o,rfl⟩):p:=h
theorem eT (l:List ByteArray)(x:ByteArray)(v:Value)(w:World)(h:ck aF 1 ok w [v] l)(hl:l.length<=1000000) :
  Calls prog 64 #[v,.string x] w fun e w'=>e=.returned (.bool (bI l x))/\w=w':=by
 go_enter func64,ntmps64
 go_wp2_with fail;refine (yo l x v w h hl).mono ?_;exact TbY
theorem zt (x:ByteArray)(Bx bm n:Nat)(met:List ByteArray)(w:World)(hx:w.cell? Bx=some (.map (some bm)))(hm:bi prog 9 w bm n (oN met))(hs:x.size<=maxLen) :
  Calls prog 63 #[.string x,.pointer (some Bx)] w fun e w'=>e=.returned (.bool (bI met x))/\w=w':=by
 have hmk:=(bi.look hm oM underlying120 (wY w) (key:=.string x) (gG x hs)).1;rw [xk] at hmk;clear hm;go_enter func63,ntmps63;go_wp2;go_ret;exact ⟨rfl,rfl⟩
theorem Td1 {p:Prop}(h:p:=by rw [sY.o];exact HOW2.o):p:=h
theorem Dw (g:af)(a:bN)(Bx bm n:Nat)(met:List ByteArray)(w:World)(hr:ck aN 6 ok w [.slice a.vp g.F9.length a.vc] g.F9)(hu:uw g)(hx:w.cell? Bx=some (.map (some bm)))(PX:Bx<w.heap.size)(hm:bi prog 9 w bm n (oN met)) :
  Calls prog 62 #[.agg (Tad g a),.func (.func 63) #[] #[.pointer (some Bx)]] w (Dx w.heap.size w (gD ay.name (bI met) g.F9)):=by
 have HG:=aa hr;have HU:=aa hu;have HM:=aa hm;clear hm;have HX:=aa hx;clear hx;have mb:=hu.vl;obtain ⟨vp,vc,sT,ao8,ap0⟩:=hr.cap;clear hr hu;injection sT with e1 e2 e3;obtain ⟨ID,gtc,gdp,G3,G4,Ge,Hb,Hc⟩:=a;dsimp only at e1 e2 e3;subst e1;subst e3;clear e2;have HB:=aa (ae w (.cells (Tam g ID gtc gdp G3 G4 Ge Hb Hc) 31));have g7:(w.alloc (.cells (Tam g ID gtc gdp G3 G4 Ge Hb Hc) 31)).cell? (Tac w.heap.size 7)=some (.slice G4 g.F9.length Ge):=aD rfl rfl;go_enter func62,ntmps62
 go_upto_region 3 with (fail);generalize hW1:World.alloc w _=W1 at *;clear hW1 g7;go_loopw [5,11] (fun l i wr=>∃ k:Nat,k<=g.F9.length/\i=.int .i64 k/\dF wr w.heap.size l (gD ay.name (bI met) (g.F9.take k))/\Below w.heap.size w wr) (fun _ i _=>g.F9.length - (intOf i).toNat)
 exact ⟨0,cg _,rfl,dF.nil _ _,HB.o⟩;clear HB;obtain ⟨k,hk,rfl,hown,hB⟩:=hrel;have HOW:=aa hown;clear hown;have HB:=aa hB;clear hB;have hpl:=lq ay.name (bI met) (g.F9.take k);rw [ey] at hpl;by_cases hlt:k<g.F9.length
 ·obtain ⟨v,hv⟩:=aj g.F9 k hlt;obtain ⟨b,off,us,rfl,gR,cX,ez,eE,hcv⟩:=HG.o.elem hv;have hns:=HU.o.vn v (ct hv);obtain ⟨tv,sv,rfl,ew,fL⟩:=eE;obtain ⟨tp,tc,rfl,_,_⟩:=ew.cap;obtain ⟨sp,sc,rfl,_,_⟩:=fL.cap;have cT:wr.heap[b]?=w.heap[b]?:=HB.o.block b cX;obtain ⟨q0,q1,q2,q3,q4,q5⟩:=NG cT hcv;have sY:=aa (rJ ay.name (bI met) hv);clear hv hcv ez cT ew fL;have hA:=ae wr (.cells (Taf v tp tc sp sc) 68);have zv:=aa (b9 wr (.cells (Taf v tp tc sp sc) 68));have cm:=Zbl HB hA;have HOW2:=aa (HOW.o.below hA);clear hA;go_upto_region 5 with (fail);clear q0 q1 q2 q3 q4 q5;generalize hW2:World.alloc wr _=W2 at *;generalize hBv:wr.heap.size=Bv at *;clear hW2 HB HOW;have v0:=cr zv.o 0 _ rfl;have mA:=cm.o.size;have Oa:=aa (zt v.name Bx bm n met W2 ((cm.o.cell (p:=Bx) PX).trans HX.o) (HM.o.block (cm.o.block bm HM.o.lt)) hns);obtain ⟨lp,lc,e,_,_⟩:=(HOW2.o.rd (ok:=fun _=>True) (fun _ _=>trivial)).cap;subst e;have LP:=aa (eT (ok:=fun _=>True) _ v.name _ W2 (HOW2.o.rd (ok:=fun _=>True) (fun _ _=>trivial)) TcC);generalize Ps:gD ay.name (bI met) (g.F9.take k)=pl at *;have RL:=aa Ps;clear Ps;cases hh:bI met v.name with
  | false =>
   rw [hh] at Oa sY;rw [Bool.false_and,bh TcD] at sY;have HH:=aa hh;clear hh;clear LP;go_wp2_with (refine Oa.o.mono ?_;rintro e w3 ⟨rfl,rfl⟩)
   go_roundw;exact ⟨k+1,TcC,TcG,Td1,cm.o⟩;simp [intOf];omega
  | true =>
   rw [hh] at Oa sY;rw [Bool.true_and] at sY;have HH:=aa hh;clear hh;cases hc:bI pl v.name with
   | true =>
    rw [hc] at LP sY;rw [bh TcD] at sY;have HC:=aa hc;clear hc;go_wp2_with (first | (refine Oa.o.mono ?_;rintro e w3 ⟨rfl,rfl⟩) | (refine LP.o.mono ?_;rintro e w3 ⟨rfl,rfl⟩))
    go_roundw;exact ⟨k+1,TcC,TcG,Td1,cm.o⟩;simp [intOf];omega
   | false =>
    rw [hc] at LP sY;rw [aw TcD] at sY;have HC:=aa hc;clear hc;go_wp2_with (first | (refine Oa.o.mono ?_;rintro e w3 ⟨rfl,rfl⟩) | (refine LP.o.mono ?_;rintro e w3 ⟨rfl,rfl⟩) | (at_builtin;refine dz rfl _ _ rfl w.heap.size _ pl v.name rfl ?c1 W2.heap.size 1 rfl ?c2 ?c3 ?c4 ?_))
    case c1=>exact HOW2.o.alloc _
    case c2=>exact aD rfl rfl
    case c3=>omega
    case c4=>simp;omega
    intro v' w1 hown1 hb1 _;have eI:=aa ((cm.o.alloc mA _).trans hb1);have HOW4:=aa hown1;clear hb1 hown1;go_wp2;go_roundw;exact ⟨k+1,TcC,TcG,by rw [sY.o];exact HOW4.o,eI.o⟩;simp [intOf];omega
 obtain rfl:k=g.F9.length:=by omega
 rw [cI] at HOW;go_wp2;go_ret;exact ⟨_,rfl,HOW.o,HB.o⟩
end Go.Proofs.YtaagglbgohjldaaGreatDoor
