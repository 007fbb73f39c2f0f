/- Lemmas: MkU, PolH. -/
import Derived.Test.YtaagglbgohjldaaGreatDoorQv29
import Derived.Test.YtaagglbgohjldaaGreatDoorQv36
set_option maxRecDepth 100000
set_option maxHeartbeats 32000000
set_option linter.all false
namespace Go.Proofs.YtaagglbgohjldaaGreatDoor
open Go.Proofs.Tryz
open Go.RowKit
variable {w0 w w':World}{bs Bg Bq:Nat}{g:af}{a:bN}{r:aY}{n:Int}{s:ByteArray}
def mO (r:aY):Value:=.agg (Tal r)
def F7 (bs:Nat)(w:World)(e:Ending)(w':World):Prop:=∃ r:aY,e=.returned (mO r)/\dK r/\Src w' bs/\cR (fun b=>b=bs) w w'
def TaK :Tab #[.int .i64 0,.int .i64 0,.int .i64 0,.int .i64 0,.string ⟨#[]⟩,.string ⟨#[]⟩,.string ⟨#[]⟩]:=⟨⟩
structure kD (w0:World)(bs Bg Bq:Nat)(g:af)(a:bN)(r:aY)(w:World):Prop where
 src:Src w bs
 md:cR (fun b=>b=bs) w0 w
 gb:w.heap[Bg]?=some (.cells (Tad g a) 31 (0,0))
 rb:w.heap[Bg+1]?=some (.cells TaK 34 (0,0))
 qb:w.heap[Bq]?=some (.cells (Tal r) 34 (0,0))
 rq:dK r
theorem kD.call (h:kD w0 bs Bg Bq g a r w)(hs:Src w' bs)(hm:cR (fun i=>i=bs) w w')(hg:Bg≠bs)(hr:Bg+1≠bs)(hq:Bq≠bs):kD w0 bs Bg Bq g a r w' :=
 ⟨hs,h.md.trans hm (fun _ e=>.inl e),(hm.block _ (aq h.gb) hg).trans h.gb,(hm.block _ (aq h.rb) hr).trans h.rb,(hm.block _ (aq h.qb) hq).trans h.qb,h.rq⟩
theorem kD.below (h:kD w0 bs Bg Bq g a r w)(hb:Below w.heap.size w w'):kD w0 bs Bg Bq g a r w' :=
 ⟨h.src.keep fun i hi=>hb.block i (rr hi h.src.lt),h.md.trans (cR.of_below (F:=fun _=>False) hb) (fun _ f=>f.elim),(hb.block _ (aq h.gb)).trans h.gb,(hb.block _ (aq h.rb)).trans h.rb,(hb.block _ (aq h.qb)).trans h.qb,h.rq⟩
theorem kD.set (h:kD w0 bs Bg Bq g a r w)(r':aY)(j:Nat)(v:Value)(hv:(#[.int .i64 r.Gi,.int .i64 r.Gh,.int .i64 r.Gc,.int .i64 r.Gg,.string r.tag,.string r.near,.string r.sep]:Array Value).setIfInBounds j v=#[.int .i64 r'.Gi,.int .i64 r'.Gh,.int .i64 r'.Gc,.int .i64 r'.Gg,.string r'.tag,.string r'.near,.string r'.sep])(hr:dK r')(hg:Bg≠Bq)(hrq:Bg+1≠Bq)(hq:bs<Bq)(h0:w0.heap.size<=Bq) :
  kD w0 bs Bg Bq g a r' (w.setCell (Bq,j) v) :=
 ⟨h.src.keep fun i hi=>bw _ _ _ _ (by show i≠Bq;omega),h.md.setCell (.inr h0) _,(bw _ _ _ _ hg).trans h.gb,(bw _ _ _ _ hrq).trans h.rb,(block_setCell v h.qb).trans (by rw [hv]),hr⟩
theorem kD.qc (h:kD w0 bs Bg Bq g a r w)(i:Nat)(z:Value)(hz:[.int .i64 r.Gi,.int .i64 r.Gh,.int .i64 r.Gc,.int .i64 r.Gg,.string r.tag,.string r.near,.string r.sep][i]?=some z):w.cell? (Bq,i)=some z:=by
 simp only [World.cell?,h.qb];simpa using hz
theorem kD.qf (h:kD w0 bs Bg Bq g a r w)(i:Nat):w.frozen? (Bq,i)=false:=by simp [World.frozen?,h.qb]
theorem dK.setL (h:dK r)(hn:-9223372036854775808<=n/\n<=9223372036854775807):dK { r with Gi:=n }:=⟨hn,h.s,h.e,h.p,h.t,h.n,h.q⟩
theorem dK.setS (h:dK r)(hn:-9223372036854775808<=n/\n<=9223372036854775807):dK { r with Gh:=n }:=⟨h.l,hn,h.e,h.p,h.t,h.n,h.q⟩
theorem dK.setE (h:dK r)(hn:-9223372036854775808<=n/\n<=9223372036854775807):dK { r with Gc:=n }:=⟨h.l,h.s,hn,h.p,h.t,h.n,h.q⟩
theorem dK.setP (h:dK r)(hn:-9223372036854775808<=n/\n<=9223372036854775807):dK { r with Gg:=n }:=⟨h.l,h.s,h.e,hn,h.t,h.n,h.q⟩
theorem dK.setT (h:dK r)(hn:s.size<=9223372036854775807):dK { r with tag:=s }:=⟨h.l,h.s,h.e,h.p,hn,h.n,h.q⟩
theorem dK.setN (h:dK r)(hn:s.size<=9223372036854775807):dK { r with near:=s }:=⟨h.l,h.s,h.e,h.p,h.t,hn,h.q⟩
theorem dK.setQ (h:dK r)(hn:s.size<=9223372036854775807):dK { r with sep:=s }:=⟨h.l,h.s,h.e,h.p,h.t,h.n,hn⟩
theorem lV (w:World)(l:List Int)(t:TypeId):ig (w.alloc (.cells (l.map (Value.int .i64)).toArray t)) w.heap.size 0 l:=fun i n hn=>by
 rw [eJ];exact aD rfl (by simp [hn])
theorem uW (w:World)(l:List ByteArray)(t:TypeId)(ok:Nat->Prop)(gw:ok w.heap.size)(hl:l.length<=1000):ck aF 1 ok (w.alloc (.cells (l.map Value.string).toArray t)) [.slice (some w.heap.size) l.length l.length] l :=
 ⟨_,l.length,rfl,bk _,TcC,fun _=>⟨w.heap.size,0,rfl,TcD,gw,fun i x hx=>⟨[.string x],rfl,rfl,fun j z hz=>by
  match j,hz with
  | 0,hz =>
   obtain rfl:Value.string x=z:=by simpa using hz
   exact aD rfl (by simp [hx])⟩⟩⟩
def qj:List ByteArray:=[⟨#[102,97,115,116]⟩,⟨#[115,105,116,101,61,49]⟩,⟨#[99,111,108,100]⟩,⟨#[122,122]⟩]
def qF:List ByteArray:=[⟨#[115,105,116,101,61]⟩,⟨#[102]⟩,⟨#[115]⟩]
theorem A9:∀ s∈qj,s.size<=9223372036854775807:=fun s hs=>by
 simp only [qj,dr,cY,dg] at hs;rcases hs with rfl | rfl | rfl | rfl <;> decide
theorem AO:∀ s∈qF,s.size<=9223372036854775807:=fun s hs=>by
 simp only [qF,dr,cY,dg] at hs;rcases hs with rfl | rfl | rfl <;> decide
def TaM (x0:Int)(x1:Int)(x2:Int)(x3:Int):Tab #[.int .i64 x0,.int .i64 x1,.int .i64 x2,.int .i64 x3,.string ⟨#[]⟩,.string ⟨#[]⟩,.string ⟨#[]⟩]:=⟨⟩
theorem Tba {p:Prop}(h:p:=by
 ·have hk:∀ (V:World) (o:Nat) (z:Value),cR (fun b=>b=bs) w V->cR (fun b=>b=bs) w (V.setCell ⟨Bg+1,o,none⟩ z):=fun V o z q=>q.setCell (p:=⟨Bg+1,o,none⟩) (.inr (by show w.heap.size<=Bg+1;omega)) z
  exact hk _ _ _ (hk _ _ _ (hk _ _ _ (hk _ _ _ (hk _ _ _ (hk _ _ _ (hk _ _ _ HS6.o.md))))))):p:=h
theorem Tbd {p:Prop}(h:p:=by
 have hk:∀ (V:World) (o:Nat) (z:Value),Src V bs->Src (V.setCell ⟨Bg+1,o,none⟩ z) bs:=fun V o z q=>q.keep fun i hi=>bw _ _ _ _ (by show i≠Bg+1;omega)
 exact hk _ _ _ (hk _ _ _ (hk _ _ _ (hk _ _ _ (hk _ _ _ (hk _ _ _ (hk _ _ _ HS6.o.src))))))):p:=h
theorem Tdn {p:Prop}(h:p:=by simp [mO,results,Tryz.results7,go_sem,b0,b1,b2,b3,b4,b5,b6]):p:=h
theorem Tej {p:Prop}(h:p:=by show ByteArray.size ⟨#[]⟩<=_;decide):p:=h
theorem wX (g:af)(a:bN)(bs:Nat)(w:World)(hr:ck aN 6 (fun b=>b≠bs) w [.slice a.vp g.F9.length a.vc] g.F9)(mb:g.F9.length<=1000)(Ok:∀ v∈g.F9,v.name.size<=9223372036854775807)(h:Src w bs) :
  Calls prog 7 #[.pointer (some bs),.agg (Tad g a)] w (F7 bs w):=by
 have HG:=aa hr;clear hr;have VX:=aa Ok;clear Ok;have gO:=h.lt;have hA1:=ae w (.cells (Tad g a) 31);have hA2:=ae (w.alloc (.cells (Tad g a) 31)) (.cells TaK 34);have hN1:=b9 w (.cells (Tad g a) 31);have hN2:=b9 (w.alloc (.cells (Tad g a) 31)) (.cells TaK 34);rw [cW] at hN2;have Mj:=aa ((hA2.block _ (aq hN1)).trans hN1);have yi:=aa hN2;have hb12:=hA1.trans (hA2.mono hA1.size);have Ta:Hid (cR (fun b=>b=bs) w _):=aa (cR.of_below hb12);have HS2:=aa (h.keep fun i hi=>hb12.block i TcC);clear hA1 hA2 hN1 hN2 hb12;go_enter func7,ntmps7
 go_upto_region 1 with (fail);generalize hW2:World.alloc (World.alloc w _) _=W2 at *;generalize Ms:w.heap.size=Bg at *;clear hW2;go_wp2_with fail;refine (bO bs 1 3 W2 TcC TcC TcC HS2.o).mono ?_;rintro e w3 ⟨n1,rfl,XG,XH,hs3,hm3⟩;go_wp2_with fail;have HC3:=aa (lV w3 [1,1,2] 3);have hA3:=ae w3 (.cells ([1,1,2].map (Value.int .i64)).toArray 3);have hs3':Src w3 bs:=hs3;refine (jD bs w3.heap.size 3 [1,1,2] _ TcF TcF TcF TcF TcD (by have:=hs3'.lt;omega) HC3.o (hs3'.keep fun i hi=>hA3.block i (rr hi hs3'.lt))).mono ?_;rintro e w4 ⟨n2,rfl,hn2,hs4,hm4⟩;have hm4':=(hm3.trans (cR.of_below (F:=fun _=>False) hA3) (fun _ f=>f.elim)).trans hm4 (fun _ e=>.inl e);clear HC3 hA3 hm3 hm4 hs3 hs3';go_wp2_with fail;refine (bO bs 1 12 w4 TcC TcC TcC hs4).mono ?_;rintro e w5 ⟨n3,rfl,XI,XJ,hs5,hm5⟩;go_wp2_with fail;refine (bO bs 1 5 w5 TcC TcC TcC hs5).mono ?_;rintro e w6 ⟨n4,rfl,XK,XL,hs6,hm6⟩;have hm6':=(hm4'.trans hm5 (fun _ e=>.inl e)).trans hm6 (fun _ e=>.inl e);have hn2':1<=n2/\n2<=2:=by
  simp only [dr,cY,dg] at hn2;omega
 clear hm4' hm5 hm6 hs4 hs5 hn2;have hA6:=ae w6 (.cells (TaM n1 n2 n3 n4) 34);have hN6:=b9 w6 (.cells (TaM n1 n2 n3 n4) 34);have ye:Bg<W2.heap.size:=aq Mj.o;have hrs:Bg+1<W2.heap.size:=aq yi.o;have HST:Hid (kD w bs Bg w6.heap.size g a ⟨n1,n2,n3,n4,⟨#[]⟩,⟨#[]⟩,⟨#[]⟩⟩ (w6.alloc (.cells (TaM n1 n2 n3 n4) 34))):=aa
  ⟨(show Src w6 bs from hs6).keep fun i hi=>hA6.block i (rr hi (show Src w6 bs from hs6).lt),(Ta.o.trans hm6' (fun _ e=>.inl e)).trans (cR.of_below (F:=fun _=>False) hA6) (fun _ f=>f.elim),
   (hA6.block _ (cC ye hm6'.size)).trans ((hm6'.block _ ye TcC).trans Mj.o),(hA6.block _ (cC hrs hm6'.size)).trans ((hm6'.block _ hrs TcC).trans yi.o),hN6,
   ⟨TcJ,TcJ,TcJ,TcJ,Tej,Tej,Tej⟩⟩
 have hq6:Bg+1<w6.heap.size:=cC hrs hm6'.size;clear hA6 hN6 hs6 hm6' Mj yi Ta HS2;go_upto_region 2 with (fail);generalize hW7:World.alloc w6 _=W7 at *;generalize PF:w6.heap.size=Bq at *;clear hW7 PF XG XH hn2' XI XJ XK XL ye hrs;have MF:Bg≠Bq:=by omega
 have hrq:Bg+1≠Bq:=by omega
 have hqs:bs<Bq:=by omega
 have MH:w.heap.size<=Bq:=by omega
 have ye:Bg≠bs:=by omega
 have hrs:Bg+1≠bs:=by omega
 have Mg:Bq≠bs:=by omega
 go_wp2_with fail;refine (bY bs 2 W7 TcC TcC HST.o.src).mono ?_;rintro e w8 ⟨n,rfl,_,_,hs8,hm8⟩;have HS8:=aa (HST.o.call hs8 hm8 ye hrs Mg);clear hs8 hm8 HST;go_upto_if 18 with (fail)
 go_cut [5] (fun v wc=>v=.pointer (some Bq)/\∃ r,kD w bs Bg Bq g a r wc)
 case first =>
  have qL:=HS8.o.qc;obtain ⟨q0,q1,q2,q3,q4,q5,q6⟩:=se qL;have qf:=HS8.o.qf;clear qL;by_cases hn:n=0
  ·subst hn;go_wp2;go_meet;exact ⟨rfl,_,((HS8.o.set ⟨1,n2,n3,n4,⟨#[]⟩,⟨#[]⟩,⟨#[]⟩⟩ 0 (.int .i64 1) rfl (HS8.o.rq.setL TcC) MF hrq hqs MH).set ⟨1,1,n3,n4,⟨#[]⟩,⟨#[]⟩,⟨#[]⟩⟩ 1 (.int .i64 1) rfl ((HS8.o.rq.setL TcC).setS TcC) MF hrq hqs MH)⟩
  go_wp2;go_meet;exact ⟨rfl,_,HS8.o⟩
 case rest =>
  obtain ⟨rfl,r1,hst⟩:=hcut;have HS:=aa hst;clear hst HS8;go_upto_region 4 with (fail);go_cut [39] (fun v wx=>∃ c:Bool,v=.bool c/\(c=true->0<g.F9.length)/\kD w bs Bg Bq g a r1 wx)
  case first =>
   have g7:=cr HS.o.gb 7 _ rfl;by_cases h0:0<g.F9.length
   ·go_wp2_with fail;refine (bY bs 2 wc TcC TcC HS.o.src).mono ?_;rintro e w8 ⟨n,rfl,_,_,hs8,hm8⟩;have HS8:=aa (HS.o.call hs8 hm8 ye hrs Mg);clear hs8 hm8 g7;have q3:=HS8.o.qc 3 _ rfl;by_cases hn:n=0
    ·subst hn;go_wp2;go_meet;exact ⟨_,rfl,fun _=>h0,HS8.o⟩
    have sy:(n == 0)=false:=by simpa using hn
    cases h2:(r1.Gg == 2) with
    | true =>
     go_wp2;go_meet;exact ⟨_,rfl,fun _=>h0,HS8.o⟩
    | false =>
     go_wp2;go_meet;exact ⟨_,rfl,fun _=>h0,HS8.o⟩
   go_wp2;go_meet;exact ⟨false,rfl,fun h=>(by cases h),HS.o⟩
  case rest =>
   obtain ⟨c,rfl,hc0,hst⟩:=hcut;have HS2:=aa hst;clear hst HS;go_upto_if 39 with (fail)
   go_cut [5] (fun v wx=>v=.pointer (some Bq)/\∃ r,kD w bs Bg Bq g a r wx)
   case first =>
    cases c with
    | false =>
     go_wp2;go_meet;exact ⟨rfl,_,HS2.o⟩
    | true =>
     have hv0:=hc0 rfl;go_upto_region 5 with (fail);have UL:Hid (∀ w':World,w'.heap[Bg]?=wc.heap[Bg]?->w'.cell? (Tac Bg 7)=some (.slice a.vp g.F9.length a.vc)):=aa fun w' e=>by
      have:=e.trans HS2.o.gb;simp [World.cell?,this]
     refine aL (fun w'=>w'.cell? (Tac Bg 7)=some (.slice a.vp g.F9.length a.vc)) 7 [] TcE (UL.o _ rfl) (fun hHeld=>?_);refine fS 0 hHeld ?_;refine fS 1 hHeld ?_;refine fS 2 hHeld ?_;refine fS 3 hHeld ?_;refine fS 4 hHeld ?_;refine fS 5 hHeld ?_;refine lR 6 fun K hK=>?_;go_simp;refine (bY bs (g.F9.length:Int) wc.drew TcC TcC (HS2.o.src.keep fun _ _=>rfl)).mono ?_;rintro e w8 ⟨n,rfl,hn1,hn2,hs8,hm8⟩;have hm8':cR (fun i=>i=bs) wc w8:=⟨hm8.os,hm8.tape,hm8.output,hm8.size,hm8.block⟩;have HS8:=aa (HS2.o.call hs8 hm8' ye hrs Mg);have Zo:=aa hm8';refine hK.o _ _ (UL.o _ ((HS8.o.gb).trans HS2.o.gb.symm)) ?_;clear hK K hHeld hs8 hm8 hm8';obtain ⟨k,rfl⟩:=D4 hn1;obtain ⟨v,hv⟩:=aj g.F9 k TcC;have hgm:ck aN 6 (fun b=>b≠bs) w8 [.slice a.vp g.F9.length a.vc] g.F9:=(ck.moves aN.moves).mv ⟨(HS2.o.md.trans Zo.o (fun _ e=>.inl e)).size,fun b hb ho=>⟨ho,(HS2.o.md.trans Zo.o (fun _ e=>.inl e)).block b hb ho⟩⟩ HG.o;obtain ⟨b,off,us,hsp,gR,cX,ez,eE,hcv⟩:=hgm.elem hv;obtain ⟨tv,sv,rfl,_,_⟩:=eE;have v0:=hcv 0 _ rfl;rw [fg] at v0;have hvz:=VX.o v (ct hv);have hkl:k<g.F9.length:=by omega
     rw [hsp];have qL:=HS8.o.qc;have q5:=qL 5 _ rfl;have qf:=HS8.o.qf;clear qL hv hcv ez hgm;have HSN:=aa (HS8.o.set { r1 with near:=v.name } 5 (.string v.name) rfl (HS8.o.rq.setN hvz) MF hrq hqs MH);have g7:=UL.o w8 ((HS8.o.gb).trans HS2.o.gb.symm);have g7':=UL.o (w8.setCell (Tac Bq 5) (.string v.name)) ((HSN.o.gb).trans HS2.o.gb.symm);rw [hsp] at g7 g7';refine lR 7 fun K hK=>?_;go_simp;refine hK.o _ _ g7 ?_;clear hK K;refine lR 8 fun K hK=>?_;go_simp;refine hK.o _ _ g7 ?_;clear hK K;refine lR 9 fun K hK=>?_;go_simp;refine hK.o _ _ g7 ?_;clear hK K;refine lR 10 fun K hK=>?_;go_simp;refine hK.o _ _ g7 ?_;clear hK K;refine lR 11 fun K hK=>?_;go_simp;refine hK.o _ _ g7' ?_;clear hK K;refine ⟨TcE,?_⟩;rw [<- hsp];clear hsp;go_wp2;go_meet;exact ⟨rfl,_,HSN.o⟩
   case rest =>
    obtain ⟨rfl,r2,hst⟩:=hcut;have HS3:=aa hst;clear hst HS2 hc0;go_wp2_with fail;refine (bY bs 4 _ TcC TcC HS3.o.src).mono ?_;rintro e w8 ⟨n,rfl,_,_,hs8,hm8⟩;have HS8:=aa (HS3.o.call hs8 hm8 ye hrs Mg);clear hs8 hm8;go_upto_if 53 with (fail)
    go_cut [5] (fun v wx=>v=.pointer (some Bq)/\∃ r,kD w bs Bg Bq g a r wx)
    case first =>
     by_cases hn:n=0
     ·subst hn;have hA:=ae w8 (.cells (qj.map Value.string).toArray 9);have HSA:=aa (HS8.o.below hA);have hne:w8.heap.size≠bs:=by have:=HS8.o.src.lt;omega
      have HW:=aa (qH bs 4 (some ⟨w8.heap.size,0,none⟩) qj _ TcF TcF (uW w8 qj 9 (fun k=>k≠bs) hne TcF) HSA.o.src);clear hA;go_wp2_with fail;refine HW.o.mono ?_;rintro e w9 ⟨s,rfl,hsw,hs9,hm9⟩;have HS9:=aa (HSA.o.call hs9 hm9 ye hrs Mg);clear hs9 hm9;have q4:=HS9.o.qc 4 _ rfl;have qf:=HS9.o.qf;have hsz:=A9 s hsw;go_wp2;go_meet;exact ⟨rfl,_,HS9.o.set { r2 with tag:=s } 4 (.string s) rfl (HS9.o.rq.setT hsz) MF hrq hqs MH⟩
     go_wp2;go_meet;exact ⟨rfl,_,HS8.o⟩
    case rest =>
     obtain ⟨rfl,r3,hst⟩:=hcut;have HS4:=aa hst;clear hst HS3 HS8;go_wp2_with fail;refine (bY bs 3 _ TcC TcC HS4.o.src).mono ?_;rintro e w8 ⟨n,rfl,_,_,hs8,hm8⟩;have HS8:=aa (HS4.o.call hs8 hm8 ye hrs Mg);clear hs8 hm8;go_upto_if 60 with (fail)
     go_cut [5] (fun v wx=>v=.pointer (some Bq)/\∃ r,kD w bs Bg Bq g a r wx)
     case first =>
      by_cases hn:n=0
      ·subst hn;have hA:=ae w8 (.cells (qF.map Value.string).toArray 9);have HSA:=aa (HS8.o.below hA);have hne:w8.heap.size≠bs:=by have:=HS8.o.src.lt;omega
       have HW:=aa (qH bs 3 (some ⟨w8.heap.size,0,none⟩) qF _ TcF TcF (uW w8 qF 9 (fun k=>k≠bs) hne TcF) HSA.o.src);clear hA;go_wp2_with fail;refine HW.o.mono ?_;rintro e w9 ⟨s,rfl,hsw,hs9,hm9⟩;have HS9:=aa (HSA.o.call hs9 hm9 ye hrs Mg);clear hs9 hm9;have q6:=HS9.o.qc 6 _ rfl;have qf:=HS9.o.qf;have hsz:=AO s hsw;go_wp2;go_meet;exact ⟨rfl,_,HS9.o.set { r3 with sep:=s } 6 (.string s) rfl (HS9.o.rq.setQ hsz) MF hrq hqs MH⟩
      go_wp2;go_meet;exact ⟨rfl,_,HS8.o⟩
     case rest =>
      obtain ⟨rfl,r4,hst⟩:=hcut;have HS5:=aa hst;clear hst HS4 HS8;go_wp2_with fail;refine (bY bs 20 _ TcC TcC HS5.o.src).mono ?_;rintro e w8 ⟨n,rfl,_,_,hs8,hm8⟩;have HS8:=aa (HS5.o.call hs8 hm8 ye hrs Mg);clear hs8 hm8;have qf:=HS8.o.qf;have qL:=HS8.o.qc;obtain ⟨q0,q1,q2,q3,q4,q5,q6⟩:=se qL;clear qL;by_cases h0:n=0
      ·subst h0;have HC:=aa (lV w8 [0,-1,6,7,1099511627776] 3);have hA:=ae w8 (.cells ([0,-1,6,7,1099511627776].map (Value.int .i64)).toArray 3);have HSA:=aa (HS8.o.below hA);have hne:w8.heap.size≠bs:=by have:=HS8.o.src.lt;omega
       have Tb:=aa (jD bs w8.heap.size 5 [0,-1,6,7,1099511627776] _ TcF TcF TcF TcF TcD hne HC.o HSA.o.src);clear hA HC qf q0 q1 q2 q3 q4 q5 q6;go_wp2_with fail;refine Tb.o.mono ?_;rintro e w9 ⟨n,rfl,pD,hs9,hm9⟩;have HS9:=aa (HSA.o.call hs9 hm9 ye hrs Mg);clear hs9 hm9;have q0:=HS9.o.qc 0 _ rfl;have qf:=HS9.o.qf;have sy:-9223372036854775808<=n/\n<=9223372036854775807:=by
        simp only [dr,cY,dg] at pD;omega
       go_upto_region 21 with (fail);have HS6:=aa (HS9.o.set { r4 with Gi:=n } 0 (.int .i64 n) rfl (HS9.o.rq.setL sy) MF hrq hqs MH);generalize World.setCell _ _ _=wc at *;have qL:=HS6.o.qc;obtain ⟨q0,q1,q2,q3,q4,q5,q6⟩:=se qL;clear qL;have sB:=HS6.o.rb;have bL:=cr sB;obtain ⟨b0,b1,b2,b3,b4,b5,b6⟩:=se bL;have bf:=sr sB;clear bL sB;go_wp2;refine eC (v:=mO ({ r4 with Gi:=n })) Tdn rfl ⟨_,rfl,HS6.o.rq,?_,?_⟩
       ·exact Tbd
       exact Tba
      by_cases h1:n=1
      ·subst h1;have HC:=aa (lV w8 [0,-1,4096,4097] 3);have hA:=ae w8 (.cells ([0,-1,4096,4097].map (Value.int .i64)).toArray 3);have HSA:=aa (HS8.o.below hA);have hne:w8.heap.size≠bs:=by have:=HS8.o.src.lt;omega
       have Tb:=aa (jD bs w8.heap.size 4 [0,-1,4096,4097] _ TcF TcF TcF TcF TcD hne HC.o HSA.o.src);clear hA HC qf q0 q1 q2 q3 q4 q5 q6 h0;go_wp2_with fail;refine Tb.o.mono ?_;rintro e w9 ⟨n,rfl,pD,hs9,hm9⟩;have HS9:=aa (HSA.o.call hs9 hm9 ye hrs Mg);clear hs9 hm9;have q2:=HS9.o.qc 2 _ rfl;have qf:=HS9.o.qf;have sy:-9223372036854775808<=n/\n<=9223372036854775807:=by
        simp only [dr,cY,dg] at pD;omega
       go_upto_region 21 with (fail);have HS6:=aa (HS9.o.set { r4 with Gc:=n } 2 (.int .i64 n) rfl (HS9.o.rq.setE sy) MF hrq hqs MH);generalize World.setCell _ _ _=wc at *;have qL:=HS6.o.qc;obtain ⟨q0,q1,q2,q3,q4,q5,q6⟩:=se qL;clear qL;have sB:=HS6.o.rb;have bL:=cr sB;obtain ⟨b0,b1,b2,b3,b4,b5,b6⟩:=se bL;have bf:=sr sB;clear bL sB;go_wp2;refine eC (v:=mO ({ r4 with Gc:=n })) Tdn rfl ⟨_,rfl,HS6.o.rq,?_,?_⟩
       ·exact Tbd
       exact Tba
      by_cases h2:n=2
      ·subst h2;have Tb:=aa (bO bs 0 6 w8 TcC TcC TcC HS8.o.src);clear qf q0 q1 q2 q3 q4 q5 q6 h0 h1;go_wp2_with fail;refine Tb.o.mono ?_;rintro e w9 ⟨n,rfl,hna,ae4,hs9,hm9⟩;have HS9:=aa (HS8.o.call hs9 hm9 ye hrs Mg);clear hs9 hm9;have q3:=HS9.o.qc 3 _ rfl;have qf:=HS9.o.qf;go_upto_region 21 with (fail);have HS6:=aa (HS9.o.set { r4 with Gg:=n } 3 (.int .i64 n) rfl (HS9.o.rq.setP TcC) MF hrq hqs MH);generalize World.setCell _ _ _=wc at *;have qL:=HS6.o.qc;obtain ⟨q0,q1,q2,q3,q4,q5,q6⟩:=se qL;clear qL;have sB:=HS6.o.rb;have bL:=cr sB;obtain ⟨b0,b1,b2,b3,b4,b5,b6⟩:=se bL;have bf:=sr sB;clear bL sB;go_wp2;refine eC (v:=mO ({ r4 with Gg:=n })) Tdn rfl ⟨_,rfl,HS6.o.rq,?_,?_⟩
       ·exact Tbd
       exact Tba
      by_cases h3:n=3
      ·subst h3;clear h0 h1 h2;go_upto_region 21 with (fail);have HS6:=aa (HS8.o.set { r4 with near:=⟨#[122,122]⟩ } 5 (.string ⟨#[122,122]⟩) rfl (HS8.o.rq.setN TcF) MF hrq hqs MH);generalize World.setCell _ _ _=wc at *;have qL:=HS6.o.qc;obtain ⟨q0,q1,q2,q3,q4,q5,q6⟩:=se qL;clear qL;have sB:=HS6.o.rb;have bL:=cr sB;obtain ⟨b0,b1,b2,b3,b4,b5,b6⟩:=se bL;have bf:=sr sB;clear bL sB;go_wp2;refine eC (v:=mO ({ r4 with near:=⟨#[122,122]⟩ })) Tdn rfl ⟨_,rfl,HS6.o.rq,?_,?_⟩
       ·exact Tbd
       exact Tba
      by_cases h4:n=4
      ·subst h4;clear h0 h1 h2 h3;go_upto_region 21 with (fail);have HS6:=aa (HS8.o.set { r4 with sep:=⟨#[45]⟩ } 6 (.string ⟨#[45]⟩) rfl (HS8.o.rq.setQ TcF) MF hrq hqs MH);generalize World.setCell _ _ _=wc at *;have qL:=HS6.o.qc;obtain ⟨q0,q1,q2,q3,q4,q5,q6⟩:=se qL;clear qL;have sB:=HS6.o.rb;have bL:=cr sB;obtain ⟨b0,b1,b2,b3,b4,b5,b6⟩:=se bL;have bf:=sr sB;clear bL sB;go_wp2;refine eC (v:=mO ({ r4 with sep:=⟨#[45]⟩ })) Tdn rfl ⟨_,rfl,HS6.o.rq,?_,?_⟩
       ·exact Tbd
       exact Tba
      go_upto_region 21 with (fail);have HS6:=HS8;generalize w8=wc at *;clear q0 q1 q2 q3 q4 q5 q6;have qL:=HS6.o.qc;obtain ⟨q0,q1,q2,q3,q4,q5,q6⟩:=se qL;clear qL;have sB:=HS6.o.rb;have bL:=cr sB;obtain ⟨b0,b1,b2,b3,b4,b5,b6⟩:=se bL;have bf:=sr sB;clear bL sB;go_wp2;refine eC (v:=mO r4) Tdn rfl ⟨_,rfl,HS6.o.rq,?_,?_⟩
      ·exact Tbd
      exact Tba
open Go.Maps Go.Shelf
variable {w0 w w':World}{e:Ending}{g:af}{r:aY}{bs Bg Bq:Nat}{a:bN}
theorem uX.open2 (hb0:Below w0.heap.size w0 w)(hlt:w0.heap.size<w.heap.size)(h:uX w0.heap.size w e w') :
  ∃ (g:af) (a:bN),e=.returned (.agg (Tad g a))/\dN (fun b=>b≠w0.heap.size) w' g a/\sU g/\Src w' w0.heap.size/\Below w0.heap.size w0 w'/\w0.heap.size<w'.heap.size:=by
 obtain ⟨g,t,d,v,h,rfl,⟨t',d',v',h',e',h1,h2,h3,h4⟩,hB,hs,hst,hz,hk⟩:=h;injection e' with _ e';injection e' with _ e';injection e' with _ e';injection e' with _ e';injection e' with _ e';injection e' with e1 e';injection e' with e2 e';injection e' with e3 e';injection e' with e4 _;subst e1;subst e2;subst e3;subst e4;obtain ⟨tp,tc,rfl,_⟩:=h1.cap;obtain ⟨dp,dc,rfl,_⟩:=h2.cap;obtain ⟨vp,vc,rfl,_⟩:=h3.cap;obtain ⟨hp,hc,rfl,_⟩:=h4.cap;have hm:Mv (fun b=>w.heap.size<=b) (fun b=>b≠w0.heap.size) w' w':=⟨bk _,fun b _ hb=>⟨by show b≠_;omega,rfl⟩⟩;refine ⟨g,⟨tp,tc,dp,dc,vp,vc,hp,hc⟩,rfl,⟨(ck.moves aF.moves).mv hm h1,(ck.moves aO.moves).mv hm h2,(ck.moves aN.moves).mv hm h3,(ck.moves lF.moves).mv hm h4⟩,hB,hs,⟨hst.os.trans hb0.os,hst.tape.trans hb0.tape,hst.output.trans hb0.output,cA hb0.size hz,fun k q=>?_⟩,TcC⟩;have:=hb0.size;exact (hk k TcC TcC).trans (hb0.block k q)
theorem Dk.form (h:Dk g r w e w') :
  ∃ v xs,e=.returned (.tuple #[v,.int .i64 (kP g r)])/\fH w' w.heap.size v xs/\tK g r xs/\(xs.length=if kP g r=0 then g.Gb.length else 0)/\Below w.heap.size w w':=by
 obtain ⟨hb,⟨hp,rfl⟩ | ⟨hp,v,xs,rfl,ho,hl,hx⟩⟩:=h
 ·exact ⟨_,[],rfl,fH.nil _ _,fun i d x _ hx=>(by cases hx),by rw [bh hp];rfl,hb⟩
 exact ⟨v,xs,by rw [hp],ho,hx,by rw [aw hp];exact hl,hb⟩
theorem dN.keep (h:dN (fun b=>b≠bs/\b<Bg) w g a)(hm:cR (fun b=>b=bs) w w'):dN (fun b=>b≠bs/\b<Bg) w' g a :=
 h.mv ⟨hm.size,fun b hb ho=>⟨ho,hm.block b hb ho.1⟩⟩
theorem dN.lt (h:dN (fun b=>b≠bs) w g a):dN (fun b=>b≠bs/\b<w.heap.size) w g a:=h.mv ⟨bk _,fun _ hb ho=>⟨⟨ho,hb⟩,rfl⟩⟩
theorem cR.bl (h:Below w.heap.size w w'):cR (fun b=>b=bs) w w':=cR.of_below h
structure iw (w0:World)(Bg Bq:Nat)(g:af)(a:bN)(r:aY)(w:World):Prop where
 src:Src w w0.heap.size
 bl:Below w0.heap.size w0 w
 gr:dN (fun b=>b≠w0.heap.size/\b<Bg) w g a
 gb:w.heap[Bg]?=some (.cells (Tad g a) 31 (0,0))
 qb:w.heap[Bq]?=some (.cells (Tal r) 34 (0,0))
 rq:dK r
 sf:AW w
theorem iw.below (h:iw w0 Bg Bq g a r w)(hb:Below w.heap.size w w'):iw w0 Bg Bq g a r w' :=
 ⟨h.src.keep fun i hi=>hb.block i (rr hi h.src.lt),h.bl.trans (hb.mono h.bl.size),h.gr.keep (cR.bl hb),(hb.block _ (aq h.gb)).trans h.gb,(hb.block _ (aq h.qb)).trans h.qb,h.rq,h.sf.below hb⟩
theorem iw.gc (h:iw w0 Bg Bq g a r w)(i:Nat)(z:Value)(hz:[.string g.name,.int .u64 g.id,.int .i64 g.seq,.int .i64 g.Gd,.int .i64 g.next,.slice a.tp g.tags.length a.tc,.slice a.dp g.Gb.length a.dc,.slice a.vp g.F9.length a.vc,.slice a.hp g.history.length a.hc][i]?=some z):w.cell? (Bg,i)=some z:=by
 simp only [World.cell?,h.gb];simpa using hz
theorem iw.qc (h:iw w0 Bg Bq g a r w)(i:Nat)(z:Value)(hz:[.int .i64 r.Gi,.int .i64 r.Gh,.int .i64 r.Gc,.int .i64 r.Gg,.string r.tag,.string r.near,.string r.sep][i]?=some z):w.cell? (Bq,i)=some z:=by
 simp only [World.cell?,h.qb];simpa using hz
theorem iw.qf (h:iw w0 Bg Bq g a r w)(i:Nat):w.frozen? (Bq,i)=false:=by simp [World.frozen?,h.qb]
theorem iw.set (h:iw w0 Bg Bq g a r w)(r':aY)(j:Nat)(v:Value)(hv:(#[.int .i64 r.Gi,.int .i64 r.Gh,.int .i64 r.Gc,.int .i64 r.Gg,.string r.tag,.string r.near,.string r.sep]:Array Value).setIfInBounds j v=#[.int .i64 r'.Gi,.int .i64 r'.Gh,.int .i64 r'.Gc,.int .i64 r'.Gg,.string r'.tag,.string r'.near,.string r'.sep])(hr:dK r')(hg:Bg<Bq)(hq:w0.heap.size<Bq):iw w0 Bg Bq g a r' (w.setCell (Bq,j) v) :=
 ⟨h.src.keep fun i hi=>bw _ _ _ _ (by show i≠Bq;omega),h.bl.setCell (p:=⟨Bq,j,none⟩) (by show w0.heap.size<=Bq;omega) v,h.gr.mv ⟨TcR,fun b hb ho=>⟨ho,bw _ _ _ _ (by show b≠Bq;omega)⟩⟩,(bw _ _ _ _ (by show Bg≠Bq;omega)).trans h.gb,(block_setCell v h.qb).trans (by rw [hv]),hr,
  ⟨by simpa [World.setCell] using h.sf.1,fun i l hl=>by
   rw [cd (w:=w) (bw w ⟨Bq,j,none⟩ v 0 (by show 0≠Bq;omega))];exact h.sf.2 i l hl⟩⟩
end Go.Proofs.YtaagglbgohjldaaGreatDoor
