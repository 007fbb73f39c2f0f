/- Lemmas: ModC, ModD, Sto, ModE, ModF, ModG. -/
import Derived.Test.YtillcmhjhajimaaGreatDoorQj10
set_option maxRecDepth 100000
set_option maxHeartbeats 32000000
set_option linter.all false
namespace Go.Proofs.YtillcmhjhajimaaGreatDoor
open Go.Proofs.Tryz
open Go.RowKit Go.Maps Go.Shelf Go.Sort
variable {α:Type}{sz b k:Nat}{w W:World}{v:ay}{z:Nat × Nat}{F9:List ay}{nm:ByteArray}{t:TypeId}{z0 z1 z2 z3 z4 z5 z6 z7 z8 z9 z10 c1 c2 c3 c5 c6 c9:Value}
def uV{α:Type}(V:jx α)(sz:Nat)(ok:Nat->Prop)(l:List α)(w:World)(e:Ending)(w':World):Prop :=
 ∃v,e=.returned v/\b6 V sz (fun b=>ok b\/w.heap.size<=b) w' [v] l/\Below w.heap.size w w'
theorem vB{V:jx α}{ok:Nat->Prop}{v:Value}{l:List α}(h:b6 V sz ok w [v] l)(hl:¬0<l.length)(ok':Nat->Prop)(w':World):∃p c,v=.slice p 0 c/\b6 V sz ok' w' [v] l:=by
 obtain⟨p,cap,e,h1,h2,_⟩:=h;obtain rfl:=List.singleton_inj.1 e;have h0:l.length=0:=by omega
 exact⟨p,cap,by rw[h0],p,cap,rfl,h1,h2,fun h=>absurd h hl⟩
theorem jy{V:jx α}{ok:Nat->Prop}(h1:∀u x,V ok w u x->∀z∈u,z.oneCell'=true):∀(l:List α) (off:Nat),oh V sz ok w b off l->∃cs,Flat V sz ok w cs l/\∀(j:Nat) (z:Value),cs[j]?=some z->w.cell? (b,off+j)=some z
 |[],off,_=>⟨[],rfl,fun j z h=>by simp at h⟩
 |x :: l,off,h=>by
  obtain⟨u,hu,hv,hc⟩:=h 0 x rfl;obtain⟨cs,hf,hcs⟩:=jy h1 l (off+sz) (fun i y hy=>by
   obtain⟨u',hu',hv',hc'⟩:=h (i+1) y Tc6;refine⟨u',hu',hv',fun j z hz=>?_⟩;have:=hc' j z hz;rwa[show off+(i+1)*sz+j=off+sz+i*sz+j from by rw[Oy];omega]at this)
  refine⟨u++cs,⟨u,cs,rfl,hu,hv,h1 u x hv,hf⟩,fun j z hz=>?_⟩;by_cases hj:j<sz
  ·rw[Fo TcN]at hz;have:=hc j z hz;rwa[Nat.zero_mul,fg]at this
  rw[Cp TcN,hu]at hz;have:=hcs (j-sz) z hz;rwa[show off+sz+(j-sz)=off+j from by omega]at this
theorem qZ{V:jx α}{ok:Nat->Prop}:∀(l:List α) (cs:List Value),Flat V sz ok w cs l->∀y∈cs,y.oneCell'=true
 |[],_,hf,y,hy=>by
  simp only[Flat]at hf;subst hf;cases hy
 |_ :: l,_,⟨u,r,e,_,_,h3,h4⟩,y,hy=>by
  rw[e]at hy;rcases List.mem_append.1 hy with hy|hy
  ·exact h3 y hy
  exact qZ l r h4 y hy
theorem mH{V:jx α}(hV:Moves V){bytes:Nat}{ρ:Ren}(L:SlLaysE0.n41 prog ρ){i0:TypeInfo}{z:Value}(hi:prog.info? (ρ.t 23)=some i0)(hz0:i0.zero=some z)(hz1:i0.size=sz)(hz2:i0.bytes=bytes)(hzs:z.cells.size=sz)(hsz:0<sz)
  (hsize:∀w,(Go.sizeOf (ρ.t 23)).run prog w=.ok sz w) {ok:Nat->Prop} (l:List α) (v:Value) (w:World) (hr:b6 V sz ok w [v] l) (h1:∀u x,V ok w u x->∀y∈u,y.oneCell'=true) (hlen:l.length<=1000000) (hb:bytes<=1000) (h0:0<l.length) :
  Calls prog (ρ.f 41) #[v] w (uV V sz ok l w):=by
 obtain⟨p,cap,e,hlc,ij,hp⟩:=hr;obtain rfl:=List.singleton_inj.1 e;obtain⟨b,off,rfl,cX,gR,hc⟩:=hp h0;obtain⟨cs,hf,hcs⟩:=jy h1 l off hc;have hl:=Flat.length l cs hf;refine(AnyE.slices_Clone L i0 z sz bytes hi hz0 hz1 hz2 hzs hsz hsize b off l.length cap cs w hl TcW (by have:l.length*bytes<=1000000*1000:=ue hlen hb;omega) hcs ?_).mono ?_
 ·exact qZ l cs hf
 rintro e w' ⟨v',rfl,ho,_,hb'⟩;refine⟨v',rfl,?_,hb'⟩;have hown:bF V sz (ρ.t 23) w.heap.size ok w' v' l:=⟨cs,ho,Flat.moves hV ⟨hb'.size,fun b hb ho=>⟨ho,hb'.block b hb⟩⟩ _ _ hf⟩;exact hown.rd hV hsz (fun b _ h=>.inl h) (fun b e=>.inr (fh ho b e).1)
theorem Teg{p:Prop}(h:p:=by rw[HN.o];exact⟨some _,0,rfl,by simp,by omega,fun h=>absurd h (by simp)⟩):p:=h
theorem Tew{p:Prop}(h:p:=by rw[HN.o];exact b6.nil):p:=h
theorem rD{ok:Nat->Prop}(l:List ByteArray)(v:Value)(w:World)(hr:b6 aF 1 ok w [v] l)(hlen:l.length<=1000000) :
  Calls prog 53 #[v] w (uV aF 1 ok l w):=by
 by_cases h0:0<l.length
 ·obtain⟨i0,hi,hz0,hz1,hz2⟩:=gg o5;exact mH aF.moves Tryz.cloneS hi hz0 hz1 hz2 rfl TcQ Tryz.sizeOf9 l v w hr (fun u x h y hy=>by obtain rfl:u=_:=h;obtain rfl:=List.mem_singleton.1 hy;rfl) hlen TcQ h0
 obtain⟨p,c,rfl,hr'⟩:=vB hr h0 (fun b=>ok b\/w.heap.size<=b) w;clear hr;have HR:=aa hr';clear hr';have HN:Hid (l=[]):=aa (fX TcN);clear h0 hlen;cases p with
 |none =>
  refine(AnyE.slices_Clone_nil Tryz.cloneS _ _ w).mono ?_;rintro e w' ⟨rfl,rfl⟩;exact⟨_,rfl,Tew,bj _ _⟩
 |some a =>
  have q22:∀(w:World) (a:Option Addr) (n c n' c':Nat),(binOp .eql 27 (.slice a n c) (.slice none n' c')).run prog w=.ok (.bool a.isNone) w:=fun w a n c n' c'=>Cl w _ _ a n c n' c' underlying27;go_enter func53,ntmps53;go_wp2;go_ret;exact⟨.slice (some ⟨w.heap.size,0,none⟩) 0 0,rfl,Teg,(RowKit.Below.refl _ _).alloc (bk _) _⟩
theorem zk{ok:Nat->Prop}(l:List Int)(v:Value)(w:World)(hr:b6 cO 1 ok w [v] l)(hlen:l.length<=1000000) :
  Calls prog 132 #[v] w (uV cO 1 ok l w):=by
 by_cases h0:0<l.length
 ·obtain⟨i0,hi,hz0,hz1,hz2⟩:=gg tZ;exact mH cO.moves Tryz.cloneI hi hz0 hz1 hz2 rfl TcQ Tryz.sizeOf3 l v w hr (fun u x h y hy=>by obtain rfl:u=_:=h;obtain rfl:=List.mem_singleton.1 hy;rfl) hlen TcQ h0
 obtain⟨p,c,rfl,hr'⟩:=vB hr h0 (fun b=>ok b\/w.heap.size<=b) w;clear hr;have HR:=aa hr';clear hr';have HN:Hid (l=[]):=aa (fX TcN);clear h0 hlen;cases p with
 |none =>
  refine(AnyE.slices_Clone_nil Tryz.cloneI _ _ w).mono ?_;rintro e w' ⟨rfl,rfl⟩;exact⟨_,rfl,Tew,bj _ _⟩
 |some a =>
  have q22:∀(w:World) (a:Option Addr) (n c n' c':Nat),(binOp .eql 22 (.slice a n c) (.slice none n' c')).run prog w=.ok (.bool a.isNone) w:=fun w a n c n' c'=>Cl w _ _ a n c n' c' underlying22;go_enter func132,ntmps132;go_wp2;go_ret;exact⟨.slice (some ⟨w.heap.size,0,none⟩) 0 0,rfl,Teg,(RowKit.Below.refl _ _).alloc (bk _) _⟩
theorem yS{ok:Nat->Prop}(l:List aR)(v:Value)(w:World)(hr:b6 aQ 3 ok w [v] l)(hlen:l.length<=1000000) :
  Calls prog 131 #[v] w (uV aQ 3 ok l w):=by
 by_cases h0:0<l.length
 ·obtain⟨i0,hi,hz0,hz1,hz2⟩:=gg kL;exact mH aQ.moves Tryz.cloneA hi hz0 hz1 hz2 rfl TcQ Tryz.sizeOf83 l v w hr (fun u x h y hy=>by obtain rfl:u=_:=h;simp only[dr,cY,dg]at hy;rcases hy with rfl|rfl|rfl<;>rfl) hlen TcQ h0
 obtain⟨p,c,rfl,hr'⟩:=vB hr h0 (fun b=>ok b\/w.heap.size<=b) w;clear hr;have HR:=aa hr';clear hr';have HN:Hid (l=[]):=aa (fX TcN);clear h0 hlen;cases p with
 |none =>
  refine(AnyE.slices_Clone_nil Tryz.cloneA _ _ w).mono ?_;rintro e w' ⟨rfl,rfl⟩;exact⟨_,rfl,Tew,bj _ _⟩
 |some a =>
  have q22:∀(w:World) (a:Option Addr) (n c n' c':Nat),(binOp .eql 86 (.slice a n c) (.slice none n' c')).run prog w=.ok (.bool a.isNone) w:=fun w a n c n' c'=>Cl w _ _ a n c n' c' underlying86;go_enter func131,ntmps131;go_wp2;go_ret;exact⟨.slice (some ⟨w.heap.size,0,none⟩) 0 0,rfl,Teg,(RowKit.Below.refl _ _).alloc (bk _) _⟩
theorem CO{P:Program}{ops:Array Oper}{Q:Exit->Act->World->Prop}{l:List Oper}{a:Act}(h:Hid (wpList P ops Q l a w)):wpList P ops Q l a w:=h.o
structure qD(v:ay):Prop where
 tags:v.tags.length<=1000000
 Gf:v.Gf.length<=1000000
 seg:∀s∈v.Gf,s.Ga.length<=1000000/\s.stale.length<=1000000
def D8(ok:Nat->Prop)(v:ay)(w:World)(u:List Value)(w':World):Prop:=aN (fun b=>ok b\/w.heap.size<=b) w' u v/\Below w.heap.size w w'
def Eu(ok:Nat->Prop)(v:ay)(w:World)(e:Ending)(w':World):Prop:=∃u,e=.returned (.agg u.toArray)/\D8 ok v w u w'
def QB(ok:Nat->Prop)(L Z:Nat)(sv:Value):Nat->Prop:=fun b=>(ok b/\b<L)\/(Z<=b/\sv.ownBlock≠some b)
theorem Tce{p:Prop}(h:p:=by
 rw[bw _ _ _ _ hb,bw _ _ _ _ hb,bw _ _ _ _ hb,bw _ _ _ _ hb,bw _ _ _ _ hb,bw _ _ _ _ hb]):p:=h
theorem Teo{p:Prop}(h:p:=by rcases ho with q|q<;>omega):p:=h
theorem pO{ok:Nat->Prop}(v:ay)(u:List Value)(w:World)(hv:aN ok w u v)(hz:qD v) :
  Calls prog 79 #[.agg u.toArray] w (Eu ok v w):=by
 obtain⟨tv,sv,rfl,ew,fL⟩:=hv;obtain⟨tp,tc,rfl,_,_⟩:=ew.cap;obtain⟨sp,sc,rfl,hsc1,hsc2⟩:=fL.cap;have hz1:=hz.tags;have hz2:=hz.Gf;have HZ:=aa hz.seg;clear hz;have HT:=aa ew;clear ew;have HS:=aa fL;clear fL;have hb2:=(ae w (.cells (Taf v tp tc sp sc) 57)).trans ((ae (w.alloc (.cells (Taf v tp tc sp sc) 57)) (.cells Tai 57)).mono (ae w _).size);have h0:((w.alloc (.cells (Taf v tp tc sp sc) 57)).alloc (.cells Tai 57)).heap[w.heap.size]?=some (.cells (Taf v tp tc sp sc) 57 (0,0)):=(cj _ _ _ TcO).trans (b9 w _);have h1:((w.alloc (.cells (Taf v tp tc sp sc) 57)).alloc (.cells Tai 57)).heap[w.heap.size+1]?=some (.cells Tai 57 (0,0)):=by
  have:=b9 (w.alloc (.cells (Taf v tp tc sp sc) 57)) (.cells Tai 57);rw[cW]at this;exact this
 have NV:Hid (((w.alloc (.cells (Taf v tp tc sp sc) 57)).alloc (.cells Tai 57)).heap.size=w.heap.size+2):=aa TcO;have cm:=aa hb2;clear hb2;have H0:=aa h0;clear h0;have H1:=aa h1;clear h1;go_enter func79,ntmps79
 go_wp2_with fail;generalize hW2:World.alloc (World.alloc w _) _=W2 at *;clear hW2;have hz22:W2.heap.size=w.heap.size+2:=NV.o;refine(rD (ok:=fun b=>ok b/\b<w.heap.size) v.tags _ _ ((b6.moves aF.moves).mv ⟨cm.o.size,fun b hb ho=>⟨⟨ho,hb⟩,cm.o.block b hb⟩⟩ HT.o) hz1).mono ?_;rintro e w3 ⟨tv',rfl,Fk,hb3⟩;obtain⟨tp',tc',rfl,_,_⟩:=Fk.cap;have hl2:w.heap.size+1<W2.heap.size:=aq H1.o;have cJ:=Zbl cm hb3;have hz3:w.heap.size+2<=w3.heap.size:=by have:=hb3.size;omega
 have MX:Hid (b6 aF 1 (fun b=>(ok b/\b<w.heap.size)\/(w.heap.size+2<=b/\b<w3.heap.size)) w3 [.slice tp' v.tags.length tc'] v.tags):=aa ((b6.moves aF.moves).mv ⟨bk _,fun b hb ho=>⟨ho.imp id (fun q=>⟨TcN,hb⟩),rfl⟩⟩ Fk);have h03:=(hb3.block _ TcN).trans H0.o;have H13:=aa ((hb3.block _ hl2).trans H1.o);clear hb3 Fk H0 H1 cm HT;have f4:=sr h03;have y4:=cr h03 4 _ rfl;have y5:=cr h03 5 _ rfl;have H03:=aa h03;clear h03;go_upto_region 4 with(fail);clear y4 y5 f4;have F2:=aa (block_setCell (i:=5) (.slice none 0 0) (block_setCell (w:=w3) (i:=4) (.slice tp' v.tags.length tc') H03.o));generalize hW4:World.setCell (World.setCell w3 _ _) _ _=W4 at *;have hk4:∀k,k≠w.heap.size->W4.heap[k]?=w3.heap[k]?:=fun k hk=>by rw[<- hW4,bw _ _ _ _ hk,bw _ _ _ _ hk]
 have hs4:W4.heap.size=w3.heap.size:=by rw[<- hW4];simp[World.setCell]
 have eI:Hid (Below w.heap.size w W4):=aa (by rw[<- hW4];exact(cJ.o.setCell (p:=⟨w.heap.size,4,none⟩) (bk _) _).setCell (p:=⟨w.heap.size,5,none⟩) (bk _) _);have H14:Hid (W4.heap[w.heap.size+1]?=_):=aa ((hk4 _ TcN).trans H13.o);have Q9:Hid (b6 aF 1 (fun b=>(ok b/\b<w.heap.size)\/(w.heap.size+2<=b/\b<w3.heap.size)) W4 [.slice tp' v.tags.length tc'] v.tags):=aa ((b6.moves aF.moves).mv ⟨TcN,fun b hb ho=>⟨ho,hk4 b Teo⟩⟩ MX.o);clear hW4 hk4 MX H13 H03 cJ;generalize hZ:w3.heap.size=Z at *;clear hZ;have Ra:Hid (W4.heap[w.heap.size]?=some (.cells #[.string v.name,.int .u64 v.id,.bool v.hidden,.bool v.ro,.slice tp' v.tags.length tc',.slice none 0 0] 57 (0,0))):=F2;clear F2;go_wp2;go_loopw[15] (fun i wr=>∃(k:Nat) (sv:Value),k<=v.Gf.length/\i=.int .i64 k/\wr.heap[w.heap.size]?=some (.cells #[.string v.name,.int .u64 v.id,.bool v.hidden,.bool v.ro,.slice tp' v.tags.length tc',sv] 57 (0,0)) /\
   wr.heap[w.heap.size+1]?=some (.cells Tai 57 (0,0))/\bF bC 11 88 Z (QB ok w.heap.size Z sv) wr sv (v.Gf.take k) /\
   b6 aF 1 (fun b=>(ok b/\b<w.heap.size)\/(w.heap.size+2<=b/\b<Z)) wr [.slice tp' v.tags.length tc'] v.tags/\Below w.heap.size w wr/\Z<=wr.heap.size) (fun i _=>v.Gf.length-(intOf i).toNat)
 case atStart=>exact⟨0,_,cg _,rfl,Ra.o,H14.o,⟨[],gS _ _ _ _,rfl⟩,Q9.o,eI.o,TcN⟩
 clear Ra H14 Q9 eI;obtain⟨k,sv,hk,rfl,PX,Yj,hown,ew,hB,hZ⟩:=hrel;have Fc:=aa PX;clear PX;have Qg:=aa Yj;clear Yj;have HOW:=aa hown;clear hown;have Hx:=aa ew;clear ew;by_cases hlt:k<v.Gf.length
 ·obtain⟨s,hs⟩:=aj v.Gf k hlt;have hsz:=HZ.o s (ct hs);have hsz1:=hsz.1;have hsz2:=hsz.2;obtain⟨b,off,us,rfl,gR,cX,ez,eE,hcv⟩:=HS.o.elem hs;obtain⟨av,Oz,rfl,mC,hst⟩:=eE;obtain⟨ap,ac,rfl,_,_⟩:=mC.cap;obtain⟨eN,eR,rfl,_,_⟩:=hst.cap;have cT:wr.heap[b]?=w.heap[b]?:=hB.block b cX;obtain⟨q0,q1,q2,q3,q4,q5,q6,q7,q8,q9,q10⟩:=ak5 cT hcv;have HN:=aa (take_snoc' v.Gf k s hs);have ya:=aa mC;clear mC;have HST:=aa hst;clear hst;clear hcv ez hs cT hsz;go_upto_region 7 with(fail);clear q0 q1 q2 q3 q4 q5 q6 q7 q8 q9 q10;have Yk:=b9 wr (.cells (Tae s ap ac eN eR) 88);have hz5:(wr.alloc (.cells (Tae s ap ac eN eR) 88)).heap.size=wr.heap.size+1:=by simp
  have hk5:=ae wr (.cells (Tae s ap ac eN eR) 88);have ox:=aa Yk;clear Yk;have HK5:=aa hk5;clear hk5;generalize hW5:World.alloc wr _=W5 at *;generalize XL:wr.heap.size=Bs at *;clear hW5;have hS:∀w':World,Below W5.heap.size W5 w'->w'.cell? (Tac Bs 3)=some (.slice ap s.Ga.length ac)/\w'.cell? (Tac Bs 5)=some (.slice eN s.stale.length eR):=fun w' hb=>by
   have:=(hb.block _ (aq ox.o)).trans ox.o;exact⟨cr this _ _ rfl,cr this _ _ rfl⟩
  have Mx:=aa hS;clear hS;refine aZ (fun w'=>w'.cell? (Tac Bs 3)=some (.slice ap s.Ga.length ac)/\w'.cell? (Tac Bs 5)=some (.slice eN s.stale.length eR)) 7 [] TcP (Mx.o _ (bj _ _).drew) (fun hHeld=>?_);refine fS 0 hHeld ?_;refine fS 1 hHeld ?_;refine fS 3 hHeld ?_;refine fS 4 hHeld ?_;refine lR 2 fun K hK=>?_;go_simp;have eK:Hid (Below w.heap.size w W5.drew):=aa ((hB.trans (HK5.o.mono (by have:=hB.size;omega))).drew);refine(yS (ok:=fun b=>ok b/\b<w.heap.size) s.Ga _ _ ((b6.moves aQ.moves).mv ⟨eK.o.size,fun b hb ho=>⟨⟨ho,hb⟩,eK.o.block b hb⟩⟩ ya.o) hsz1).mono ?_;rintro e w6 ⟨av',rfl,aw2,hb6⟩;obtain⟨Rb,Rc,rfl,_,_⟩:=aw2.cap;have aE0:Hid (Below W5.heap.size W5 w6):=aa ⟨hb6.os,hb6.tape,hb6.output,hb6.size,hb6.block⟩;refine hK.o _ _ (Mx.o _ aE0.o) ?_;clear hK K hHeld;have hHeld:=Mx.o _ aE0.o;refine fS 6 hHeld ?_;refine lR 5 fun K hK=>?_;go_simp;have Tq:Hid (Below w.heap.size w w6):=Zbl eK hb6;refine(zk (ok:=fun b=>ok b/\b<w.heap.size) s.stale _ _ ((b6.moves cO.moves).mv ⟨Tq.o.size,fun b hb ho=>⟨⟨ho,hb⟩,Tq.o.block b hb⟩⟩ HST.o) hsz2).mono ?_;rintro e w7 ⟨aa1,rfl,hst7,hb7⟩;obtain⟨aE1,aE2,rfl,_,_⟩:=hst7.cap;have MZ:Hid (Below W5.heap.size W5 w7):=Zbl aE0 hb7;refine hK.o _ _ (Mx.o _ MZ.o) ?_;clear hK K hHeld;refine aP TcP rfl ?_;simp only[cQ,cL];have OY:=(MZ.o.block _ (aq ox.o)).trans ox.o;have g3:=cr OY 3 _ rfl;have g5:=cr OY 5 _ rfl
  have gf:=sr OY;go_upto_region 8 with(fail);have aa2:Z<=Bs:=by omega
  have hz7:Bs+1<=w7.heap.size:=by have:=MZ.o.size;omega
  have Re:=aa (block_setCell (i:=5) (.slice aE1 s.stale.length aE2) (block_setCell (w:=w7) (i:=3) (.slice Rb s.Ga.length Rc) OY));clear g3 g5 gf OY;generalize hW8:World.setCell (World.setCell w7 _ _) _ _=W8 at *;have hk8:∀k,k≠Bs->W8.heap[k]?=w7.heap[k]?:=fun k hk=>by rw[<- hW8,bw _ _ _ _ hk,bw _ _ _ _ hk]
  have hs8:W8.heap.size=w7.heap.size:=by rw[<- hW8];simp[World.setCell]
  have hB8:Below Bs wr W8:=by
   rw[<- hW8];exact(((HK5.o.trans (MZ.o.mono TcN)).setCell (p:=⟨Bs,3,none⟩) (bk _) _).setCell (p:=⟨Bs,5,none⟩) (bk _) _)
  have HS8:=aa hs8;clear hW8;have Ix:=aa hB8;clear hB8;have mA:=hB.size;have Vt:Hid (Below w.heap.size w W8):=aa (hB.trans (Ix.o.mono TcN));have Rf:Hid (W8.heap[Bs]?=some (.cells (Tae s Rb Rc aE1 aE2) 88 (0,0))):=Re;clear Re;have gL:=cr Rf.o;obtain⟨g0,g1,g2,g3,g4,g5,g6,g7,g8,g9,g10⟩:=IC gL;clear gL;have OZ:=aa ((Ix.o.block _ TcN).trans Fc.o);have Vu:=aa ((Ix.o.block _ TcN).trans Qg.o);have b5:=cr OZ.o 5 _ rfl;have b5f:W8.frozen? (Tac w.heap.size 5)=false:=by simp[World.frozen?,OZ.o]
  have aq9:Hid (∀g,sv.ownBlock=some g->Z<=g/\g<Bs):=aa fun g e=>by
   obtain⟨cs,ho,_⟩:=HOW.o;have:=fh ho g e;omega
  -- the new element,and the slice so far,in whatever world comes of new blocks
  have Yl:Hid (∀W:World,Below W8.heap.size W8 W->bC (fun b=>QB ok w.heap.size Z sv b/\b<W8.heap.size) W [.int .i64 s.start,.int .i64 s.length,.int .i64 s.kind,.slice Rb s.Ga.length Rc,.int .i64 s.chunk,.slice aE1 s.stale.length aE2,.string s.log,.string s.pool,.int .i64 s.device,.int .i64 s.mode,.int .i64 s.done] s /\
    bF bC 11 88 Z (fun b=>QB ok w.heap.size Z sv b/\b<W8.heap.size) W sv (v.Gf.take k)):=aa fun W hW=>by
   have k8:∀b,b<W8.heap.size->W.heap[b]?=W8.heap[b]?:=fun b hb=>hW.block b hb
   have far:∀b,((ok b/\b<w.heap.size)\/Bs+1<=b)->b<W8.heap.size->(QB ok w.heap.size Z sv b/\b<W8.heap.size)/\b≠Bs:=fun b hb hl=>by
    rcases hb with hb|hb
    ·exact⟨⟨.inl hb,hl⟩,TcN⟩
    exact⟨⟨.inr ⟨TcN,fun e=>by have:=aq9.o b e;omega⟩,hl⟩,TcN⟩
   refine⟨⟨_,_,rfl,(b6.moves aQ.moves).mv ⟨?_,fun b hb ho=>?_⟩ aw2,(b6.moves cO.moves).mv ⟨?_,fun b hb ho=>?_⟩ hst7⟩,?_⟩
   ·have:=hb7.size;have:=hW.size;omega
   ·have hl:b<W8.heap.size:=by have:=hb7.size;omega
    obtain⟨f1,f2⟩:=far b (ho.imp id (fun q=>by have:W5.heap.size<=b:=q;omega)) hl;exact⟨f1,(k8 b hl).trans ((hk8 b f2).trans (hb7.block b hb))⟩
   ·have:=hW.size;omega
   ·have hl:b<W8.heap.size:=by omega
    obtain⟨f1,f2⟩:=far b (ho.imp id (fun q=>by have:=hb6.size;have:W5.heap.size<=w6.heap.size:=aE0.o.size;omega)) hl;exact⟨f1,(k8 b hl).trans (hk8 b f2)⟩
   obtain⟨cs,ho,hf⟩:=HOW.o;have hm:∀b,b<wr.heap.size->W.heap[b]?=wr.heap[b]?:=fun b hb=>(k8 b TcN).trans (Ix.o.block b TcN);exact⟨cs,aC ho (fun g e=>hm g (fh ho g e).2),Flat.moves bC.moves ⟨by have:=hW.size;omega,fun b hb h=>⟨⟨h,TcN⟩,hm b hb⟩⟩ _ _ hf⟩
  clear hb6 hb7 aw2 hst7 HOW;obtain⟨i0,hi,hz0,hz1',hz2'⟩:=gg Am;have Vv:=aa hi;clear hi;have Qh:=aa hz0;clear hz0;have Qi:=aa hz1';clear hz1';have N2:=aa hz2';clear hz2';have Tt:(v.Gf.take k).length<=1000000:=by rw[ey];omega
  clear hs8;go_wp2_with(at_builtin;refine CO ?_)
  refine aa ?_;refine dX bC.moves underlying55 Vv.o Qh.o Qi.o N2.o rfl TcQ TcQ rfl _ _ rfl Z (fun b=>QB ok w.heap.size Z sv b/\b<W8.heap.size) sv (v.Gf.take k) s rfl (Yl.o _ (ae _ _)).2 W8.heap.size 1 [.int .i64 s.start,.int .i64 s.length,.int .i64 s.kind,.slice Rb s.Ga.length Rc,.int .i64 s.chunk,.slice aE1 s.stale.length aE2,.string s.log,.string s.pool,.int .i64 s.device,.int .i64 s.mode,.int .i64 s.done] rfl rfl (Yl.o _ (ae _ _)).1 Tc0 (fun j y hy=>aD rfl Tc6) Tt ?c1 ?c2 ?_
  case c1=>have:=HS8.o;simp;omega
  case c2=>exact fun b e h=>(h.1.elim (fun q=>by have:=aq9.o b e;omega) (fun q=>q.2 e))
  intro gb cap w9 hp;have hg9:=hp.grown;have hz8:=HS8.o;have hz9:W8.heap.size+1<=w9.heap.size:=by have:=hg9.size;simpa using this
  have k9:∀b,b<W8.heap.size->sv.ownBlock≠some b->w9.heap[b]?=W8.heap[b]?:=fun b hb hn=>(hg9.block b TcS (fun e=>hn e.symm)).trans (cj _ _ _ hb)
  have hgb:Z<=gb/\(sv.ownBlock=some gb\/W8.heap.size<gb):=by
   rcases hp.at' with q|q
   ·exact⟨(aq9.o gb q).1,.inl q⟩
   exact⟨by rw[q];simp;omega,.inr (by rw[q];simp)⟩
  have nL:sv.ownBlock≠some w.heap.size:=fun e=>by have:=aq9.o _ e;omega
  have hx9:=(k9 w.heap.size TcN nL).trans OZ.o;have HX9:=aa hx9;have b5:=cr hx9 5 _ rfl;have b5f:w9.frozen? (Tac w.heap.size 5)=false:=by simp[World.frozen?,hx9]
  have hB9:Below w.heap.size w w9:=by
   have:=(Vt.o.alloc TcN (.cells (Tae s Rb Rc aE1 aE2) 88));exact this.grown hg9 TcS (fun g e=>by have:=aq9.o g e;omega)
  have ks:∀(z:Value) (b:Nat),b≠w.heap.size->(w9.setCell (Tac w.heap.size 5) z).heap[b]?=w9.heap[b]?:=fun z b hb=>bw _ _ _ _ hb;have Vw:(Value.slice (some gb) ((v.Gf.take k).length+1) cap).ownBlock=some gb:=rfl
  have Rg:Hid (∃(k':Nat) (sv':Value),k'<=v.Gf.length/\Value.int .i64 ((k:Int)+1)=.int .i64 k'/\(w9.setCell (Tac w.heap.size 5) (.slice (some gb) ((v.Gf.take k).length+1) cap)).heap[w.heap.size]?=some (.cells #[.string v.name,.int .u64 v.id,.bool v.hidden,.bool v.ro,.slice tp' v.tags.length tc',sv'] 57 (0,0)) /\
    (w9.setCell (Tac w.heap.size 5) (.slice (some gb) ((v.Gf.take k).length+1) cap)).heap[w.heap.size+1]?=some (.cells Tai 57 (0,0))/\bF bC 11 88 Z (QB ok w.heap.size Z sv') (w9.setCell (Tac w.heap.size 5) (.slice (some gb) ((v.Gf.take k).length+1) cap)) sv' (v.Gf.take k') /\
    b6 aF 1 (fun b=>(ok b/\b<w.heap.size)\/(w.heap.size+2<=b/\b<Z)) (w9.setCell (Tac w.heap.size 5) (.slice (some gb) ((v.Gf.take k).length+1) cap)) [.slice tp' v.tags.length tc'] v.tags/\Below w.heap.size w (w9.setCell (Tac w.heap.size 5) (.slice (some gb) ((v.Gf.take k).length+1) cap))/\Z<=(w9.setCell (Tac w.heap.size 5) (.slice (some gb) ((v.Gf.take k).length+1) cap)).heap.size):=aa (by
   have hsz:(w9.setCell (Tac w.heap.size 5) (.slice (some gb) ((v.Gf.take k).length+1) cap)).heap.size=w9.heap.size:=by simp[World.setCell]
   refine⟨k+1,_,TcN,TcR,block_setCell (i:=5) _ HX9.o,(ks _ _ TcN).trans ((k9 _ TcN (fun e=>by have:=aq9.o _ e;omega)).trans Vu.o),?_,(b6.moves aF.moves).mv ⟨TcN,fun b hb ho=>⟨ho,?_⟩⟩ Hx.o,hB9.setCell (p:=⟨w.heap.size,5,none⟩) (bk _) _,TcN⟩
   ·rw[HN.o];obtain⟨cs,ho,hf⟩:=hp.own;refine⟨cs,?_,Flat.moves bC.moves ⟨TcN,fun b hb h=>⟨?_,ks _ b ?_⟩⟩ _ _ hf⟩
    ·exact aC ho (fun g e=>by
      obtain rfl:gb=g:=by injection e
      exact ks _ gb TcN)
    ·rcases h.1 with q|q
     ·exact .inl q
     refine .inr ⟨q.1,fun e=>?_⟩;obtain rfl:gb=b:=by injection e
     rcases hgb.2 with r|r
     ·exact q.2 r
     omega
    rcases h.1 with q|q
    ·omega
    omega
   have hbn:b≠w.heap.size:=by rcases ho with q|q<;>omega
   exact(ks _ b hbn).trans ((k9 b TcN (fun e=>by have:=aq9.o _ e;rcases ho with q|q<;>omega)).trans (Ix.o.block b TcN)))
  rw[show(v.Gf.take k).length=k from by rw[ey];omega]at Rg;clear hp hg9 hx9 k9 ks hgb nL Vw hz8 hz9 hB9;go_wp2;go_roundw;exact Rg.o;simp[intOf];omega
 obtain rfl:k=v.Gf.length:=by omega
 rw[jz (bk _)]at HOW;obtain⟨Rh,Ri,hsv⟩:∃p c,sv=.slice p v.Gf.length c:=by
  have:=HOW.o.rd (ok':=fun _=>True) bC.moves TcQ (fun _ _ _=>trivial) (fun _ _=>trivial);obtain⟨p,c,e,_,_⟩:=this.cap;exact⟨p,c,e⟩
 subst hsv;have yL:=cr Fc.o;have rL:=cr Qg.o;have rf:=sr Qg.o;obtain⟨y0,y1,y2,y3,y4,y5⟩:=sv6 yL;obtain⟨r0,r1,r2,r3,r4,r5⟩:=sv6 rL;clear yL rL;have Zw:Hid (∀wf:World,(∀b,b≠w.heap.size+1->wf.heap[b]?=wr.heap[b]?)->wf.heap.size=wr.heap.size->Below w.heap.size w wf->D8 ok v w [.string v.name,.int .u64 v.id,.bool v.hidden,.bool v.ro,.slice tp' v.tags.length tc',.slice Rh v.Gf.length Ri] wf):=aa fun wf hk hz hb=>by
  refine⟨⟨_,_,rfl,(b6.moves aF.moves).mv ⟨TcN,fun b _ ho=>⟨ho.imp (fun q=>q.1) (fun q=>by omega),hk b Teo⟩⟩ Hx.o,?_⟩,hb⟩;obtain⟨cs,ho,hf⟩:=HOW.o;have hg:∀g,(Value.slice Rh v.Gf.length Ri).ownBlock=some g->Z<=g:=fun g e=>(fh ho g e).1
  have:bF bC 11 88 Z (fun b=>ok b\/w.heap.size<=b) wf (.slice Rh v.Gf.length Ri) v.Gf :=
   ⟨cs,aC ho (fun g e=>hk g (by have:=hg g e;omega)),Flat.moves bC.moves ⟨TcN,fun b _ h=>⟨h.imp (fun q=>q.1) (fun q=>by omega),hk b (by rcases h with q|q<;>omega)⟩⟩ _ _ hf⟩
  exact this.rd bC.moves TcQ (fun _ _ h=>h) (fun g e=>.inr (by have:=hg g e;omega))
 clear HOW Hx Fc Qg;go_wp2;refine eC (v:=.agg (Taf v tp' tc' Rh Ri)) (by simp[results,Tryz.results79,go_sem,r0,r1,r2,r3,r4,r5]) rfl ⟨[.string v.name,.int .u64 v.id,.bool v.hidden,.bool v.ro,.slice tp' v.tags.length tc',.slice Rh v.Gf.length Ri],rfl,Zw.o _ (fun b hb=>?_) ?_ ?_⟩
 ·exact Tce
 ·simp[World.setCell]
 have hL:∀(V:World) (o:Nat) (z:Value),Below w.heap.size w V->Below w.heap.size w (V.setCell ⟨w.heap.size+1,o,none⟩ z):=fun V o z q=>q.setCell (p:=⟨w.heap.size+1,o,none⟩) Tdu z
 exact hL _ _ _ (hL _ _ _ (hL _ _ _ (hL _ _ _ (hL _ _ _ (hL _ _ _ hB)))))
def aM(F9:List ay)(nm:ByteArray):Option ay:=F9.find? fun v=>decide (v.name=nm)
def eY:ay:=⟨⟨#[]⟩,0,false,false,[],[]⟩
def F8(ok:Nat->Prop)(F9:List ay)(nm:ByteArray)(w:World)(e:Ending)(w':World):Prop :=
 ∃u,e=.returned (.tuple #[.agg u.toArray,.bool (aM F9 nm).isSome])/\D8 ok ((aM F9 nm).getD eY) w u w'
theorem yV(h:∀(j:Nat) (v:ay),j<F9.length->F9[j]?=some v->¬v.name=nm):aM F9 nm=none:=by
 unfold aM;rw[List.find?_eq_none];intro v hv;obtain⟨j,hj⟩:=fc hv;simpa using h j v (List.getElem?_eq_some_iff.1 hj).1 hj
theorem CW(hno:∀(j:Nat) (u:ay),j<k->F9[j]?=some u->¬u.name=nm)(h:F9[k]?=some v)(e:v.name=nm):aM F9 nm=some v:=by
 unfold aM;rw[List.find?_eq_some_iff_getElem];obtain⟨hk,hv⟩:=List.getElem?_eq_some_iff.1 h;exact⟨by simpa using e,k,hk,hv,fun j hj=>by simpa using hno j _ hj (lO TcN)⟩
def Tan(x0:af)(x1:Option Addr)(x2:Nat)(x3:Option Addr)(x4:Nat)(x5:Option Addr)(x6:Nat)(x7:Option Addr)(x8:Nat):Tab #[.string x0.name,.int .u64 x0.id,.int .i64 x0.seq,.int .i64 x0.Gd,.int .i64 x0.next,.slice x1 x0.tags.length x2,.slice x3 x0.Gb.length x4,.slice x5 x0.F9.length x6,.slice x7 x0.history.length x8]:=⟨⟩
theorem TeQ{p:Prop}(h:p:=by rw[CM.o];exact⟨_,_,rfl,b6.nil,b6.nil⟩):p:=h
theorem TdD{p:Prop}(h:p:=by rw[CM.o];rfl):p:=h
theorem TeJ{p:Prop}(h:p:=by simp[results,Tryz.results43,go_sem,r0,r1,r2,r3,r4,r5]):p:=h
theorem Tem{p:Prop}(h:p:=by rcases hbz with q|q<;>omega):p:=h
theorem fA{ok:Nat->Prop}(g:af)(a:bN)(nm:ByteArray)(w:World)(hr:b6 aN 6 ok w [.slice a.vp g.F9.length a.vc] g.F9)(hd:g.F9.length<=1000000)(hz:∀v∈g.F9,qD v) :
  Calls prog 43 #[.agg (uY g a).toArray,.string nm] w (F8 ok g.F9 nm w):=by
 obtain⟨ID,TJ,TK,G3,G4,Ge,Hb,Hc⟩:=a;dsimp only[uY]at hr ⊢;have HR:=aa hr;clear hr;have HT:=aa hz;clear hz;go_enter func43,ntmps43;go_wp2
 go_loopw[11] (fun i wr=>∃k:Nat,k<=g.F9.length/\i=.int .i64 k/\(∀j D,j<k->g.F9[j]?=some D->¬D.name=nm)/\Below w.heap.size w wr/\w.heap.size+1<wr.heap.size/\wr.heap[w.heap.size+1]?=some (.cells Tai 57 (0,0))) (fun i _=>g.F9.length-(intOf i).toNat)
 case atStart =>
  refine⟨0,cg _,rfl,(fun j D hj=>by omega),((bj _ _).alloc (bk _) _).alloc TcO _,TcO,?_⟩;have:=b9 (w.alloc (.cells (Tan g ID TJ TK G3 G4 Ge Hb Hc) 32)) (.cells Tai 57);rw[cW]at this;exact this
 obtain⟨k,hk,rfl,hno,hB,hz,hR⟩:=hrel;have Ty:=aa hno;clear hno;by_cases hlt:k<g.F9.length
 ·obtain⟨v,hv⟩:=aj g.F9 k hlt;have hsz:=HT.o v (ct hv);have Zu:=aa hsz;clear hsz;obtain⟨b,off,u,rfl,gR,cX,ez,sA,hcv⟩:=HR.o.elem hv;have My:=aa sA;obtain⟨tv,sv,rfl,ew,fL⟩:=sA;obtain⟨tp,tc,rfl,_,_⟩:=ew.cap;obtain⟨sp,sc,rfl,_,_⟩:=fL.cap;have cT:wr.heap[b]?=w.heap[b]?:=hB.block b cX;obtain⟨q0,q1,q2,q3,q4,q5⟩:=NG cT hcv;have HD:=aa hv;clear hv;have yi:=aa hR;clear hR;clear hcv ez cT ew fL;by_cases pD:v.name=nm
  ·have G2:=ae wr (.cells #[.string nm,.int .u64 v.id,.bool v.hidden,.bool v.ro,.slice tp v.tags.length tc,.slice sp v.Gf.length sc] 57);have MW:=aa ((G2.block _ hz).trans yi.o);have pL:=aa (hB.trans (G2.mono TcN));clear G2;have HDN:=aa pD;go_wp2_with fail;generalize DA:wr.alloc _=WA at *;clear DA;have sA:aN (fun b=>ok b/\b<w.heap.size) WA [.string nm,.int .u64 v.id,.bool v.hidden,.bool v.ro,.slice tp v.tags.length tc,.slice sp v.Gf.length sc] v:=by
    have:=aN.moves.mv (ok':=fun b=>ok b/\b<w.heap.size) ⟨pL.o.size,fun b hb ho=>⟨⟨ho,hb⟩,pL.o.block b hb⟩⟩ My.o;rwa[HDN.o]at this
   have HWZ:=aa pL.o.size;refine(pO (ok:=fun b=>ok b/\b<w.heap.size) v _ _ sA Zu.o).mono ?_;rintro e w3 ⟨u3,rfl,hn3,hb3⟩;obtain⟨Ym,sv3,rfl,Fk,O0⟩:=hn3;have Yn:=aa (show aN _ w3 _ v from⟨Ym,sv3,rfl,Fk,O0⟩);obtain⟨tp3,tc3,rfl,_,_⟩:=Fk.cap;obtain⟨sp3,sc3,rfl,_,_⟩:=O0.cap;clear Fk O0;have hr3:=(hb3.block _ (aq MW.o)).trans MW.o;have rL:=cr hr3;obtain⟨r0,r1,r2,r3,r4,r5⟩:=sv6 rL;have rf:=sr hr3;have cJ:=Zbl pL hb3;have Qf:=aa (aq MW.o);have aa3:=aa hb3;clear rL hr3 hb3;have CM:Hid (aM g.F9 nm=some v):=aa (CW Ty.o HD.o HDN.o);have O1:=Yn;rw[HDN.o]at O1;have Zw:Hid (∀wf:World,(∀b,b≠w.heap.size+1->wf.heap[b]?=w3.heap[b]?)->wf.heap.size=w3.heap.size->Below w.heap.size w wf->D8 ok ((aM g.F9 nm).getD eY) w [.string nm,.int .u64 v.id,.bool v.hidden,.bool v.ro,.slice tp3 v.tags.length tc3,.slice sp3 v.Gf.length sc3] wf):=aa fun wf hk hz hb=>by
    rw[CM.o];refine⟨aN.moves.mv ⟨TcN,fun b hb' ho=>?_⟩ O1.o,hb⟩;have hbz:(ok b/\b<w.heap.size)\/WA.heap.size<=b:=ho;have:=HWZ.o;have:=Qf.o;exact⟨hbz.imp (fun q=>q.1) (fun q=>by omega),hk b Tem⟩
   clear Yn O1 My HD;go_wp2;refine eC (v:=.tuple #[.agg #[.string nm,.int .u64 v.id,.bool v.hidden,.bool v.ro,.slice tp3 v.tags.length tc3,.slice sp3 v.Gf.length sc3],.bool true]) TeJ rfl ⟨[.string nm,.int .u64 v.id,.bool v.hidden,.bool v.ro,.slice tp3 v.tags.length tc3,.slice sp3 v.Gf.length sc3],TdD,Zw.o _ (fun b hb=>?_) ?_ ?_⟩
   ·exact Tce
   ·simp[World.setCell]
   have hL:∀(V:World) (o:Nat) (z:Value),Below w.heap.size w V->Below w.heap.size w (V.setCell ⟨w.heap.size+1,o,none⟩ z):=fun V o z q=>q.setCell (p:=⟨w.heap.size+1,o,none⟩) Tdu z
   exact hL _ _ _ (hL _ _ _ (hL _ _ _ (hL _ _ _ (hL _ _ _ (hL _ _ _ cJ.o)))))
  exact Ta5
 obtain rfl:k=g.F9.length:=by omega
 have rL:=cr hR;obtain⟨r0,r1,r2,r3,r4,r5⟩:=sv6 rL;have rf:=sr hR;clear rL hR;have CM:Hid (aM g.F9 nm=none):=aa (yV Ty.o);go_wp2;refine eC (v:=.tuple #[.agg Tai,.bool false]) TeJ rfl ⟨[.string ⟨#[]⟩,.int .u64 0,.bool false,.bool false,.slice none 0 0,.slice none 0 0],TdD,TeQ,?_⟩;have hL:∀(V:World) (o:Nat) (z:Value),Below w.heap.size w V->Below w.heap.size w (V.setCell ⟨w.heap.size+1,o,none⟩ z):=fun V o z q=>q.setCell (p:=⟨w.heap.size+1,o,none⟩) Tdu z;exact hL _ _ _ (hL _ _ _ (hL _ _ _ (hL _ _ _ (hL _ _ _ (hL _ _ _ hB)))))
def gT:az:=⟨⟨#[]⟩,0,0,0,false,false,[]⟩
def Fu(ok:Nat->Prop)(d:az)(w:World)(u:List Value)(w':World):Prop:=aO (fun b=>ok b\/w.heap.size<=b) w' u d/\Below w.heap.size w w'
def FQ(ok:Nat->Prop)(Gb:List az)(nm:ByteArray)(w:World)(e:Ending)(w':World):Prop :=
 ∃u,e=.returned (.tuple #[.agg u.toArray,.bool (bH Gb nm).isSome])/\Fu ok ((bH Gb nm).getD gT) w u w'
theorem nZ{ok:Nat->Prop}(g:af)(a:bN)(nm:ByteArray)(w:World)(hr:b6 aO 7 ok w [.slice a.dp g.Gb.length a.dc] g.Gb)(hd:g.Gb.length<=1000000)(hz:∀d∈g.Gb,d.tags.length<=1000000) :
  Calls prog 24 #[.agg (uY g a).toArray,.string nm] w (FQ ok g.Gb nm w):=by
 obtain⟨ID,TJ,TK,G3,G4,Ge,Hb,Hc⟩:=a;dsimp only[uY]at hr ⊢;have HR:=aa hr;clear hr;have HT:=aa hz;clear hz;go_enter func24,ntmps24;go_wp2
 go_loopw[11] (fun i wr=>∃k:Nat,k<=g.Gb.length/\i=.int .i64 k/\(∀j D,j<k->g.Gb[j]?=some D->¬D.name=nm)/\Below w.heap.size w wr/\w.heap.size+1<wr.heap.size/\wr.heap[w.heap.size+1]?=some (.cells Tak 39 (0,0))) (fun i _=>g.Gb.length-(intOf i).toNat)
 case atStart =>
  refine⟨0,cg _,rfl,(fun j D hj=>by omega),((bj _ _).alloc (bk _) _).alloc TcO _,TcO,?_⟩;have:=b9 (w.alloc (.cells (Tan g ID TJ TK G3 G4 Ge Hb Hc) 32)) (.cells Tak 39);rw[cW]at this;exact this
 obtain⟨k,hk,rfl,hno,hB,hz,hR⟩:=hrel;have Ty:=aa hno;clear hno;by_cases hlt:k<g.Gb.length
 ·obtain⟨d,hv⟩:=aj g.Gb k hlt;have hsz:=HT.o d (ct hv);obtain⟨b,off,u,rfl,gR,cX,ez,sA,hcv⟩:=HR.o.elem hv;obtain⟨tv,rfl,ew⟩:=sA;have Hx:=aa ew;obtain⟨tp,tc,rfl,_,_⟩:=ew.cap;have cT:wr.heap[b]?=w.heap[b]?:=hB.block b cX;obtain⟨q0,q1,q2,q3,q4,q5,q6⟩:=OD cT hcv;have HD:=aa hv;clear hv;have yi:=aa hR;clear hR;clear hcv ez cT ew;by_cases pD:d.name=nm
  ·have G2:=ae wr (.cells (Tav nm d tp tc) 39);have Vs:=aa (b9 wr (.cells (Tav nm d tp tc) 39));have MW:=aa ((G2.block _ hz).trans yi.o);have pL:=aa (hB.trans (G2.mono TcN));have Qf:Hid (wr.heap.size<(wr.alloc (.cells (Tav nm d tp tc) 39)).heap.size):=aa TcO;clear G2;have HDN:=aa pD;go_wp2_with fail;generalize DA:wr.alloc _=WA at *;clear DA;refine(rD (ok:=fun b=>ok b/\b<w.heap.size) d.tags _ _ ((b6.moves aF.moves).mv ⟨pL.o.size,fun b hb ho=>⟨⟨ho,hb⟩,pL.o.block b hb⟩⟩ Hx.o) hsz).mono ?_;rintro e w3 ⟨Ym,rfl,Fk,hb3⟩;obtain⟨tp3,tc3,rfl,_,_⟩:=Fk.cap;have MX:=aa Fk;clear Fk;have hx:=(hb3.block _ Qf.o).trans Vs.o;have hr3:=(hb3.block _ (by have:=aq MW.o;omega)).trans MW.o;have HS3:=aa hb3.size;have cJ:=Zbl pL hb3;have xL:=cr hx;have rL:=cr hr3;have x0:=xL 0 _ rfl;have r0:=rL 0 _ rfl;have x1:=xL 1 _ rfl;have r1:=rL 1 _ rfl;have x2:=xL 2 _ rfl;have r2:=rL 2 _ rfl;have x3:=xL 3 _ rfl;have r3:=rL 3 _ rfl;have x4:=xL 4 _ rfl;have r4:=rL 4 _ rfl;have x5:=xL 5 _ rfl;have r5:=rL 5 _ rfl;have x6:=xL 6 _ rfl;have r6:=rL 6 _ rfl;have xf:=sr hx;have rf:=sr hr3;clear xL rL hx hr3 hb3;have CM:Hid (bH g.Gb nm=some d):=aa (pR Ty.o HD.o HDN.o);have hne:¬wr.heap.size=w.heap.size+1:=by omega
   have hne2:¬w.heap.size+1=wr.heap.size:=by omega
   have Yg:=hB.size;have Zw:Hid (∀wf:World,(∀b,b≠w.heap.size+1->b≠wr.heap.size->wf.heap[b]?=w3.heap[b]?)->wf.heap.size=w3.heap.size->Below w.heap.size w wf->Fu ok ((bH g.Gb nm).getD gT) w [.string nm,.int .u64 d.id,.int .i64 d.first,.int .i64 d.Gc,.bool d.closed,.bool d.missing,.slice tp3 d.tags.length tc3] wf):=aa fun wf hk hz' hb=>by
    rw[CM.o];refine⟨⟨_,by rw[<- HDN.o];rfl,(b6.moves aF.moves).mv ⟨TcN,fun b hb' ho=>?_⟩ MX.o⟩,hb⟩;have hbz:(ok b/\b<w.heap.size)\/WA.heap.size<=b:=ho;have:=Qf.o;exact⟨hbz.imp (fun q=>q.1) (fun q=>by omega),hk b Tem Tem⟩
   generalize hBx:wr.heap.size=Bx at *;have aa4:=aa hBx;clear hBx;clear MX Hx HD;go_wp2;refine eC (v:=.tuple #[.agg (Tav nm d tp3 tc3),.bool true]) TdV rfl ⟨[.string nm,.int .u64 d.id,.int .i64 d.first,.int .i64 d.Gc,.bool d.closed,.bool d.missing,.slice tp3 d.tags.length tc3],TdD,Zw.o _ (fun b hb hb2=>?_) ?_ ?_⟩
   ·rw[bw _ _ _ _ hb,bw _ _ _ _ hb,bw _ _ _ _ hb,bw _ _ _ _ hb,bw _ _ _ _ hb,bw _ _ _ _ hb,bw _ _ _ _ hb,bw _ _ _ _ hb2]
   ·simp[World.setCell]
   exact Ta0
  exact Ta5
 obtain rfl:k=g.Gb.length:=by omega
 have rL:=cr hR;obtain⟨r0,r1,r2,r3,r4,r5,r6⟩:=se rL;have rf:=sr hR;clear rL hR;have CM:Hid (bH g.Gb nm=none):=aa (ui Ty.o);go_wp2;refine eC (v:=.tuple #[.agg Tak,.bool false]) TdV rfl ⟨[.string ⟨#[]⟩,.int .u64 0,.int .i64 0,.int .i64 0,.bool false,.bool false,.slice none 0 0],TdD,by rw[CM.o];exact⟨_,rfl,b6.nil⟩,?_⟩;have hL:∀(V:World) (o:Nat) (z:Value),Below w.heap.size w V->Below w.heap.size w (V.setCell ⟨w.heap.size+1,o,none⟩ z):=fun V o z q=>q.setCell (p:=⟨w.heap.size+1,o,none⟩) Tdu z;exact hL _ _ _ (hL _ _ _ (hL _ _ _ (hL _ _ _ (hL _ _ _ (hL _ _ _ (hL _ _ _ hB))))))
theorem wI{l:List Value}{q:Nat × Nat}(h:W.heap[b]?=some (.cells l.toArray t q))(i:Nat)(z:Value)(hz:l[i]?=some z):W.cell? (b,i)=some z:=by
 exact Tcr
theorem BO(h:W.heap[b]?=some (.cells #[z0,z1,z2,z3,z4,z5] t (0,0))):(∀i,W.frozen? ⟨b,i,none⟩=false)/\W.cell? b=some z0/\W.cell? (Tac b 1)=some z1/\W.cell? (Tac b 2)=some z2/\W.cell? (Tac b 3)=some z3/\W.cell? (Tac b 4)=some z4/\W.cell? (Tac b 5)=some z5 :=
 ⟨fun i=>by simp[World.frozen?,h],wI (l:=[z0,z1,z2,z3,z4,z5]) h 0 _ rfl,wI (l:=[z0,z1,z2,z3,z4,z5]) h 1 _ rfl,wI (l:=[z0,z1,z2,z3,z4,z5]) h 2 _ rfl,wI (l:=[z0,z1,z2,z3,z4,z5]) h 3 _ rfl,wI (l:=[z0,z1,z2,z3,z4,z5]) h 4 _ rfl,wI (l:=[z0,z1,z2,z3,z4,z5]) h 5 _ rfl⟩
theorem zQ(h:W.heap[b]?=some (.cells #[z0,z1,z2,z3,z4,z5] t (0,0)))(x0 x1 x2 x3 x4 x5:Value)(V:World)(e:V=(World.setCell (World.setCell (World.setCell (World.setCell (World.setCell (World.setCell W ⟨b,0,none⟩ x0) ⟨b,1,none⟩ x1) ⟨b,2,none⟩ x2) ⟨b,3,none⟩ x3) ⟨b,4,none⟩ x4) ⟨b,5,none⟩ x5)):(∀(n:Nat) (w:World),n<=b->Below n w W->Below n w V)/\V.heap[b]?=some (.cells #[x0,x1,x2,x3,x4,x5] t (0,0))/\∀k,k≠b->V.heap[k]?=W.heap[k]?:=by
 subst e;have hs:∀(n:Nat) (w V:World) (o:Nat) (z:Value),n<=b->Below n w V->Below n w (V.setCell ⟨b,o,none⟩ z):=fun n w V o z hn q=>q.setCell (p:=⟨b,o,none⟩) hn z;have k0:(World.setCell W ⟨b,0,none⟩ x0).heap[b]?=some (.cells #[x0,z1,z2,z3,z4,z5] t (0,0)):=block_setCell (i:=0) x0 h;have k1:(World.setCell (World.setCell W ⟨b,0,none⟩ x0) ⟨b,1,none⟩ x1).heap[b]?=some (.cells #[x0,x1,z2,z3,z4,z5] t (0,0)):=block_setCell (i:=1) x1 k0;have k2:(World.setCell (World.setCell (World.setCell W ⟨b,0,none⟩ x0) ⟨b,1,none⟩ x1) ⟨b,2,none⟩ x2).heap[b]?=some (.cells #[x0,x1,x2,z3,z4,z5] t (0,0)):=block_setCell (i:=2) x2 k1;have k3:(World.setCell (World.setCell (World.setCell (World.setCell W ⟨b,0,none⟩ x0) ⟨b,1,none⟩ x1) ⟨b,2,none⟩ x2) ⟨b,3,none⟩ x3).heap[b]?=some (.cells #[x0,x1,x2,x3,z4,z5] t (0,0)):=block_setCell (i:=3) x3 k2;have k4:(World.setCell (World.setCell (World.setCell (World.setCell (World.setCell W ⟨b,0,none⟩ x0) ⟨b,1,none⟩ x1) ⟨b,2,none⟩ x2) ⟨b,3,none⟩ x3) ⟨b,4,none⟩ x4).heap[b]?=some (.cells #[x0,x1,x2,x3,x4,z5] t (0,0)):=block_setCell (i:=4) x4 k3;have k5:(World.setCell (World.setCell (World.setCell (World.setCell (World.setCell (World.setCell W ⟨b,0,none⟩ x0) ⟨b,1,none⟩ x1) ⟨b,2,none⟩ x2) ⟨b,3,none⟩ x3) ⟨b,4,none⟩ x4) ⟨b,5,none⟩ x5).heap[b]?=some (.cells #[x0,x1,x2,x3,x4,x5] t (0,0)):=block_setCell (i:=5) x5 k4;exact⟨fun n w hn q=>(hs n w _ _ _ hn (hs n w _ _ _ hn (hs n w _ _ _ hn (hs n w _ _ _ hn (hs n w _ _ _ hn (hs n w _ _ _ hn q)))))),k5,fun k hk=>by rw[bw _ _ _ _ hk,bw _ _ _ _ hk,bw _ _ _ _ hk,bw _ _ _ _ hk,bw _ _ _ _ hk,bw _ _ _ _ hk]⟩
theorem Gq(h:W.heap[b]?=some (.cells #[z0,z1,z2,z3,z4,z5,z6] t (0,0))):(∀i,W.frozen? ⟨b,i,none⟩=false)/\W.cell? b=some z0/\W.cell? (Tac b 1)=some z1/\W.cell? (Tac b 2)=some z2/\W.cell? (Tac b 3)=some z3/\W.cell? (Tac b 4)=some z4/\W.cell? (Tac b 5)=some z5/\W.cell? (Tac b 6)=some z6 :=
 ⟨fun i=>by simp[World.frozen?,h],wI (l:=[z0,z1,z2,z3,z4,z5,z6]) h 0 _ rfl,wI (l:=[z0,z1,z2,z3,z4,z5,z6]) h 1 _ rfl,wI (l:=[z0,z1,z2,z3,z4,z5,z6]) h 2 _ rfl,wI (l:=[z0,z1,z2,z3,z4,z5,z6]) h 3 _ rfl,wI (l:=[z0,z1,z2,z3,z4,z5,z6]) h 4 _ rfl,wI (l:=[z0,z1,z2,z3,z4,z5,z6]) h 5 _ rfl,wI (l:=[z0,z1,z2,z3,z4,z5,z6]) h 6 _ rfl⟩
theorem CR(h:W.heap[b]?=some (.cells #[z0,z1,z2,z3,z4,z5,z6] t (0,0)))(x0 x1 x2 x3 x4 x5 x6:Value)(V:World)(e:V=(World.setCell (World.setCell (World.setCell (World.setCell (World.setCell (World.setCell (World.setCell W ⟨b,0,none⟩ x0) ⟨b,1,none⟩ x1) ⟨b,2,none⟩ x2) ⟨b,3,none⟩ x3) ⟨b,4,none⟩ x4) ⟨b,5,none⟩ x5) ⟨b,6,none⟩ x6)):(∀(n:Nat) (w:World),n<=b->Below n w W->Below n w V)/\V.heap[b]?=some (.cells #[x0,x1,x2,x3,x4,x5,x6] t (0,0))/\∀k,k≠b->V.heap[k]?=W.heap[k]?:=by
 subst e;have hs:∀(n:Nat) (w V:World) (o:Nat) (z:Value),n<=b->Below n w V->Below n w (V.setCell ⟨b,o,none⟩ z):=fun n w V o z hn q=>q.setCell (p:=⟨b,o,none⟩) hn z;have k0:(World.setCell W ⟨b,0,none⟩ x0).heap[b]?=some (.cells #[x0,z1,z2,z3,z4,z5,z6] t (0,0)):=block_setCell (i:=0) x0 h;have k1:(World.setCell (World.setCell W ⟨b,0,none⟩ x0) ⟨b,1,none⟩ x1).heap[b]?=some (.cells #[x0,x1,z2,z3,z4,z5,z6] t (0,0)):=block_setCell (i:=1) x1 k0;have k2:(World.setCell (World.setCell (World.setCell W ⟨b,0,none⟩ x0) ⟨b,1,none⟩ x1) ⟨b,2,none⟩ x2).heap[b]?=some (.cells #[x0,x1,x2,z3,z4,z5,z6] t (0,0)):=block_setCell (i:=2) x2 k1;have k3:(World.setCell (World.setCell (World.setCell (World.setCell W ⟨b,0,none⟩ x0) ⟨b,1,none⟩ x1) ⟨b,2,none⟩ x2) ⟨b,3,none⟩ x3).heap[b]?=some (.cells #[x0,x1,x2,x3,z4,z5,z6] t (0,0)):=block_setCell (i:=3) x3 k2;have k4:(World.setCell (World.setCell (World.setCell (World.setCell (World.setCell W ⟨b,0,none⟩ x0) ⟨b,1,none⟩ x1) ⟨b,2,none⟩ x2) ⟨b,3,none⟩ x3) ⟨b,4,none⟩ x4).heap[b]?=some (.cells #[x0,x1,x2,x3,x4,z5,z6] t (0,0)):=block_setCell (i:=4) x4 k3;have k5:(World.setCell (World.setCell (World.setCell (World.setCell (World.setCell (World.setCell W ⟨b,0,none⟩ x0) ⟨b,1,none⟩ x1) ⟨b,2,none⟩ x2) ⟨b,3,none⟩ x3) ⟨b,4,none⟩ x4) ⟨b,5,none⟩ x5).heap[b]?=some (.cells #[x0,x1,x2,x3,x4,x5,z6] t (0,0)):=block_setCell (i:=5) x5 k4;have k6:(World.setCell (World.setCell (World.setCell (World.setCell (World.setCell (World.setCell (World.setCell W ⟨b,0,none⟩ x0) ⟨b,1,none⟩ x1) ⟨b,2,none⟩ x2) ⟨b,3,none⟩ x3) ⟨b,4,none⟩ x4) ⟨b,5,none⟩ x5) ⟨b,6,none⟩ x6).heap[b]?=some (.cells #[x0,x1,x2,x3,x4,x5,x6] t (0,0)):=block_setCell (i:=6) x6 k5;exact⟨fun n w hn q=>(hs n w _ _ _ hn (hs n w _ _ _ hn (hs n w _ _ _ hn (hs n w _ _ _ hn (hs n w _ _ _ hn (hs n w _ _ _ hn (hs n w _ _ _ hn q))))))),k6,fun k hk=>by rw[bw _ _ _ _ hk,bw _ _ _ _ hk,bw _ _ _ _ hk,bw _ _ _ _ hk,bw _ _ _ _ hk,bw _ _ _ _ hk,bw _ _ _ _ hk]⟩
theorem J5(h:W.heap[b]?=some (.cells #[z0,z1,z2,z3,z4,z5,z6,z7,z8,z9,z10] t (0,0))):(∀i,W.frozen? ⟨b,i,none⟩=false)/\W.cell? b=some z0/\W.cell? (Tac b 1)=some z1/\W.cell? (Tac b 2)=some z2/\W.cell? (Tac b 3)=some z3/\W.cell? (Tac b 4)=some z4/\W.cell? (Tac b 5)=some z5/\W.cell? (Tac b 6)=some z6/\W.cell? (Tac b 7)=some z7/\W.cell? (Tac b 8)=some z8/\W.cell? (Tac b 9)=some z9/\W.cell? (Tac b 10)=some z10 :=
 ⟨fun i=>by simp[World.frozen?,h],wI (l:=[z0,z1,z2,z3,z4,z5,z6,z7,z8,z9,z10]) h 0 _ rfl,wI (l:=[z0,z1,z2,z3,z4,z5,z6,z7,z8,z9,z10]) h 1 _ rfl,wI (l:=[z0,z1,z2,z3,z4,z5,z6,z7,z8,z9,z10]) h 2 _ rfl,wI (l:=[z0,z1,z2,z3,z4,z5,z6,z7,z8,z9,z10]) h 3 _ rfl,wI (l:=[z0,z1,z2,z3,z4,z5,z6,z7,z8,z9,z10]) h 4 _ rfl,wI (l:=[z0,z1,z2,z3,z4,z5,z6,z7,z8,z9,z10]) h 5 _ rfl,wI (l:=[z0,z1,z2,z3,z4,z5,z6,z7,z8,z9,z10]) h 6 _ rfl,wI (l:=[z0,z1,z2,z3,z4,z5,z6,z7,z8,z9,z10]) h 7 _ rfl,wI (l:=[z0,z1,z2,z3,z4,z5,z6,z7,z8,z9,z10]) h 8 _ rfl,wI (l:=[z0,z1,z2,z3,z4,z5,z6,z7,z8,z9,z10]) h 9 _ rfl,wI (l:=[z0,z1,z2,z3,z4,z5,z6,z7,z8,z9,z10]) h 10 _ rfl⟩
theorem JE(h:W.heap[b]?=some (.cells #[z0,z1,z2,z3,z4,z5,z6,z7,z8,z9,z10] t (0,0)))(x0 x1 x2 x3 x4 x5 x6 x7 x8 x9 x10:Value)(V:World)(e:V=(World.setCell (World.setCell (World.setCell (World.setCell (World.setCell (World.setCell (World.setCell (World.setCell (World.setCell (World.setCell (World.setCell W ⟨b,0,none⟩ x0) ⟨b,1,none⟩ x1) ⟨b,2,none⟩ x2) ⟨b,3,none⟩ x3) ⟨b,4,none⟩ x4) ⟨b,5,none⟩ x5) ⟨b,6,none⟩ x6) ⟨b,7,none⟩ x7) ⟨b,8,none⟩ x8) ⟨b,9,none⟩ x9) ⟨b,10,none⟩ x10)):(∀(n:Nat) (w:World),n<=b->Below n w W->Below n w V)/\V.heap[b]?=some (.cells #[x0,x1,x2,x3,x4,x5,x6,x7,x8,x9,x10] t (0,0))/\∀k,k≠b->V.heap[k]?=W.heap[k]?:=by
 subst e;have hs:∀(n:Nat) (w V:World) (o:Nat) (z:Value),n<=b->Below n w V->Below n w (V.setCell ⟨b,o,none⟩ z):=fun n w V o z hn q=>q.setCell (p:=⟨b,o,none⟩) hn z;have k0:(World.setCell W ⟨b,0,none⟩ x0).heap[b]?=some (.cells #[x0,z1,z2,z3,z4,z5,z6,z7,z8,z9,z10] t (0,0)):=block_setCell (i:=0) x0 h;have k1:(World.setCell (World.setCell W ⟨b,0,none⟩ x0) ⟨b,1,none⟩ x1).heap[b]?=some (.cells #[x0,x1,z2,z3,z4,z5,z6,z7,z8,z9,z10] t (0,0)):=block_setCell (i:=1) x1 k0;have k2:(World.setCell (World.setCell (World.setCell W ⟨b,0,none⟩ x0) ⟨b,1,none⟩ x1) ⟨b,2,none⟩ x2).heap[b]?=some (.cells #[x0,x1,x2,z3,z4,z5,z6,z7,z8,z9,z10] t (0,0)):=block_setCell (i:=2) x2 k1;have k3:(World.setCell (World.setCell (World.setCell (World.setCell W ⟨b,0,none⟩ x0) ⟨b,1,none⟩ x1) ⟨b,2,none⟩ x2) ⟨b,3,none⟩ x3).heap[b]?=some (.cells #[x0,x1,x2,x3,z4,z5,z6,z7,z8,z9,z10] t (0,0)):=block_setCell (i:=3) x3 k2;have k4:(World.setCell (World.setCell (World.setCell (World.setCell (World.setCell W ⟨b,0,none⟩ x0) ⟨b,1,none⟩ x1) ⟨b,2,none⟩ x2) ⟨b,3,none⟩ x3) ⟨b,4,none⟩ x4).heap[b]?=some (.cells #[x0,x1,x2,x3,x4,z5,z6,z7,z8,z9,z10] t (0,0)):=block_setCell (i:=4) x4 k3;have k5:(World.setCell (World.setCell (World.setCell (World.setCell (World.setCell (World.setCell W ⟨b,0,none⟩ x0) ⟨b,1,none⟩ x1) ⟨b,2,none⟩ x2) ⟨b,3,none⟩ x3) ⟨b,4,none⟩ x4) ⟨b,5,none⟩ x5).heap[b]?=some (.cells #[x0,x1,x2,x3,x4,x5,z6,z7,z8,z9,z10] t (0,0)):=block_setCell (i:=5) x5 k4;have k6:(World.setCell (World.setCell (World.setCell (World.setCell (World.setCell (World.setCell (World.setCell W ⟨b,0,none⟩ x0) ⟨b,1,none⟩ x1) ⟨b,2,none⟩ x2) ⟨b,3,none⟩ x3) ⟨b,4,none⟩ x4) ⟨b,5,none⟩ x5) ⟨b,6,none⟩ x6).heap[b]?=some (.cells #[x0,x1,x2,x3,x4,x5,x6,z7,z8,z9,z10] t (0,0)):=block_setCell (i:=6) x6 k5;have k7:(World.setCell (World.setCell (World.setCell (World.setCell (World.setCell (World.setCell (World.setCell (World.setCell W ⟨b,0,none⟩ x0) ⟨b,1,none⟩ x1) ⟨b,2,none⟩ x2) ⟨b,3,none⟩ x3) ⟨b,4,none⟩ x4) ⟨b,5,none⟩ x5) ⟨b,6,none⟩ x6) ⟨b,7,none⟩ x7).heap[b]?=some (.cells #[x0,x1,x2,x3,x4,x5,x6,x7,z8,z9,z10] t (0,0)):=block_setCell (i:=7) x7 k6;have k8:(World.setCell (World.setCell (World.setCell (World.setCell (World.setCell (World.setCell (World.setCell (World.setCell (World.setCell W ⟨b,0,none⟩ x0) ⟨b,1,none⟩ x1) ⟨b,2,none⟩ x2) ⟨b,3,none⟩ x3) ⟨b,4,none⟩ x4) ⟨b,5,none⟩ x5) ⟨b,6,none⟩ x6) ⟨b,7,none⟩ x7) ⟨b,8,none⟩ x8).heap[b]?=some (.cells #[x0,x1,x2,x3,x4,x5,x6,x7,x8,z9,z10] t (0,0)):=block_setCell (i:=8) x8 k7;have k9:(World.setCell (World.setCell (World.setCell (World.setCell (World.setCell (World.setCell (World.setCell (World.setCell (World.setCell (World.setCell W ⟨b,0,none⟩ x0) ⟨b,1,none⟩ x1) ⟨b,2,none⟩ x2) ⟨b,3,none⟩ x3) ⟨b,4,none⟩ x4) ⟨b,5,none⟩ x5) ⟨b,6,none⟩ x6) ⟨b,7,none⟩ x7) ⟨b,8,none⟩ x8) ⟨b,9,none⟩ x9).heap[b]?=some (.cells #[x0,x1,x2,x3,x4,x5,x6,x7,x8,x9,z10] t (0,0)):=block_setCell (i:=9) x9 k8;have k10:(World.setCell (World.setCell (World.setCell (World.setCell (World.setCell (World.setCell (World.setCell (World.setCell (World.setCell (World.setCell (World.setCell W ⟨b,0,none⟩ x0) ⟨b,1,none⟩ x1) ⟨b,2,none⟩ x2) ⟨b,3,none⟩ x3) ⟨b,4,none⟩ x4) ⟨b,5,none⟩ x5) ⟨b,6,none⟩ x6) ⟨b,7,none⟩ x7) ⟨b,8,none⟩ x8) ⟨b,9,none⟩ x9) ⟨b,10,none⟩ x10).heap[b]?=some (.cells #[x0,x1,x2,x3,x4,x5,x6,x7,x8,x9,x10] t (0,0)):=block_setCell (i:=10) x10 k9;exact⟨fun n w hn q=>(hs n w _ _ _ hn (hs n w _ _ _ hn (hs n w _ _ _ hn (hs n w _ _ _ hn (hs n w _ _ _ hn (hs n w _ _ _ hn (hs n w _ _ _ hn (hs n w _ _ _ hn (hs n w _ _ _ hn (hs n w _ _ _ hn (hs n w _ _ _ hn q))))))))))),k10,fun k hk=>by rw[bw _ _ _ _ hk,bw _ _ _ _ hk,bw _ _ _ _ hk,bw _ _ _ _ hk,bw _ _ _ _ hk,bw _ _ _ _ hk,bw _ _ _ _ hk,bw _ _ _ _ hk,bw _ _ _ _ hk,bw _ _ _ _ hk,bw _ _ _ _ hk]⟩
theorem I6{c0 c4:Value}(h:W.heap[b]?=some (.cells #[c0,c1,c2,c3,c4,c5] t z)):(∀q:fo,(ext W q).cell? b=some c0)/\(∀q:fo,(ext W q).cell? (Tac b 1)=some c1)/\(∀q:fo,(ext W q).cell? (Tac b 2)=some c2)/\(∀q:fo,(ext W q).cell? (Tac b 3)=some c3)/\(∀q:fo,(ext W q).cell? (Tac b 4)=some c4)/\(∀q:fo,(ext W q).cell? (Tac b 5)=some c5) :=
 have f:=fun i x hx=>aG (aq h) (wI (l:=[c0,c1,c2,c3,c4,c5]) h i x hx)
 ⟨f 0 _ rfl,f 1 _ rfl,f 2 _ rfl,f 3 _ rfl,f 4 _ rfl,f 5 _ rfl⟩
theorem Hr{c0 c4 c7 c8:Value}(h:W.heap[b]?=some (.cells #[c0,c1,c2,c3,c4,c5,c6,c7,c8] t z)):(∀q:fo,(ext W q).cell? b=some c0)/\(∀q:fo,(ext W q).cell? (Tac b 1)=some c1)/\(∀q:fo,(ext W q).cell? (Tac b 2)=some c2)/\(∀q:fo,(ext W q).cell? (Tac b 3)=some c3)/\(∀q:fo,(ext W q).cell? (Tac b 4)=some c4)/\(∀q:fo,(ext W q).cell? (Tac b 5)=some c5)/\(∀q:fo,(ext W q).cell? (Tac b 6)=some c6)/\(∀q:fo,(ext W q).cell? (Tac b 7)=some c7)/\(∀q:fo,(ext W q).cell? (Tac b 8)=some c8) :=
 have f:=fun i x hx=>aG (aq h) (wI (l:=[c0,c1,c2,c3,c4,c5,c6,c7,c8]) h i x hx)
 ⟨f 0 _ rfl,f 1 _ rfl,f 2 _ rfl,f 3 _ rfl,f 4 _ rfl,f 5 _ rfl,f 6 _ rfl,f 7 _ rfl,f 8 _ rfl⟩
theorem K7{c0 c4 c7 c8 c10:Value}(h:W.heap[b]?=some (.cells #[c0,c1,c2,c3,c4,c5,c6,c7,c8,c9,c10] t z)):(∀q:fo,(ext W q).cell? b=some c0)/\(∀q:fo,(ext W q).cell? (Tac b 1)=some c1)/\(∀q:fo,(ext W q).cell? (Tac b 2)=some c2)/\(∀q:fo,(ext W q).cell? (Tac b 3)=some c3)/\(∀q:fo,(ext W q).cell? (Tac b 4)=some c4)/\(∀q:fo,(ext W q).cell? (Tac b 5)=some c5)/\(∀q:fo,(ext W q).cell? (Tac b 6)=some c6)/\(∀q:fo,(ext W q).cell? (Tac b 7)=some c7)/\(∀q:fo,(ext W q).cell? (Tac b 8)=some c8)/\(∀q:fo,(ext W q).cell? (Tac b 9)=some c9)/\(∀q:fo,(ext W q).cell? (Tac b 10)=some c10) :=
 have f:=fun i x hx=>aG (aq h) (wI (l:=[c0,c1,c2,c3,c4,c5,c6,c7,c8,c9,c10]) h i x hx)
 ⟨f 0 _ rfl,f 1 _ rfl,f 2 _ rfl,f 3 _ rfl,f 4 _ rfl,f 5 _ rfl,f 6 _ rfl,f 7 _ rfl,f 8 _ rfl,f 9 _ rfl,f 10 _ rfl⟩
structure JT(g:af):Prop where
 dl:g.Gb.length<=1000000
 dt:∀d∈g.Gb,d.tags.length<=1000000
 vl:g.F9.length<=1000000
 vz:∀v∈g.F9,qD v
def Tad(x0:af)(x1:bN):Tab #[.string x0.name,.int .u64 x0.id,.int .i64 x0.seq,.int .i64 x0.Gd,.int .i64 x0.next,.slice x1.tp x0.tags.length x1.tc,.slice x1.dp x0.Gb.length x1.dc,.slice x1.vp x0.F9.length x1.vc,.slice x1.hp x0.history.length x1.hc]:=⟨⟩
theorem Ta7{p:Prop}(h:p:=by
 refine(nZ g a nm W (ok:=fun k=>ok k/\k<w.heap.size) (dN.Gb (Rj.o W hb)) HZ.o.dl HZ.o.dt).mono ?_;rintro e w' ⟨u,rfl,hv,hb'⟩;rw[Yh]at hv;rw[N3];obtain⟨t,rfl,ht⟩:=hv;obtain⟨tp,tc,rfl,h1,h2⟩:=ht.cap;have sA:aO _ w' _ _:=⟨_,rfl,ht⟩
 exact⟨_,_,rfl,sA,hb'⟩):p:=h
theorem TcJ{p:Prop}(h:p:=by
 ·exact QW.o k Teo):p:=h
theorem TcK{p:Prop}(h:p:=by
 exact ho.imp id (fun q=>⟨q.1,TcN⟩)):p:=h
theorem TaP{p:Prop}(h:p:=by
 refine cH hQ 0 hHeld ?_;refine cH hQ 1 hHeld ?_;refine cH hQ 2 hHeld ?_;refine cH hQ 3 hHeld ?_;refine cH hQ 4 hHeld ?_;refine cH hQ 5 hHeld ?_;refine mh (i:=6) (j:=10) rfl rfl rfl rfl TcP (fun K hK=>?_) (fun K hK=>?_)
 ·go_simp;refine(HC.o _ (bj _ _).drew).mono ?_;rintro e w1 ⟨tp,tc,rfl,hv1,hb1⟩;have hb1':Below w.heap.size w w1:=⟨hb1.os,hb1.tape,hb1.output,hb1.size,hb1.block⟩;refine hK.o _ _ (HS.o _ hb1') ?_;clear hK K hHeld;have hHeld:=HS.o _ hb1';have Zx:=aa hv1;clear hv1 hb1;have cU:=aa hb1';clear hb1';refine cH hQ 7 hHeld ?_;refine cH hQ 8 hHeld ?_;refine cH hQ 9 hHeld ?_;refine lR 10 fun K hK=>?_;go_simp;have hb2:Below w.heap.size w (w1.alloc (.cells Tak 39)):=cU.o.alloc cU.o.size _;refine hK.o _ _ (HS.o _ hb2) ?_;clear hK K hHeld;have gh:=b9 w1 (.cells Tak 39);have gO:w1.heap.size<(w1.alloc (.cells Tak 39)).heap.size:=by simp
  have hv2:aO (fun k=>(ok k/\k<w.heap.size)\/(w.heap.size<=k/\k<w1.heap.size)) (w1.alloc (.cells Tak 39)) [.string x.name,.int .u64 x.id,.int .i64 x.first,.int .i64 x.Gc,.bool x.closed,.bool x.missing,.slice tp x.tags.length tc] x:=aO.moves.mv ⟨TcO,fun k hk ho=>⟨ho.imp id (fun q=>⟨q,hk⟩),cj _ _ _ hk⟩⟩ Zx.o;have mA:=cU.o.size;generalize hW2:World.alloc w1 _=W2 at *;generalize hb0:w1.heap.size=b0 at *;clear hW2 hb0 Zx cU;have Vn:=aa hv2;clear hv2;obtain⟨zf,z0,z1,z2,z3,z4,z5,z6⟩:=Gq gh;obtain⟨sb,sk,so⟩:=CR gh (.string x.name) (.int .u64 x.id) (.int .i64 x.first) (.int .i64 x.Gc) (.bool x.closed) (.bool x.missing) (.slice tp x.tags.length tc) _ rfl;have cJ:=aa (sb _ _ mA hb2);have F2:=aa sk;have QW:=aa so;clear sb sk so gh;refine lR 11 fun K hK=>?_;go_simp;refine hK.o _ _ (HS.o _ cJ.o) ?_;clear hK K;refine lR 12 fun K hK=>?_;go_simp;refine hK.o _ _ (HS.o _ cJ.o) ?_;clear hK K;refine aP TcP rfl ?_;simp only[cQ,km,cL];refine HK.o _ _ b0 _ cJ.o mA F2.o (aO.moves.mv ⟨TcY,fun k hk ho=>⟨?_,?_⟩⟩ Vn.o)
  ·exact TcK
  exact TcJ
 go_simp;have hb2:Below w.heap.size w (w.drew.alloc (.cells Tak 39)):=((bj _ _).drew).alloc (bk _) _;refine hK.o _ _ (HS.o _ hb2) ?_;clear hK K hHeld;have hHeld:=HS.o _ hb2;refine lR 6 fun K hK=>?_;go_simp;refine(HC.o _ hb2).mono ?_;rintro e w1 ⟨tp,tc,rfl,hv1,hb1⟩;have hb1':Below w.heap.size w w1:=hb2.trans (hb1.mono hb2.size);refine hK.o _ _ (HS.o _ hb1') ?_;clear hK K hHeld;have hHeld:=HS.o _ hb1';have gh:=(hb1.block _ TcO).trans (b9 w.drew (.cells Tak 39));have hv2:aO (fun k=>(ok k/\k<w.heap.size)\/(w.heap.size<=k/\w.heap.size<k)) w1 [.string x.name,.int .u64 x.id,.int .i64 x.first,.int .i64 x.Gc,.bool x.closed,.bool x.missing,.slice tp x.tags.length tc] x:=aO.moves.mv ⟨bk _,fun k hk ho=>⟨ho.imp id (fun q=>by simp at q;omega),rfl⟩⟩ hv1;have mA:w.heap.size<=w.heap.size:=bk _;have gh:w1.heap[w.heap.size]?=some (.cells Tak 39 (0,0)):=gh;clear hb2;have hb2:=hb1';clear hv1 hb1 hb1';generalize w1=W2 at *;refine cH hQ 7 hHeld ?_;refine cH hQ 8 hHeld ?_;refine cH hQ 9 hHeld ?_;have Vn:=aa hv2;clear hv2;obtain⟨zf,z0,z1,z2,z3,z4,z5,z6⟩:=Gq gh;obtain⟨sb,sk,so⟩:=CR gh (.string x.name) (.int .u64 x.id) (.int .i64 x.first) (.int .i64 x.Gc) (.bool x.closed) (.bool x.missing) (.slice tp x.tags.length tc) _ rfl;have cJ:=aa (sb _ _ mA hb2);have F2:=aa sk;have QW:=aa so;clear sb sk so gh;refine lR 11 fun K hK=>?_;go_simp;refine hK.o _ _ (HS.o _ cJ.o) ?_;clear hK K;refine lR 12 fun K hK=>?_;go_simp;refine hK.o _ _ (HS.o _ cJ.o) ?_;clear hK K;refine aP TcP rfl ?_;simp only[cQ,km,cL];refine HK.o _ _ w.heap.size _ cJ.o mA F2.o (aO.moves.mv ⟨TcY,fun k hk ho=>⟨?_,?_⟩⟩ Vn.o)
 ·exact TcK
 exact TcJ):p:=h
theorem sM{ok:Nat->Prop}(Q:Exit->Act->World->Prop){c4 c7 c8 c10 c11 c12 c13 c14 c15 c16 c17 c18 c19 c20 c21 c22 c23 c24 c25 c26 c27 c28 c29 c30 c31 c32 c33 c34 c35 c36 c37 c38 c39 c40 c41 c42 c43 c44 c45 c46 c47 c48 c49 c50 c51 c52 c53 c54 c55 c56:Value}(w:World)(g:af)(a:bN)(bc sm Bx:Nat)(nm:ByteArray)(hx:w.heap[bc]?=some (.cells #[.string g.name,.int .u64 g.id,.int .i64 g.seq,.int .i64 g.Gd,.int .i64 g.next,.slice a.tp g.tags.length a.tc,.slice a.dp g.Gb.length a.dc,.slice a.vp g.F9.length a.vc,.slice a.hp g.history.length a.hc,.map (some sm)] 121 (0,0)))(hn:w.cell? (Tac Bx 1)=some (.string nm))(PX:Bx<w.heap.size)
  (hg:dN ok w g a) (hz:JT g) (x:az) (Tz:Bool) (Yh:(bH g.Gb nm).getD gT=x) (N3:(bH g.Gb nm).isSome=Tz)
  (HK:Hid (∀(tp:Option Addr) (tc:Nat) (b:Nat) (W':World),Below w.heap.size w W'->w.heap.size<=b->W'.heap[b]?=some (.cells (Tah x tp tc) 39 (0,0))->aO (fun k=>(ok k/\k<w.heap.size)\/(w.heap.size<=k/\k≠b)) W' [.string x.name,.int .u64 x.id,.int .i64 x.first,.int .i64 x.Gc,.bool x.closed,.bool x.missing,.slice tp x.tags.length tc] x->Q .normal ⟨#[.pointer (some bc),c1,c2,c3,c4,c5,.pointer (some Bx),.pointer (some b),.bool Tz,c9,c10,c11,c12,c13,c14,c15,c16,c17,c18,c19,.tuple #[.agg (Tah x tp tc),.bool Tz],.pointer (some bc),.pointer (some bc),.pointer (some bc),.agg (Tad g a),.pointer (some (Tac Bx 1)),.string nm,.tuple #[.agg (Tah x tp tc),.bool Tz],.agg (Tah x tp tc),.bool Tz,c30,c31,c32,c33,c34,c35,c36,c37,c38,c39,c40,c41,c42,c43,c44,c45,c46,c47,c48,c49,c50,c51,c52,c53,c54,c55,c56],[]⟩ W'))
  (hQ:∀c (a:Act) (d:Tmp) (v:Value) w,Q (.panic c) (a.put (some d) v) w->Q (.panic c) a w) :
  (Ai Tryz.f120 4).wp prog Q ⟨#[.pointer (some bc),c1,c2,c3,c4,c5,.pointer (some Bx),c7,c8,c9,c10,c11,c12,c13,c14,c15,c16,c17,c18,c19,c20,c21,c22,c23,c24,c25,c26,c27,c28,c29,c30,c31,c32,c33,c34,c35,c36,c37,c38,c39,c40,c41,c42,c43,c44,c45,c46,c47,c48,c49,c50,c51,c52,c53,c54,c55,c56],[]⟩ w:=by
 conv=>arg 2;whnf
 have vh:=aq hx;have hS:∀w':World,Below w.heap.size w w'->(w'.cell? (Tac Bx 1)=some (.string nm)/\w'.cell? bc=some (.string g.name)/\w'.cell? (Tac bc 1)=some (.int .u64 g.id)/\w'.cell? (Tac bc 2)=some (.int .i64 g.seq)/\w'.cell? (Tac bc 3)=some (.int .i64 g.Gd)/\w'.cell? (Tac bc 4)=some (.int .i64 g.next)/\w'.cell? (Tac bc 5)=some (.slice a.tp g.tags.length a.tc)/\w'.cell? (Tac bc 6)=some (.slice a.dp g.Gb.length a.dc)/\w'.cell? (Tac bc 7)=some (.slice a.vp g.F9.length a.vc)/\w'.cell? (Tac bc 8)=some (.slice a.hp g.history.length a.hc)):=fun w' e=>by
  have h2:=(e.block bc vh).trans hx;exact⟨(e.cell (p:=⟨Bx,1,none⟩) PX).trans hn,cr h2 _ _ rfl,cr h2 _ _ rfl,cr h2 _ _ rfl,cr h2 _ _ rfl,cr h2 _ _ rfl,cr h2 _ _ rfl,cr h2 _ _ rfl,cr h2 _ _ rfl,cr h2 _ _ rfl⟩
 have HS:=aa hS;clear hS;have Rj:Hid (∀W:World,Below w.heap.size w W->dN (fun k=>ok k/\k<w.heap.size) W g a):=aa fun W hb=>hg.mv ⟨hb.size,fun k hk ho=>⟨⟨ho,hk⟩,hb.block k hk⟩⟩;have HZ:=aa hz;clear hz hg hx hn
 have hC:∀W:World,Below w.heap.size w W->Calls prog 24 #[.agg (Tad g a),.string nm] W fun e w'=>∃(tp:Option Addr) (tc:Nat),e=.returned (.tuple #[.agg (Tah x tp tc),.bool Tz])/\aO (fun k=>(ok k/\k<w.heap.size)\/W.heap.size<=k) w' [.string x.name,.int .u64 x.id,.int .i64 x.first,.int .i64 x.Gc,.bool x.closed,.bool x.missing,.slice tp x.tags.length tc] x/\Below W.heap.size W w':=fun W hb=>by
  exact Ta7
 have HC:=aa hC;clear hC Yh N3;refine aZ (fun w'=>w'.cell? (Tac Bx 1)=some (.string nm)/\w'.cell? bc=some (.string g.name)/\w'.cell? (Tac bc 1)=some (.int .u64 g.id)/\w'.cell? (Tac bc 2)=some (.int .i64 g.seq)/\w'.cell? (Tac bc 3)=some (.int .i64 g.Gd)/\w'.cell? (Tac bc 4)=some (.int .i64 g.next)/\w'.cell? (Tac bc 5)=some (.slice a.tp g.tags.length a.tc)/\w'.cell? (Tac bc 6)=some (.slice a.dp g.Gb.length a.dc)/\w'.cell? (Tac bc 7)=some (.slice a.vp g.F9.length a.vc)/\w'.cell? (Tac bc 8)=some (.slice a.hp g.history.length a.hc)) 13 [] TcP (HS.o _ (bj _ _).drew) (fun hHeld=>?_);exact TaP
def jw(g:af)(s:aB):Bool:=s.Ga.all (fun r=>r.vol||(bH g.Gb r.on).isSome)&&(dD s true).all (fun nm=>(aM g.F9 nm).isSome)
theorem oL(s:aB)(pool:Bool)(h:s.Ga.length<=1000000):(dD s pool).length<=1000002:=by
 unfold dD;have:=tk (·.vol) s.Ga;rw[cD,cD,fW];cases s.log.toList.isEmpty<;>cases (pool&&s.kind==6)<;>simp<;>omega
def bX(w:World)(bc sm:Nat)(g:af)(a:bN):Prop:=w.heap[bc]?=some (.cells #[.string g.name,.int .u64 g.id,.int .i64 g.seq,.int .i64 g.Gd,.int .i64 g.next,.slice a.tp g.tags.length a.tc,.slice a.dp g.Gb.length a.dc,.slice a.vp g.F9.length a.vc,.slice a.hp g.history.length a.hc,.map (some sm)] 121 (0,0))
theorem bX.cells{bc sm:Nat}{g:af}{a:bN}(h:bX w bc sm g a):w.cell? bc=some (.string g.name)/\w.cell? (Tac bc 1)=some (.int .u64 g.id)/\w.cell? (Tac bc 2)=some (.int .i64 g.seq)/\w.cell? (Tac bc 3)=some (.int .i64 g.Gd)/\w.cell? (Tac bc 4)=some (.int .i64 g.next) /\
  w.cell? (Tac bc 5)=some (.slice a.tp g.tags.length a.tc)/\w.cell? (Tac bc 6)=some (.slice a.dp g.Gb.length a.dc)/\w.cell? (Tac bc 7)=some (.slice a.vp g.F9.length a.vc)/\w.cell? (Tac bc 8)=some (.slice a.hp g.history.length a.hc):=by
 have h:w.heap[bc]?=_:=h;exact⟨cr h _ _ rfl,cr h _ _ rfl,cr h _ _ rfl,cr h _ _ rfl,cr h _ _ rfl,cr h _ _ rfl,cr h _ _ rfl,cr h _ _ rfl,cr h _ _ rfl⟩
def dM(vn:ByteArray)(vd:List UInt8)(on:ByteArray):Bool:=pV on ⟨(iK vn.data.toList vd).1.toArray⟩ (iK vn.data.toList vd).2
structure VS(ok:Nat->Prop)(w:World)(bv bs:Nat)(v:ay)(s:aB):Prop where
 bx:∃u,w.heap[bv]?=some (.cells u.toArray 57 (0,0))/\aN ok w u v
 sx:∃u,w.heap[bs]?=some (.cells u.toArray 88 (0,0))/\bC ok w u s
theorem qC{ok:Nat->Prop}(Vy:Bool)(v:ay)(s:aB)(k:Nat)(n:Int)(r:aR)(bv bs:Nat)(w:World)(h:VS ok w bv bs v s)(hr:s.Ga[k]?=some r)(hS:AW w)(UL:v.name.size<=1000000000) :
  Calls prog 164 #[.int .i64 k,if Vy then .func (.func 166) #[] #[] else .func (.func 167) #[] #[],.int .i64 n,.pointer (some bv),.pointer (some bs)] w fun e w'=>e=.returned (.bool (dM v.name (if Vy then bf n else dH n) r.on))/\Below w.heap.size w w':=by
 obtain⟨⟨u1,hb1,hv1⟩,⟨u2,hb2,hv2⟩⟩:=h;obtain⟨tv,sv,rfl,_,_⟩:=hv1;obtain⟨av,Oz,rfl,mC,_⟩:=hv2;obtain⟨ap,ac,rfl,aq0,aq1⟩:=mC.cap;have c0:=cr hb1 0 _ rfl;have gO:=aq hb2;have Tt:k<s.Ga.length:=(List.getElem?_eq_some_iff.1 hr).1;obtain⟨b,off,us,rfl,_,cX,ez,eE,hcv⟩:=mC.elem hr;obtain rfl:us=_:=eE;have hq:=hcv 1 _ rfl;have HQ:=aa hq;have cm:=aa hb2;have HS:=aa hS;have hn2:v.name.data.toList.length<=1000000000:=by simpa using UL
 clear hb1 hb2 mC hr hcv ez hS;cases Vy with
 |true =>
  have HC:=aa (Ea v.name.data.toList n w hn2 HS.o);rw[<- bytes_eta]at HC;simp only[ej];go_enter func164,ntmps164
  go_wp2_with fail;refine HC.o.mono ?_;rintro e w1 ⟨rfl,hb1⟩;have cU:=aa hb1;have h3:w1.cell? (Tac bs 3)=some (.slice (some (b,off)) s.Ga.length ac):=(hb1.cell (p:=⟨bs,3,none⟩) gO).trans (by simp[World.cell?,cm.o]);have q1:=(hb1.cell (p:=⟨b,off+k*3+1,none⟩) cX).trans HQ.o;clear hb1;go_wp2_with fail;refine(mJ _ _ _ _).mono ?_;rintro e w2 ⟨rfl,rfl⟩;go_wp2;go_ret;exact⟨rfl,cU.o⟩
 |false =>
  have HC:=aa (wC v.name.data.toList n w hn2 HS.o);rw[<- bytes_eta]at HC;simp only[pj,fY];go_enter func164,ntmps164
  go_wp2_with fail;refine HC.o.mono ?_;rintro e w1 ⟨rfl,hb1⟩;have cU:=aa hb1;have h3:w1.cell? (Tac bs 3)=some (.slice (some (b,off)) s.Ga.length ac):=(hb1.cell (p:=⟨bs,3,none⟩) gO).trans (by simp[World.cell?,cm.o]);have q1:=(hb1.cell (p:=⟨b,off+k*3+1,none⟩) cX).trans HQ.o;clear hb1;go_wp2_with fail;refine(mJ _ _ _ _).mono ?_;rintro e w2 ⟨rfl,rfl⟩;go_wp2;go_ret;exact⟨rfl,cU.o⟩
theorem rR{ok:Nat->Prop}(v:ay)(s:aB)(k:Nat)(n:Int)(r:aR)(bv bs:Nat)(w:World)(h:VS ok w bv bs v s)(hr:s.Ga[k]?=some r)(hS:AW w)(UL:v.name.size<=1000000000) :
  Calls prog 164 #[.int .i64 k,.func (.func 166) #[] #[],.int .i64 n,.pointer (some bv),.pointer (some bs)] w fun e w'=>e=.returned (.bool (dM v.name (bf n) r.on))/\Below w.heap.size w w' :=
 qC true v s k n r bv bs w h hr hS UL
theorem kg{ok:Nat->Prop}(v:ay)(s:aB)(k:Nat)(n:Int)(r:aR)(bv bs:Nat)(w:World)(h:VS ok w bv bs v s)(hr:s.Ga[k]?=some r)(hS:AW w)(UL:v.name.size<=1000000000) :
  Calls prog 164 #[.int .i64 k,.func (.func 167) #[] #[],.int .i64 n,.pointer (some bv),.pointer (some bs)] w fun e w'=>e=.returned (.bool (dM v.name (dH n) r.on))/\Below w.heap.size w w' :=
 qC false v s k n r bv bs w h hr hS UL
def vU(v:ay)(s:aB):Bool:=(List.range s.Ga.length).all fun k=>dM v.name (bf k) ((s.Ga.map (·.on)).getD k ⟨#[]⟩)
def jS(v:ay)(s:aB):Bool :=
 if s.kind=3\/s.kind=4 then vU v s&&(s.log.toList.isEmpty||dM v.name (dH 1) s.log)
 else if s.kind=5 then dM v.name (dH 3) ((s.Ga.map (·.on)).getD 0 ⟨#[]⟩)&&dM v.name (dH 2) ((s.Ga.map (·.on)).getD 1 ⟨#[]⟩)
 else if s.kind=7 then dM v.name (bf 0) ((s.Ga.map (·.on)).getD 0 ⟨#[]⟩)&&dM v.name (dH 2) ((s.Ga.map (·.on)).getD 1 ⟨#[]⟩)&&dM v.name (dH 3) ((s.Ga.map (·.on)).getD 2 ⟨#[]⟩)
 else true
theorem uD{l:List aR}{r:aR}(h:l[k]?=some r):(l.map (·.on)).getD k ⟨#[]⟩=r.on:=by simp[h]
theorem VS.below{ok:Nat->Prop}{w':World}{bv bs:Nat}{s:aB}(h:VS ok w bv bs v s)(hb:Below w.heap.size w w'):VS ok w' bv bs v s:=by
 obtain⟨⟨u1,hb1,hv1⟩,⟨u2,hb2,hv2⟩⟩:=h;exact⟨⟨u1,(hb.block _ (aq hb1)).trans hb1,aN.moves.mv (Mv.of hb) hv1⟩,⟨u2,(hb.block _ (aq hb2)).trans hb2,bC.moves.mv (Mv.of hb) hv2⟩⟩
end Go.Proofs.YtillcmhjhajimaaGreatDoor
