/- Lemmas: MkK, MkQ, SpA, FlI, SpB, SpC, RanA, RanM, Bri, RanB, SpD, SpCa, RanC, RanE, RanF. -/
import Derived.Test.YtaagglbgohjldaaGreatDoorQj01
import Derived.Test.YtaagglbgohjldaaGreatDoorShelf
import Derived.Shelf.SlSortCmp.WholeK
import Derived.Lib.OwnBridge
import Derived.RangeFuncNested
import Derived.RangeFuncBound
import Derived.Shelf.Sort.Plain
import Derived.Shelf.Slices.In.SortNone
import Derived.Shelf.SlicesQ.Equal
set_option maxRecDepth 100000
set_option maxHeartbeats 32000000
set_option linter.all false
open Array renaming getElem?_eq_some_iff→DS,replicate→GO
open List renaming getElem?_eq_some_iff→AT,mem_map→As,mem_append→AS,singleton_inj→IF,mem_cons→F1,pairwise_cons→IN,pairwise_iff_getElem→It,mem_singleton→AM,all_eq_true→An,replicate→DE
open Go.Value renaming int→Bm,string→Cd
open Go.World renaming setCell→AF,frozen?→BT,cell?→AN
open Go.Region renaming seqB→Is,ready→BE,wanted→By,binds→DQ,noSelect→GB,free→IS
open Go.Lib renaming compactUpTo→Ly,compact→IT,compareInt→Iv
namespace Go.Proofs.YtaagglbgohjldaaGreatDoor
open Go.Proofs.Tryz
open Go.RowKit
variable {α:Type}{sz ga B bs bb N:Nat}{ok' X:Nat->Prop}{w w':World}{v z nv vv:Value}{t e:TypeId}{i0:TypeInfo}{vl:List ay}{g:af}{p:Option Addr}
def iL{α:Type}(V:jx α)(sz:Nat)(ok:Nat->Prop)(w:World)(v:Value)(l:List α):Prop :=
 ∃b olds,v=.slice (some ⟨b,0,none⟩) l.length l.length/\b<w.1.size/\ok b/\Flat V sz ok w olds l/\(∀(j:Nat) (y:Value),olds[j]?=some y->w.cell? ⟨b,j,none⟩=some y)/\l.length<=1000000
def iL.moves{V:jx α}(hV:Moves V){ok:Nat->Prop}{l:List α}(hm:Mv ok ok' w w')(h:iL V sz ok w v l):iL V sz ok' w' v l:=by
 obtain⟨b,olds,e,hb,ho,hf,hc,hn⟩:=h;exact⟨b,olds,e,cC hb hm.1,(hm.2 b hb ho).1,Flat.moves hV hm _ _ hf,fun j y hy=>(cd (w:=w) (hm.2 b hb ho).2).trans (hc j y hy),hn⟩
def rG{V:jx α}(hV:Moves V){ty:TypeId}(hu:prog.underlying t=some (.slice e))(hi:prog.info? e=some i0)(hz:i0.zero=some z)(a5:i0.size=sz)(a9:i0.bytes=ga)(aa:z.cells.size=sz)(Hv:ga<=1000)
  {w:World} (B:Nat) (ok:Nat->Prop) (v:Value) (l:List α) (p:α) (a7:iL V sz ok w v l) (g c:Nat) (u:List Value)
  (ez:u.length=sz) (ab:V ok w u p) (ae:∀z∈u,z.oneCell'=true) (hc:∀(j:Nat) (y:Value),u[j]?=some y->w.cell? (g,j)=some y) (hB:B<=w.1.size) :
  ∃cap w',(Builtin.append_ #[t,t] ty #[v,.slice (some g) 1 c]).run prog w=.ok (.slice (some w.1.size) (l.length+1) cap) w' /\
   bF V sz e B ok w' (.slice (some w.1.size) (l.length+1) cap) (l++[p])/\Below w.1.size w w'/\w.1.size<w'.1.size:=by
 subst a5;subst a9;obtain⟨b,olds,rfl,hb,gR,hf,af,hl⟩:=a7;have hl1:(l++[p]).length=l.length+1:=by simp
 have a8:olds.length=l.length*i0.size:=Flat.length _ _ hf;have hbl:(l.length+1)*i0.bytes<=2000000*1000:=ue Tc1 Hv;have hr:=run_append_grow (P:=prog) w t ty e i0 z hu hi hz ⟨b,0,none⟩ l.length l.length olds a8 (fun j y hy=>by
  rw[iz,eJ];exact af j y hy) ⟨g,0,none⟩ 1 c u Tc1 (fun j y hy=>by
  rw[iz,eJ];exact hc j y hy) Tc1 Tc1 (growslice_fits Tc1 Tc1)
 have jn:Below w.1.size w (w.drew.alloc (.cells (olds.toArray++u.toArray++Builtin.zeroCells z.cells (grownCap w (l.length+1) l.length e-(l.length+1))) e)):=((bj _ _).drew).alloc (bk _) _;have hm:Mv ok ok w (w.drew.alloc (.cells (olds.toArray++u.toArray++Builtin.zeroCells z.cells (grownCap w (l.length+1) l.length e-(l.length+1))) e)):=⟨jn.size,fun b hb gR=>⟨gR,jn.block b hb⟩⟩;have TU:=grownCap_ge w (l.length+1) l.length e;have hcm:grownCap w (l.length+1) l.length e<=maxLen:=grownCap_le_maxLen w _ _ e Tda;have Of:(olds++u).length=(l.length+1)*i0.size:=by rw[cD,a8,ez,Oy];omega
 refine⟨_,_,hr,⟨olds++u,⟨by rw[hl1];exact Of,.inr ⟨w.1.size,_,_,by rw[hl1],hB,b9 w.drew _,by rw[hl1];exact TU,hcm,?_,?_⟩⟩,(Flat.one ez (hV.mv hm ab) ae).append _ _ (Flat.moves hV hm _ _ hf)⟩,jn,Tc2⟩
 ·simp only[Array.size_append,List.size_toArray,size_zeroCells,aa,a8,ez];rw[<- ez,show l.length*u.length+u.length=(l.length+1)*u.length from by rw[Oy];omega,<- Oy,Nat.add_sub_of_le TU]
 simp only[Array.toList_append,cV];rw[<- cV,hl1,<- Of];exact List.take_left
def P8{α:Type}(V:jx α)(sz:Nat)(t:TypeId)(B:Nat)(ok:Nat->Prop)(w:World)(v:Value)(l:List α):Prop:=(iL V sz ok w v l/\∀b,v.ownBlock=some b->b<B)\/bF V sz t B ok w v l
def ownB(B:Nat)(v:Value)(k:Nat):Prop:=v.ownBlock=some k/\B<=k
structure Ad{α:Type}(V:jx α)(sz:Nat)(e:TypeId)(B:Nat)(ok:Nat->Prop)(w:World)(v:Value)(l:List α)(p:α)(gb cap:Nat)(w':World):Prop where
 own:bF V sz e B ok w' (.slice (some gb) (l.length+1) cap) (l++[p])
 mod:cR (ownB B v) w w'
 at':ownB B v gb\/(gb=w.heap.size/\gb<w'.heap.size)
def Aq{V:jx α}(hV:Moves V)(hu:prog.underlying t=some (.slice e))(hi:prog.info? e=some i0)(hz:i0.zero=some z)(a7:i0.size=sz)(a8:i0.bytes=ga)(a9:z.cells.size=sz)(mu:0<sz)(Hv:ga<=1000)
  {w:World} {ops:Array Oper} {rest:List Oper} {o:Oper} {a:Act} {Q:Exit->Act->World->Prop} (ae:o.guard=none) (s x:Operand)
  (ho:o.op=.call { callee:=.builtin .append,args:=#[s,x],argTypes:=#[t,t] })
  (B:Nat) (ok:Nat->Prop) (v:Value) (l:List α) (p:α) (hs:a.eval s=v) (a5:P8 V sz e B ok w v l) (g c:Nat) (u:List Value) (hx:a.eval x=.slice (some g) 1 c)
  (ez:u.length=sz) (aa:V ok w u p) (ab:∀z∈u,z.oneCell'=true) (hc:∀(j:Nat) (y:Value),u[j]?=some y->w.cell? (g,j)=some y) (hl:l.length<=1000000) (hB:B<=w.1.size)
  (gw:∀b,ownB B v b->¬ok b)
  (h:∀gb cap w',Ad V sz e B ok w v l p gb cap w'->wpList prog ops Q rest (a.put o.dst (.slice (some ⟨gb,0,none⟩) (l.length+1) cap)) w'):wpList prog ops Q (o :: rest) a w:=by
 refine wpList_plain ae fun K hK=>?_;rcases a5 with a5|a5
 ·obtain⟨cap,w',hr,h1,h2,h3⟩:=rG (ty:=o.type) hV hu hi hz a7 a8 a9 Hv B ok v l p a5.1 g c u ez aa ab hc hB;unfold Oper.wp execOp;simp only[ho,resolve,invoke,builtin,Sem.run_bind,Sem.run_pure,ud,tS,iu,List.map_nil,hs,hx,hr];exact hK _ _ (h _ cap w' ⟨h1,cR.of_below h2,.inr ⟨rfl,h3⟩⟩)
 have gR:∀b,v.ownBlock=some b->ownB B v b:=fun b e=>⟨e,by obtain⟨cs,ho,_⟩:=a5;exact(ho.lt b e).1⟩
 obtain⟨gb,cap,w',hr,hp⟩:=nS (ty:=o.type) hV hu hi hz a7 a8 a9 mu Hv B ok v l p a5 g c u ez aa ab hc hl hB (fun b e=>gw b (gR b e));unfold Oper.wp execOp;simp only[ho,resolve,invoke,builtin,Sem.run_bind,Sem.run_pure,ud,tS,iu,List.map_nil,hs,hx,hr];refine hK _ _ (h gb cap w' ⟨hp.own,⟨hp.grown.os,hp.grown.tape,hp.grown.output,hp.grown.size,fun k hk hn=>hp.grown.block k hk fun e=>hn (gR k e.symm)⟩,?_⟩);have K2:gb<w'.1.size:=by
  obtain⟨cs,ho,_⟩:=hp.own;exact(ho.lt gb rfl).2
 rcases hp.at' with q|q
 ·exact .inl (gR gb q)
 exact .inr ⟨q,K2⟩
def P8.moves{V:jx α}(hV:Moves V){ok:Nat->Prop}{l:List α}(hm:Mv ok ok' w w')(hk:∀k,ownB B v k->w'.1[k]?=w.1[k]?)(h:P8 V sz t B ok w v l):P8 V sz t B ok' w' v l:=by
 rcases h with⟨h,h2⟩|⟨cs,ho,hf⟩
 ·exact .inl ⟨h.moves hV hm,h2⟩
 exact .inr ⟨cs,aC ho fun k e=>hk k ⟨e,(ho.lt k e).1⟩,Flat.moves hV hm _ _ hf⟩
def P8.rd{V:jx α}{ok:Nat->Prop}{l:List α}(hV:Moves V)(h:P8 V sz t B ok w v l)(mu:0<sz)(gw:∀b,b<w.1.size->ok b->ok' b)(a5:∀b,ownB B v b->ok' b):ck V sz ok' w [v] l:=by
 rcases h with⟨⟨b,olds,rfl,hb,ho,hf,hc,hn⟩,_⟩|h
 ·refine⟨_,l.length,rfl,bk _,?_,fun _=>⟨b,0,rfl,hb,gw b hb ho,fun i x hx=>?_⟩⟩
  ·omega
  obtain⟨u,k1,k2,k3⟩:=Flat.get l olds hf i x hx;exact⟨u,k1,hV.mv ⟨bk _,fun b a7 ho=>⟨gw b a7 ho,rfl⟩⟩ k2,fun j z hz=>by rw[eJ];exact hc _ _ (k3 j z hz)⟩
 exact h.rd hV mu gw fun b e=>a5 b ⟨e,by obtain⟨cs,ho,_⟩:=h;exact(ho.lt b e).1⟩
inductive lD (id:Int)(c:Int):List ByteArray->List Int->List (ByteArray × Int × Int)->List ay->Prop
 |nil:lD id c [] [] [] []
 |snoc {ns:List ByteArray} {ls:List Int} {ps:List (ByteArray × Int × Int)} {vl:List ay} {nm on:ByteArray} {l s:Int} (h:lD id c ns ls ps vl):lD id c (ns++[nm]) (ls++[l]) (ps++[(on,s,l)]) (vl++[eD nm (oX id (c+ns.length+1)) true l on s])
def lD.len{id c:Int}{ns:List ByteArray}{ls:List Int}{ps:List (ByteArray × Int × Int)}(h:lD id c ns ls ps vl):vl.length=ns.length:=by
 induction h with
 |nil=>rfl
 |snoc h ih=>simp[ih]
def FV(X:Nat->Prop)(bs bb:Nat)(nv vv:Value)(g:af)(next:List Int)(names:List ByteArray)(lengths:List Int)(w:World)(e:Ending)(w':World):Prop :=
 (∃(ps:List (ByteArray × Int × Int)) (vl:List ay) (a5:List Int) (pA:Value),e=.returned (.bool true)/\lD g.id g.next names (lengths.take names.length) ps vl/\fZ g.Gb next ps a5 /\
  aH X bs bb nv vv w w' nv pA { g with next:=g.next+names.length,F9:=g.F9++vl } a5) \/
 ∃(j:Nat) (nv' pA:Value),e=.returned (.bool false)/\j<=names.length/\aH X bs bb nv vv w w' nv' pA { g with next:=g.next+j } next
def eW.vForm{next:List Int}(h:eW X w bs bb nv vv g next):∃p cap,vv=.slice p g.F9.length cap/\g.F9.length<=cap/\cap<=9223372036854775807/\(p=none/\cap=0\/∃b,p=some ⟨b,0,none⟩):=by
 obtain⟨cs,⟨_,h2⟩,_⟩:=h.ownV;rcases h2 with⟨rfl,hn⟩|⟨g,cap,a5,rfl,_,_,vr,hcm,_⟩
 ·exact⟨none,0,by rw[hn],Tc1,Tc1,.inl ⟨rfl,rfl⟩⟩
 exact⟨_,cap,rfl,vr,Tdj,.inr ⟨_,rfl⟩⟩
def eW.nForm{next:List Int}(h:eW X w bs bb nv vv g next)(h0:0<next.length):∃b cap,nv=.slice (some ⟨b,0,none⟩) next.length cap/\next.length<=cap/\cap<=9223372036854775807/\bb<b/\b<w.1.size/\ig w b 0 next:=by
 have ho:=h.ownN;rcases ho.2 with⟨rfl,hn⟩|⟨b,cap,a5,rfl,hb,hg,vr,hcm,a7,ht⟩
 ·omega
 refine⟨b,cap,rfl,vr,Tdj,Tc1,(DS.1 hg).1,fun i n hn=>?_⟩;have:=ho.cellAt i (by have:=(AT.1 hn).1;omega);rw[eJ,this];simp[hn]
def eW.c10{next:List Int}(h:eW X w bs bb nv vv g next):w.cell? (Tac bb 10)=some nv:=by
 exact TcD
def TdI{p:Prop}(h:p:=by simp[Value.ownBlock]):p:=h
def CF{o:Oper}{a:Act}{K:Act->World->Prop}{Q:Exit->Act->World->Prop}(s x:Operand)
  (ho:o.op=.call { callee:=.builtin .append,args:=#[s,x],argTypes:=#[22,22] })
  (B:Nat) (m:List Int) (hs:a.eval s=.slice none 0 0) (b c:Nat) (hx:a.eval x=.slice (some b) m.length c) (h0:0<m.length)
  (hc:ig w b 0 m) (hl:m.length<=1000000) (hB:B<=w.1.size)
  (h:∀gb cap w',eG w' B (.slice (some ⟨gb,0,none⟩) m.length cap) m->Below w.1.size w w'->w.1.size<=gb->gb<w'.1.size->m.length<=cap->cap<=9223372036854775807->K (a.put o.dst (.slice (some ⟨gb,0,none⟩) m.length cap)) w'):o.wp prog a w K Q:=by
 obtain⟨i0,hi,du,On,RC⟩:=gg tZ;obtain⟨v',w',hr,h2,h3,h4,h5⟩:=run_append_own_at (P:=prog) w w.1.size 22 o.type 3 i0 _ 1 8 underlying22 hi du On RC rfl Tc4 (.slice none 0 0) 0 [] (gS w _ _ 1) ⟨b,0,none⟩ m.length c (m.map (Bm .i64)) Tc2 (fun j u hu=>by
  rw[iz];obtain⟨n,hn,rfl⟩:∃n,m[j]?=some n/\Bm .i64 n=u:=by simpa using hu
  exact hc j n hn) (fun u hu=>by
   obtain⟨n,_,rfl⟩:=As.1 hu;rfl) Tda Tc1 (bk _)
 rw[eJ,List.nil_append]at h2;have h6:=h2.2;rcases h6 with⟨_,hn⟩|⟨gb,cap,a5,rfl,hb,hg,vr,hcm,a7,ht⟩
 ·omega
 unfold Oper.wp execOp;simp only[ho,resolve,invoke,builtin,Sem.run_bind,Sem.run_pure,ud,tS,iu,List.map_nil,hs,hx,hr];have hlt:=h2.lt gb rfl;exact h gb cap w' (eG.mono h2 hB) ⟨h3.os,h3.tape,h3.output,h3.size,fun k hk=>h3.block k hk TdI⟩ hlt.1 hlt.2 vr Tdj
def ck.form{V:jx α}{ok:Nat->Prop}{l:List α}(h:ck V sz ok w [v] l):∃p cap,v=.slice p l.length cap/\l.length<=cap/\cap<=9223372036854775807/\(0<l.length->∃b off,p=some ⟨b,off,none⟩/\b<w.1.size/\ok b/\oh V sz ok w b off l):=by
 obtain⟨p,cap,e,h1,h2,h3⟩:=h;injection e with e;exact⟨p,cap,e,h1,h2,h3⟩
def vg{N' cap:Nat}{xs:List Value}(h:w.ownsRow B t sz (.slice p N cap) N' xs)(n0:Nat)(hn:n0<=N'):w.ownsRow B t sz (.slice p n0 cap) n0 (xs.take (n0*sz)):=by
 obtain⟨h1,h2⟩:=h;have hle:n0*sz<=N'*sz:=tA _ hn;refine⟨by rw[ey,h1];omega,?_⟩;rcases h2 with⟨e,hz⟩|⟨g,a5,a7,e,hb,hg,vr,hcm,a8,ht⟩
 ·injection e with e1 e2 e3;subst hz;obtain rfl:n0=0:=by omega
  exact .inl ⟨by rw[e1,e3],rfl⟩
 injection e with e1 e2 e3;subst e3;refine .inr ⟨g,cap,a7,by rw[e1],hb,hg,Tc1,hcm,a8,?_⟩;rw[<- ht,List.take_take,Nat.min_eq_left hle]
def Flat.takeL{V:jx α}{ok:Nat->Prop}{m:List α}:∀(l:List α) (cs:List Value),Flat V sz ok w cs (l++m)->Flat V sz ok w (cs.take (l.length*sz)) l
 |[],cs,_=>by simp[Flat]
 |x :: l,cs,⟨u,r,e,h1,h2,h3,h4⟩=>by
  refine⟨u,r.take (l.length*sz),?_,h1,h2,h3,Flat.takeL l r h4⟩;rw[e,cS,Oy,Nat.one_mul,List.take_append,h1,jz Tc1,show l.length*sz+sz-sz=l.length*sz by omega]
def aH.restore{Y:Nat->Prop}{w0:World}{gb n0 cap c:Nat}{rK rN:Value}{v0:List ay}{next a5:List Int}(h:aH Y bs bb rK rN w0 w nv (.slice p N cap) g next)(hv:g.F9=v0++vl)(hn:v0.length=n0)
  (ho:eG w (bb+1) (.slice (some gb) a5.length c) a5) (TV:∀k,X k->Y k) (U5:Y gb) (QR:¬X gb) (a8:w0.1.size<=gb) :
  aH X bs bb rK rN w0 ((w.setCell (Tac bb 8) (.slice p n0 cap)).setCell (Tac bb 10) (.slice (some gb) a5.length c)) (.slice (some gb) a5.length c) (.slice p n0 cap) { g with F9:=v0 } a5:=by
 have hb:=h.bld;have hbl:=hb.Gj;have hlt:=hb.lt;generalize a7:(w.setCell (Tac bb 8) (.slice p n0 cap)).setCell (Tac bb 10) (.slice (some gb) a5.length c)=w';have hk:∀k,k≠bb->w'.1[k]?=w.1[k]?:=fun k hk=>by rw[<- a7,bw _ _ _ _ hk,bw _ _ _ _ hk]
 have hz:w'.1.size=w.1.size:=by rw[<- a7];simp[AF]
 have gR:∀k,(Value.slice p n0 cap).ownBlock=some k->(Value.slice p N cap).ownBlock=some k:=fun k e=>by
  cases p with
  |none=>cases e
  |some a=>exact e
 have hgb:=hb.xlt gb U5;have gw:∀b,okB Y bb nv (.slice p N cap) b->okB X bb (.slice (some gb) a5.length c) (.slice p n0 cap) b:=fun b ho=>⟨ho.1,fun e=>ho.2.2.2 (by injection e with e;exact e ▸ U5),fun e=>ho.2.2.1 (gR b e),fun hx=>ho.2.2.2 (TV b hx)⟩
 have hm:Mv (okB Y bb nv (.slice p N cap)) (okB X bb (.slice (some gb) a5.length c) (.slice p n0 cap)) w w':=⟨Tc1,fun b _ ho=>⟨gw b ho,hk b TdB⟩⟩;refine⟨⟨hb.src.keep fun i hi=>hk i Tc1,hlt,?_,?_,?_,fun k e e'=>?_,fun k hx=>⟨(hb.xlt k (TV k hx)).1,by rw[hz];exact(hb.xlt k (TV k hx)).2⟩,fun k e hx=>?_,fun k e hx=>hb.xv k (gR k e) (TV k hx)⟩,?_,fun k e=>.inr ?_,fun k e=>h.vfr k (gR k e)⟩
 ·obtain⟨tv,dv,hv,e,h1,h2,h3⟩:=hb.blk;refine⟨tv,dv,hv,?_,(ck.moves aF.moves).mv hm h1,(ck.moves aO.moves).mv hm h2,h3⟩;rw[<- a7];exact block_setCell (cs:=#[_,_,_,_,_,_,_,_,_,_,_]) (i:=10) _ (block_setCell (cs:=#[_,_,_,_,_,_,_,_,_,_,_]) (i:=8) _ e)
 ·exact aC ho fun k e=>hk k (by injection e with e;have e':gb=k:=e;omega)
 ·obtain⟨cs,hr,hf⟩:=hb.ownV;rw[hv]at hr hf;refine⟨cs.take (n0*6),?_,?_⟩
  ·show w'.ownsRow (bb+1) _ 6 (.slice p n0 cap) v0.length _;rw[hn];refine aC (w:=w) (vg hr n0 (by rw[cD];omega)) fun k e=>hk k ?_;have:=hb.vLt (gR k e);omega
  have:=Flat.takeL v0 cs hf;rw[hn]at this;exact Flat.moves aN.moves hm _ _ this
 ·have e1:gb=k:=by injection e
  subst e1;exact hb.xv gb (gR gb e') U5
 ·have e1:gb=k:=by injection e
  subst e1;exact QR hx
 ·rw[<- a7];exact(h.mod.setCell (p:=⟨bb,8,none⟩) (.inl (.inr (.inl rfl))) _).setCell (p:=⟨bb,10,none⟩) (.inl (.inr (.inl rfl))) _
 have e1:gb=k:=by injection e
 omega
def zi(X:Nat->Prop)(bs bb:Nat)(nv vv:Value)(g:af)(next:List Int)(w:World)(h:eW X w bs bb nv vv g next)(hk:BOk g next)(ft fx:Value)(names:List ByteArray)(lengths:List Int)
  (ak:ck aF 1 X w [ft] names) (U6:ck cO 1 X w [fx] lengths) (zr:names.length<=lengths.length) (aI:names.length<=8) (aJ:lengths.length<=8) (ae:∀l∈lengths,1<=l/\l<=1000) (mb:g.F9.length<=40) (aK:g.next<=1000) :
  Calls prog 55 #[.pointer (some bb),ft,fx] w (FV X bs bb nv vv g next names lengths w):=by
 have k0:=hk.n0;have k1:=hk.n1;have k2:=hk.dk.pos;have k3:=hk.dk.le;have aM:0<next.length:=by rw[hk.dk.len];omega
 have aN:next.length<=8:=by rw[hk.dk.len];omega
 have c8:=h.c8;have c10:=h.c10;have cX:=h.Gj;obtain⟨vp,a8,rfl,v1,v2,v3⟩:=h.vForm;obtain⟨nb,ki,rfl,n1,n2,n3,n4,n5⟩:=h.nForm Tc1;replace n5:=aa n5;obtain⟨np,X8,rfl,a1,a2,a3⟩:=ak.form;obtain⟨lp,X9,rfl,b1,b2,b3⟩:=U6.form;replace a3:=aa a3;clear ak;replace b3:=aa b3;clear U6;replace ae:=aa ae;replace v3:=aa v3;go_enter func55,ntmps55;go_wp2;refine aL (fun w'=>w'.cell? (Tac bb 8)=some (.slice vp g.F9.length a8)/\w'.cell? (Tac bb 10)=some (.slice (some nb) next.length ki)) 11 [0,1,2,3,6,7,8] Tc3 ⟨c8,c10⟩ (fun a7=>?_);refine fz 0 ?_;refine fz 1 ?_;refine fz 2 ?_;refine fz 3 ?_;refine fz 6 ?_;refine fz 7 ?_;refine fz 8 ?_;refine fS 4 a7 ?_;refine fS 9 a7 ?_;refine fS 5 a7 ?_;refine lR 10 fun K hK=>?_;refine CF _ _ rfl (bb+1) next Tc7 nb ki Tc7 Tc1 n5.o Tc1 cX (fun gb cap w1 ag a9 am av aO zc=>?_);refine hK.o _ _ ⟨(a9.cell (p:=⟨bb,8,none⟩) cX).trans c8,(a9.cell (p:=⟨bb,10,none⟩) cX).trans c10⟩ ?_;clear hK K;refine aP Tc3 rfl ?_;simp only[cQ,cL,Act.put,xT];go_wp2;have On:=a9.size
 have P1:aH (fD X gb) bs bb (.slice (some nb) next.length ki) (.slice vp g.F9.length a8) w w1 (.slice (some nb) next.length ki) (.slice vp g.F9.length a8) g next:=((aH.refl h).drewN 1).fresh a9 (by
  rintro k (q|rfl)
  ·exact .inl q
  exact .inr ⟨am,av⟩)
 replace ag:=aa ag;have U7:w.1.size<=gb:=am;have QR:¬X gb:=fun q=>by have:=(h.xlt gb q).2;omega
 go_loopw[9] (fun i wr=>∃(k:Nat) (ps:List (ByteArray × Int × Int)) (vl:List ay) (a5:List Int) (pA:Value),k<=names.length/\i=.int .i64 k/\lD g.id g.next (names.take k) (lengths.take k) ps vl/\fZ g.Gb next ps a5 /\
   aH (fD X gb) bs bb (.slice (some nb) next.length ki) (.slice vp g.F9.length a8) w wr (.slice (some nb) next.length ki) pA { g with next:=g.next+k,F9:=g.F9++vl } a5/\wr.1[gb]?=w1.1[gb]?) (fun i _=>names.length-(intOf i).toNat)
 case atStart =>
  refine⟨0,[],[],next,.slice vp g.F9.length a8,Tc1,rfl,.nil,.nil _,?_,rfl⟩;simpa using P1
 obtain⟨k,ps,vl,a5,pA,Vk,rfl,Yb,DB,P,hgb⟩:=hrel;have dk:=DB.ok hk.dk;replace Yb:=aa Yb;replace hgb:=aa hgb;have aQ:vl.length<=8:=by have:=Yb.o.len;rw[ey]at this;omega
 have aw:BOk { g with next:=g.next+k,F9:=g.F9++vl } a5:=⟨dk,Tc6,Tc6,Tc6⟩
 obtain⟨az,ah,rfl,aA,aR,ab⟩:=P.bld.vForm;replace ab:=aa ab;have d8:=P.bld.c8;have aS:(g.F9++vl).length<=48:=by rw[cD];omega
 simp only at d8 aA P;generalize hM:(g.F9++vl).length=M at *;replace hM:=aa hM;have ao:eG wr (bb+1) (.slice (some gb) next.length cap) next:=aC ag.o fun q e=>by
  have e1:gb=q:=by injection e
  subst e1;exact hgb.o
 by_cases hlt:k<names.length
 ·by_cases h31:31<=M
  ·have aB:decide ((31:Int)<=(M:Int))=true:=by simp;omega
   obtain⟨vb,rfl⟩:∃b,az=some ⟨b,0,none⟩:=ab.o.resolve_left (fun q=>by omega);have ZZ:g.F9.length<=M:=by rw[<- hM.o,cD];omega
   have z1:(0:Int)<=(g.F9.length:Int):=by omega
   have z2:(g.F9.length:Int)<=(ah:Int):=by omega
   have Z0:=P.bld.bfr 8;have U9:=P.bld.bfr 10;have Va:=P.bld.c10;go_wp2;go_quiet (fail);go_wp2;go_ret;exact .inr ⟨k,_,_,rfl,Tc1,(P.drewN nq).restore rfl rfl ao (fun q hq=>.inl hq) (.inr rfl) QR U7⟩
  have aB:decide ((31:Int)<=(M:Int))=false:=by simp;omega
  obtain⟨Lk,aq,rfl,Z2,Z3,Yd⟩:=a3.o Tc1;obtain⟨ai,au,rfl,Z4,Z5,Ye⟩:=b3.o Tc1;obtain⟨nm,pD⟩:=aj names k hlt;obtain⟨ln,TW⟩:=aj lengths k Tc1;have Vb:=ae.o ln (ct TW);have Z6:wr.cell? (Lk,aq+k)=some (.string nm):=by
   obtain⟨u,_,hu,hc⟩:=Yd k nm pD;have:=hc 0 (.string nm) (by rw[hu];rfl);rw[(cd (w:=w) (P.mod.block Lk Z2 (h.xfp Z3)):wr.cell? (Lk,aq+k)=_)];simpa using this
  have aD:wr.cell? (ai,au+k)=some (.int .i64 ln):=by
   obtain⟨u,_,hu,hc⟩:=Ye k ln TW;have:=hc 0 (.int .i64 ln) (by rw[hu];rfl);rw[(cd (w:=w) (P.mod.block ai Z4 (h.xfp Z5)):wr.cell? (ai,au+k)=_)];simpa using this
  clear Yd Ye;replace pD:=aa pD;replace TW:=aa TW;have z1:(0:Int)<=(k:Int):=by omega
  have z2:(k:Int)<(names.length:Int):=by omega
  have z3:(k:Int)<(lengths.length:Int):=by omega
  go_wp2;(refine il 18 Tc3 Tc3 ?_;simp only[xi,iv,cQ,cL];(repeat(go_big_quiet_step (fail)));(with_reducible refine fR ?_);intro wq ia;obtain⟨nq,ia⟩:=ia;subst ia)
  go_wp2_with fail;refine(qw (fD X gb) bs bb _ _ _ a5 _ (P.drewN nq).bld aw nm true k ln Tc1 Vb.1 Tc1).mono ?_;rintro e w2 (⟨rfl,R⟩|⟨on,s,nx,OJ,hT,rfl,R,_⟩)
  ·have R2:=(P.drewN nq).trans R;have zc:eG w2 (bb+1) (.slice (some gb) next.length cap) next:=aC (w:=wr.drewN nq) ao fun q e=>by
    have e1:gb=q:=by injection e
    subst e1;exact R.loc (P.drewN nq).bld (.inr rfl)
   have ZZ:g.F9.length<=M:=by rw[<- hM.o,cD];omega
   have Z0:=R2.bld.bfr 8;have U9:=R2.bld.bfr 10;have Va:=R2.bld.c10;have aT:=R2.bld.c8;clear Z6 aD d8 c8 c10;rcases ab.o with⟨rfl,hc0⟩|⟨vb,rfl⟩
   ·subst hc0;have aE:M=0:=by omega
    subst aE;have aG:g.F9.length=0:=by omega
    have z4:(0:Int)<=(g.F9.length:Int):=by omega
    go_wp2;go_ret;refine .inr ⟨k+1,.slice (some gb) next.length cap,.slice none 0 0,rfl,Tc1,?_⟩;have:=R2.restore (X:=X) (v0:=g.F9) (vl:=vl) rfl aG zc (fun q hq=>.inl hq) (.inr rfl) QR U7;rw[show g.next+((k+1:Nat):Int)=g.next+k+1 by omega];exact this
   have z4:(0:Int)<=(g.F9.length:Int):=by omega
   have z5:(g.F9.length:Int)<=(ah:Int):=by omega
   go_wp2;go_ret;refine .inr ⟨k+1,.slice (some gb) next.length cap,.slice (some vb) g.F9.length ah,rfl,Tc1,?_⟩;have:=R2.restore (X:=X) (v0:=g.F9) (vl:=vl) rfl rfl zc (fun q hq=>.inl hq) (.inr rfl) QR U7;rw[show g.next+((k+1:Nat):Int)=g.next+k+1 by omega];exact this
  go_wp2;go_roundw
  case rel =>
   refine⟨k+1,ps++[(on,s,ln)],vl++[eD nm (oX g.id (g.next+k+1)) true ln on s],nx,OJ,Tc1,Tc5,?_,DB.trans hT,?_,(R.loc (P.drewN nq).bld (.inr rfl)).trans hgb.o⟩
   ·rw[take_snoc' _ _ _ pD.o,take_snoc' _ _ _ TW.o];have:=lD.snoc (nm:=nm) (on:=on) (l:=ln) (s:=s) Yb.o;rw[ey,Nat.min_eq_left Tc1]at this;exact this
   rw[show g.next+((k+1:Nat):Int)=g.next+k+1 by omega,<- cV];exact(P.drewN nq).trans R
  simp[intOf];omega
 obtain rfl:k=names.length:=by omega
 go_wp2;go_ret;refine .inl ⟨ps,vl,a5,_,rfl,?_,DB,P.fewer (fun q hq=>.inl hq)⟩;have:=Yb.o;rw[cI]at this;exact this
def aV(start n kind:Int)(Ga:List aR)(done:Int):aB:=⟨start,n,kind,Ga,0,[],es,es,0,0,done⟩
def bg(l:List aB):Int:=(l.map (·.length)).sum
def iG(x:aB):List (ByteArray × Int × Int):=if x.kind=1\/x.kind=8 then x.Ga.map fun a=>(a.on,a.start,x.length) else []
inductive fB (l:List aB):List aB->Prop
 |nil:fB l l
 |void {l':List aB} {n kind:Int} (h:fB l l') (hn:1<=n/\n<=3) (hk:kind=9\/kind=10):fB l (l'++[aV (bg l') n kind [] 0])
 |lin {l':List aB} {n s:Int} {on:ByteArray} (h:fB l l') (hn:1<=n/\n<=3):fB l (l'++[aV (bg l') n 1 [⟨false,on,s⟩] 0])
 |move {l':List aB} {n s s' dn:Int} {on on':ByteArray} (h:fB l l') (hn:1<=n/\n<=3) (hd:0<=dn/\dn<=n):fB l (l'++[aV (bg l') n 8 [⟨false,on,s⟩,⟨false,on',s'⟩] dn])
def TcI{p:Prop}(h:p:=by
 obtain⟨cs,ho,_⟩:=h;exact ho.lt k e):p:=h
def bF.ge0{V:jx α}{ok:Nat->Prop}{l:List α}(h:bF V sz t B ok w v l){k:Nat}(e:v.ownBlock=some k):B<=k/\k<w.1.size:=by
 exact TcI
def eO(X:Nat->Prop)(Lv:Nat)(sv:Value):Nat->Prop:=fun k=>X k\/k=Lv\/k=Lv+1\/ownB (Lv+1+1) sv k
structure T8(X:Nat->Prop)(bs bb:Nat)(nv vv:Value)(g:af)(next:List Int)(w0:World)(Lv:Nat)(cs:Value->Array Value)(l0:List aB)(sv:Value)(Gf:List aB)(ps:List (ByteArray × Int × Int))(nx:List Int)(w:World):Prop where
 post:aH (eO X Lv sv) bs bb nv vv w0 w nv vv g nx
 bv:w.heap[Lv]?=some (.cells (cs sv) 68 (0,0))
 br:∃zs:Array Value,zs.size=6/\w.heap[Lv+1]?=some (.cells zs 68 (0,0))
 st:P8 bC 11 114 (Lv+1+1) (okB (eO X Lv sv) bb nv vv) w sv Gf
 more:fB l0 Gf
 took:fZ g.Gb next ps nx
 sub:List.Sublist ((Gf.drop l0.length).flatMap iG) ps
 len:∀x∈Gf,0<=x.length/\x.length<=1000
 lv:w0.heap.size<=Lv
 hB:Lv+1+1<=w.heap.size
section
variable {X:Nat->Prop}{bs bb:Nat}{nv vv:Value}{g:af}{next:List Int}{w0 w w':World}{Lv:Nat}{cs:Value->Array Value}{l0 Gf:List aB}{sv:Value}{ps ps':List (ByteArray × Int × Int)}{nx nx':List Int}
def T8.step(h:T8 X bs bb nv vv g next w0 Lv cs l0 sv Gf ps nx w)(q:aH (eO X Lv sv) bs bb nv vv w w' nv vv g nx')(ht:fZ g.Gb nx ps' nx'):T8 X bs bb nv vv g next w0 Lv cs l0 sv Gf (ps++ps') nx' w':=by
 obtain⟨zs,hz,hr⟩:=h.br;exact⟨h.post.trans q,(q.loc h.post.bld (.inr (.inl rfl))).trans h.bv,⟨zs,hz,(q.loc h.post.bld (.inr (.inr (.inl rfl)))).trans hr⟩,h.st.moves bC.moves ⟨q.mod.size,fun b hb ho=>⟨ho,q.loc' h.post.bld ho hb⟩⟩ (fun k hk=>q.loc h.post.bld (.inr (.inr (.inr hk)))),h.more,h.took.trans ht,h.sub.trans (List.sublist_append_left _ _),h.len,h.lv,cA h.hB q.mod.size⟩
def T8.below(h:T8 X bs bb nv vv g next w0 Lv cs l0 sv Gf ps nx w)(hb:Below w.1.size w w'):T8 X bs bb nv vv g next w0 Lv cs l0 sv Gf ps nx w':=by
 have:=h.step ((aH.refl h.post.bld).after hb) (.nil _);simpa using this
def T8.read(h:T8 X bs bb nv vv g next w0 Lv cs l0 sv Gf ps nx w)(hs:Src w' bs)(hm:cR (fun i=>i=bs) w w'):T8 X bs bb nv vv g next w0 Lv cs l0 sv Gf ps nx w':=by
 have:=h.step (h.post.bld.readPost hs hm) (.nil _);simpa using this
def T8.fresh(h:T8 X bs bb nv vv g next w0 Lv cs l0 sv Gf ps nx w)(o:Obj):T8 (fD X w.1.size) bs bb nv vv g next w0 Lv cs l0 sv Gf ps nx (w.alloc o):=by
 have hb:=ae w o;have a5:Lv<w.1.size:=by have:=h.hB;omega
 obtain⟨zs,hz,hr⟩:=h.br;refine⟨h.post.fresh hb (fun k hk=>?_),(hb.block Lv a5).trans h.bv,⟨zs,hz,(hb.block (Lv+1) (by have:=h.hB;omega)).trans hr⟩,h.st.moves bC.moves ⟨hb.size,fun b a7 ho=>⟨⟨ho.1,ho.2.1,ho.2.2.1,fun q=>?_⟩,hb.block b a7⟩⟩ (fun k hk=>hb.block k (h.post.bld.xlt k (.inr (.inr (.inr hk)))).2),h.more,h.took,h.sub,h.len,h.lv,cA h.hB hb.size⟩
 ·rcases hk with(q|rfl)|q
  ·exact .inl (.inl q)
  ·exact .inr ⟨bk _,Tc2⟩
  exact .inl (.inr q)
 rcases q with(q|rfl)|q
 ·exact ho.2.2.2 (.inl q)
 ·omega
 exact ho.2.2.2 (.inr q)
def T8.drop{L:Nat}(h:T8 (fD X L) bs bb nv vv g next w0 Lv cs l0 sv Gf ps nx w):T8 X bs bb nv vv g next w0 Lv cs l0 sv Gf ps nx w:=by
 have hY:∀k,eO X Lv sv k->eO (fD X L) Lv sv k:=fun k q=>q.imp (fun q=>.inl q) id;exact⟨h.post.fewer hY,h.bv,h.br,h.st.moves bC.moves ⟨bk _,fun b _ ho=>⟨⟨ho.1,ho.2.1,ho.2.2.1,fun q=>ho.2.2.2 (hY b q)⟩,rfl⟩⟩ (fun _ _=>rfl),h.more,h.took,h.sub,h.len,h.lv,h.hB⟩
def Tej{p:Prop}(h:p:=by rw[hz];exact h.hB):p:=h
def T8.put{L:Nat}(h:T8 (fD X L) bs bb nv vv g next w0 Lv cs l0 sv Gf ps nx w)(hL:Lv+1+1<=L)(hsv:sv.ownBlock≠some L)(i:Nat)(u:Value):T8 (fD X L) bs bb nv vv g next w0 Lv cs l0 sv Gf ps nx (w.setCell (L,i) u):=by
 have kk:∀k,k≠L->(w.setCell (L,i) u).1[k]?=w.1[k]?:=fun k e=>bw _ _ _ _ e;have hz:(w.setCell (L,i) u).1.size=w.1.size:=by simp[AF]
 obtain⟨zs,a5,hr⟩:=h.br;exact⟨h.post.put L i u (.inl (.inr rfl)) (by have:=h.lv;omega),(kk Lv Tc1).trans h.bv,⟨zs,a5,(kk (Lv+1) Tc1).trans hr⟩,h.st.moves bC.moves ⟨Tc1,fun b _ ho=>⟨ho,kk b (fun e=>ho.2.2.2 (.inl (.inr e)))⟩⟩ (fun k hk=>kk k (fun e=>hsv (e ▸ hk.1))),h.more,h.took,h.sub,h.len,h.lv,Tej⟩
def T8.svLt(h:T8 X bs bb nv vv g next w0 Lv cs l0 sv Gf ps nx w){k:Nat}(e:sv.ownBlock=some k):k<w.1.size:=by
 rcases h.st with⟨⟨b,olds,rfl,hb,_⟩,_⟩|ho
 ·obtain rfl:b=k:=by injection e
  exact hb
 exact(ho.ge0 e).2
def TeG{p:Prop}(h:p:=by have:=(ho.lt k e).1;omega):p:=h
def T8.push{w1 w2:World}{x:aB}{gb cap:Nat}(h:T8 X bs bb nv vv g next w0 Lv cs l0 sv Gf ps nx w)(hb:Below w.1.size w w1)
  (hp:Ad bC 11 114 (Lv+1+1) (fun b=>okB (eO X Lv sv) bb nv vv b/\b<w.1.size) w1 sv Gf x gb cap w2) (hm:fB l0 (Gf++[x])) (hs:List.Sublist (((Gf++[x]).drop l0.length).flatMap iG) ps) (hx:0<=x.length/\x.length<=1000)
  (a8:∀u v,(cs u).setIfInBounds 5 v=cs v):T8 X bs bb nv vv g next w0 Lv cs l0 (.slice (some gb) (Gf.length+1) cap) (Gf++[x]) ps nx (w2.setCell (Tac Lv 5) (.slice (some gb) (Gf.length+1) cap))/\w2.1[Lv]?=some (.cells (cs sv) 68 (0,0)):=by
 have h1:=h.below hb;have a5:=h.lv;have hB:=h.hB;have hz:=hb.size;have RC:=hp.mod.size;have kk:∀k,k≠Lv->(w2.setCell (Tac Lv 5) (.slice (some gb) (Gf.length+1) cap)).1[k]?=w2.1[k]?:=fun k e=>bw _ _ _ _ e;have a7:(w2.setCell (Tac Lv 5) (.slice (some gb) (Gf.length+1) cap)).1.size=w2.1.size:=by simp[AF]
 have Yf:w2.1[Lv]?=some (.cells (cs sv) 68 (0,0)):=(hp.mod.block Lv Tc1 (fun q=>by have:=q.2;omega)).trans h1.bv;have hg:=hp.own.ge0 (k:=gb) rfl;have hY:∀k,eO X Lv (.slice (some gb) (Gf.length+1) cap) k->eO X Lv sv k\/(w1.1.size<=k/\k<w2.1.size):=by
  rintro k (q|q|q|q)
  ·exact .inl (.inl q)
  ·exact .inl (.inr (.inl q))
  ·exact .inl (.inr (.inr (.inl q)))
  obtain rfl:gb=k:=by injection q.1
  rcases hp.at' with q|q
  ·exact .inl (.inr (.inr (.inr q)))
  exact .inr ⟨Tc1,q.2⟩
 refine⟨⟨h1.post.move (((hp.mod.mono (G:=fun k=>eO X Lv sv k/\w0.1.size<=k) (fun k q=>⟨.inr (.inr (.inr q)),by have:=q.2;omega⟩))).setCell (p:=⟨Lv,5,none⟩) (.inl ⟨.inr (.inl rfl),a5⟩) _) (fun k hk=>(hY k hk).imp id (fun q=>by rw[a7];exact q)),?_,?_,.inr ?_,hm,h.took,hs,fun y hy=>?_,a5,by rw[a7];omega⟩,Yf⟩
 ·rw[<- a8 sv];exact block_setCell (i:=5) _ Yf
 ·obtain⟨zs,a9,hr⟩:=h1.br;exact⟨zs,a9,(kk (Lv+1) Tc1).trans ((hp.mod.block (Lv+1) Tc1 (fun q=>by have:=q.2;omega)).trans hr)⟩
 ·obtain⟨cl,ho,hf⟩:=hp.own;refine⟨cl,aC ho fun k e=>kk k TeG,Flat.moves bC.moves ⟨Tc1,fun b _ ho=>⟨⟨ho.1.1,ho.1.2.1,ho.1.2.2.1,fun q=>?_⟩,kk b (fun e=>ho.1.2.2.2 (.inr (.inl e)))⟩⟩ _ _ hf⟩;rcases hY b q with q|q
  ·exact ho.1.2.2.2 q
  have:=ho.2;omega
 rcases AS.1 hy with q|q
 ·exact h.len y q
 simp only[dr,cY,dg]at q;rw[q];exact hx
end
variable {P:Program}{ops:Array Oper}{Q:Exit->Act->World->Prop}{a:Act}{w:World}{md:Region.Mode}{S:World->Prop}{N:Nat->Bool}{fuel i j:Nat}{listed:Array Bool}{o':Oper}
def FT(X:Nat->Prop)(bs bb:Nat)(nv vv:Value)(g:af)(next:List Int)(name:ByteArray)(id:Int)(hidden ro:Bool)(tv:Value)(x0:aB)(w:World)(e:Ending)(w':World):Prop :=
 ∃(sv:Value) (Gf:List aB) (ps:List (ByteArray × Int × Int)) (a5:List Int),e=.returned (.agg #[name,.int .u64 id,hidden,ro,tv,sv])/\fB [x0] Gf/\Gf.length<=3/\fZ g.Gb next ps a5/\List.Sublist ((Gf.drop 1).flatMap iG) ps /\
  aH X bs bb nv vv w w' nv vv g a5/\ck bC 11 (okB X bb nv vv) w' [sv] Gf
def kW{id:Nat}(S:World->Prop)(N:Nat->Bool)(hm:P.follows .mixedOrders=true)(hS:S w.drew)
  (h:S w.drew->bG P .any ops Q S N ops.size (GO ops.size false) a w.drew):(Code.region id ops true).wp P Q a w :=
 wp_region_any hm (mF _ _ _ _ (h hS))
def eB{l:List Oper}(m:Nat)(hN:∀t,m<=t->N t=false)(hB:Is md l.toArray (l.toArray.size-m) m listed=true)(hf:fuel=(l.drop m).length)(h:wpList P l.toArray Q (l.drop m) a w):bG P md l.toArray Q S N fuel listed a w:=by
 rw[hf];exact gM (l.drop m) m listed a w hN (fun j=>by simp[pk]) (by simpa using hB) h
def ja{o:Oper}(hi:ops[i]?=some o)(hg:o.guard=none)(hj:ops[j]?=some o')(a5:o'.guard=none)(hr:BE md ops listed=[i,j])
  (h1:∀K:Act->World->Prop,Hid (∀a' w',(N i=true->S w')->bG P md ops Q S N fuel (listed.setIfInBounds i true) a' w'->K a' w')->o.wp P a w K Q)
  (h2:∀K:Act->World->Prop,Hid (∀a' w',(N j=true->S w')->bG P md ops Q S N fuel (listed.setIfInBounds j true) a' w'->K a' w')->o'.wp P a w K Q):bG P md ops Q S N (fuel+1) listed a w:=by
 refine⟨fun h0=>TdA,fun k hk=>?_⟩;rw[hr]at hk;simp only[dr,cY,dg]at hk;rcases hk with rfl|rfl
 ·have hw:By o (yielded ops a.tmps)=true:=by simp[By,hg]
  unfold wpOp;simp only[hi,hw,ej];exact .inl (h1 _ (aa fun a' w' q1 q2=>⟨q1,q2⟩))
 have hw:By o' (yielded ops a.tmps)=true:=by simp[By,a5]
 unfold wpOp;simp only[hj,hw,ej];exact .inl (h2 _ (aa fun a' w' q1 q2=>⟨q1,q2⟩))
def bS{o:Oper}(hi:ops[i]?=some o)(hg:o.guard=none)(hr:BE md ops listed=[i])
  (h:∀K:Act->World->Prop,Hid (∀a' w',(N i=true->S w')->bG P md ops Q S N fuel (listed.setIfInBounds i true) a' w'->K a' w')->o.wp P a w K Q):bG P md ops Q S N (fuel+1) listed a w:=by
 refine⟨fun h0=>TdA,fun k hk=>?_⟩;rw[hr]at hk;obtain rfl:k=i:=by simpa using hk
 have hw:By o (yielded ops a.tmps)=true:=by simp[By,hg]
 unfold wpOp;simp only[hi,hw,ej];exact .inl (h _ (aa fun a' w' q1 q2=>⟨q1,q2⟩))
def Tco{p:Prop}(h:p:=by
 unfold wpOp;simp only[hi,hw,ej];exact .inl (h1 _ (aa fun a' w' q1 q2=>⟨fun _=>q1,q2⟩))):p:=h
def mh{o:Oper}(hi:ops[i]?=some o)(hg:o.guard=none)(hj:ops[j]?=some o')(a5:o'.guard=none)(hr:BE md ops listed=[i,j])
  (h1:∀K:Act->World->Prop,Hid (∀a' w',S w'->bG P md ops Q S N fuel (listed.setIfInBounds i true) a' w'->K a' w')->o.wp P a w K Q)
  (h2:∀K:Act->World->Prop,Hid (∀a' w',S w'->bG P md ops Q S N fuel (listed.setIfInBounds j true) a' w'->K a' w')->o'.wp P a w K Q):bG P md ops Q S N (fuel+1) listed a w:=by
 refine⟨fun h0=>TdA,fun k hk=>?_⟩;rw[hr]at hk;simp only[dr,cY,dg]at hk;rcases hk with rfl|rfl
 ·have hw:By o (yielded ops a.tmps)=true:=by simp[By,hg]
  exact Tco
 have hw:By o' (yielded ops a.tmps)=true:=by simp[By,a5]
 unfold wpOp;simp only[hj,hw,ej];exact .inl (h2 _ (aa fun a' w' q1 q2=>⟨fun _=>q1,q2⟩))
structure fw(X:Nat->Prop)(bs bb:Nat)(nv vv:Value)(g:af)(next:List Int)(w0:World)(Lv:Nat)(cs:Value->Array Value)(l0:List aB)(sv:Value)(Gf:List aB)(ps:List (ByteArray × Int × Int))(nx:List Int)(L:Nat)(xs:Array Value)(w:World):Prop where
 m:T8 X bs bb nv vv g next w0 Lv cs l0 sv Gf ps nx w
 lx:w.heap[L]?=some (.cells xs 114 (0,0))
 xl:X L
section
variable {X:Nat->Prop}{bs bb:Nat}{nv vv:Value}{g:af}{next:List Int}{w0 w w':World}{Lv L A:Nat}{cs:Value->Array Value}{l0 Gf:List aB}{sv:Value}{ps ps':List (ByteArray × Int × Int)}{nx nx':List Int}{xs:Array Value}
def fw.step(h:fw X bs bb nv vv g next w0 Lv cs l0 sv Gf ps nx L xs w)(q:aH (eO X Lv sv) bs bb nv vv w w' nv vv g nx')(ht:fZ g.Gb nx ps' nx'):fw X bs bb nv vv g next w0 Lv cs l0 sv Gf (ps++ps') nx' L xs w' :=
 ⟨h.m.step q ht,(q.loc h.m.post.bld (.inl h.xl)).trans h.lx,h.xl⟩
def fw.below(h:fw X bs bb nv vv g next w0 Lv cs l0 sv Gf ps nx L xs w)(hb:Below w.1.size w w'):fw X bs bb nv vv g next w0 Lv cs l0 sv Gf ps nx L xs w':=⟨h.m.below hb,(hb.block L (aq h.lx)).trans h.lx,h.xl⟩
def fw.read(h:fw X bs bb nv vv g next w0 Lv cs l0 sv Gf ps nx L xs w)(hs:Src w' bs)(hm:cR (fun i=>i=bs) w w'):fw X bs bb nv vv g next w0 Lv cs l0 sv Gf ps nx L xs w' :=
 ⟨h.m.read hs hm,((h.m.post.bld.readPost hs hm).loc h.m.post.bld (.inl h.xl)).trans h.lx,h.xl⟩
def fw.fresh(h:fw X bs bb nv vv g next w0 Lv cs l0 sv Gf ps nx L xs w)(o:Obj):fw (fD X w.1.size) bs bb nv vv g next w0 Lv cs l0 sv Gf ps nx L xs (w.alloc o) :=
 ⟨h.m.fresh o,(cj _ _ _ (aq h.lx)).trans h.lx,.inl h.xl⟩
def fw.put(h:fw (fD X A) bs bb nv vv g next w0 Lv cs l0 sv Gf ps nx L xs w)(hA:Lv+1+1<=A)(hsv:sv.ownBlock≠some A)(hne:L≠A)(i:Nat)(u:Value):fw (fD X A) bs bb nv vv g next w0 Lv cs l0 sv Gf ps nx L xs (w.setCell (A,i) u) :=
 ⟨h.m.put hA hsv i u,(bw _ _ _ _ hne).trans h.lx,h.xl⟩
end
def mo(w:World)(t:TypeId)(l:List Int):ig (w.alloc (.cells (l.map (Bm .i64)).toArray t)) w.1.size 0 l:=fun i v hv=>aD rfl (by simp[hv])
def om(l:List aB)(k:Nat)(x:aB)(h:l[k]?=some x):bg (l.take (k+1))=bg (l.take k)+x.length:=by
 rw[take_snoc' l k x h];simp[bg]
def Bb(l:List aB)(h:∀x∈l,0<=x.length/\x.length<=1000):0<=bg l/\bg l<=1000*l.length:=by
 induction l with
 |nil=>simp[bg]
 |cons x l ih =>
  have h1:=h x (cG ..);have h2:=ih fun y hy=>h y (kn _ hy);simp only[bg,iu,List.sum_cons,cS]at h2 ⊢;omega
def fB.len{l l':List aB}(h:fB l l'):l.length<=l'.length:=by
 induction h with
 |nil=>exact bk _
 |void _ _ _ ih=>simp;omega
 |lin _ _ ih=>simp;omega
 |move _ _ _ ih=>simp;omega
def fB.sub{l0 Gf:List aB}{ps ps1:List (ByteArray × Int × Int)}{x:aB}(h:fB l0 Gf)(hs:List.Sublist ((Gf.drop l0.length).flatMap iG) ps)(hx:iG x=ps1):List.Sublist (((Gf++[x]).drop l0.length).flatMap iG) (ps++ps1):=by
 rw[List.drop_append_of_le_length h.len,xt];refine hs.append ?_;simp[hx]
def kX(n:Nat):Code->Option Code
 |.region m o d=>bif Nat.beq m n then some (.region m o d) else none
 |.seq a b=>match kX n a with
  |some c=>some c
  |none=>kX n b
 |.block _ c=>kX n c
 |.loop c=>kX n c
 |.scope c=>kX n c
 |.cond _ a b=>match kX n a with
  |some c=>some c
  |none=>kX n b
 |_=>none
noncomputable def p9(n:Nat):Code:=((Tryz.f20.body.bind (kX n)).getD .skip)
section
variable {X:Nat->Prop}{bs bb:Nat}{nv vv:Value}{g:af}{next:List Int}{w0 w w':World}{Lv L A:Nat}{cs:Value->Array Value}{l0 Gf:List aB}{sv:Value}{ps ps':List (ByteArray × Int × Int)}{nx nx':List Int}{xs:Array Value}
def fw.drop(h:fw (fD X A) bs bb nv vv g next w0 Lv cs l0 sv Gf ps nx L xs w)(hX:X L):fw X bs bb nv vv g next w0 Lv cs l0 sv Gf ps nx L xs w:=⟨h.m.drop,h.lx,hX⟩
def T8.putX(h:T8 X bs bb nv vv g next w0 Lv cs l0 sv Gf ps nx w)(hX:X L)(hL:Lv+1+1<=L)(hsv:sv.ownBlock≠some L)(i:Nat)(u:Value):T8 X bs bb nv vv g next w0 Lv cs l0 sv Gf ps nx (w.setCell (L,i) u):=by
 have kk:∀k,k≠L->(w.setCell (L,i) u).1[k]?=w.1[k]?:=fun k e=>bw _ _ _ _ e;have hz:(w.setCell (L,i) u).1.size=w.1.size:=by simp[AF]
 obtain⟨zs,a5,hr⟩:=h.br;exact⟨h.post.put L i u (.inl hX) (by have:=h.lv;omega),(kk Lv Tc1).trans h.bv,⟨zs,a5,(kk (Lv+1) Tc1).trans hr⟩,h.st.moves bC.moves ⟨Tc1,fun b _ ho=>⟨ho,kk b (fun e=>ho.2.2.2 (.inl (e ▸ hX)))⟩⟩ (fun k hk=>kk k (fun e=>hsv (e ▸ hk.1))),h.more,h.took,h.sub,h.len,h.lv,Tej⟩
def fw.lit(h:fw X bs bb nv vv g next w0 Lv cs l0 sv Gf ps nx L xs w)(hL:Lv+1+1<=L)(hsv:sv.ownBlock≠some L)(us:Array Value) :
  fw (fD X w.1.size) bs bb nv vv g next w0 Lv cs l0 sv Gf ps nx L (xs.setIfInBounds 3 (.slice (some w.1.size) 1 1)) ((w.alloc (.cells us 53)).setCell (Tac L 3) (.slice (some w.1.size) 1 1)) /\
  ((w.alloc (.cells us 53)).setCell (Tac L 3) (.slice (some w.1.size) 1 1)).1[w.1.size]?=some (.cells us 53 (0,0))/\okB (eO X Lv sv) bb nv vv w.1.size:=by
 have h1:=h.fresh (.cells us 53);have hlt:=aq h.lx;exact⟨⟨h1.m.putX (.inl h.xl) hL hsv 3 _,block_setCell (i:=3) _ h1.lx,h1.xl⟩,(bw _ _ _ _ (show w.1.size≠L by omega)).trans (b9 w _),h.m.post.bld.okNew (bk _)⟩
def fw.area(h:fw X bs bb nv vv g next w0 Lv cs l0 sv Gf ps nx L xs w)(hk:BOk g next)(d:Nat)(hd:d<g.Gb.length)(n:Int)(a5:1<=n)(hn1:n<=1000) :
  Calls prog 53 #[.pointer (some bb),.int .i64 d,.int .i64 n] w fun e w'=>∃(on:ByteArray) (s:Int) (ok:Bool) (ps1:List (ByteArray × Int × Int)) (nx1:List Int),e=.returned (.tuple #[.agg (Tau on s),ok])/\(ok=true->ps1=[(on,s,n)]) /\
   fw X bs bb nv vv g next w0 Lv cs l0 sv Gf (ps++ps1) nx1 L xs w'/\w'.1[bb]?=w.1[bb]?/\(∀k,X k->w'.1[k]?=w.1[k]?):=by
 have dk:=h.m.took.ok hk.dk;obtain⟨D,hD⟩:=aj g.Gb d hd;obtain⟨m,hm⟩:=aj nx d (by rw[dk.len];exact hd);have QK:=dk.nx d m hm;refine(qR (eO X Lv sv) bs bb nv vv g nx _ h.m.post.bld d D m n hD hm QK.1 Tc1 Tc1 Tc1).mono ?_;rintro e w' (⟨rfl,Q,hb⟩|⟨s,hs1,hs2,rfl,Q,hb⟩)
 ·exact⟨es,0,false,[],nx,rfl,(fun e=>by cases e),h.step Q (.nil _),hb,fun k q=>Q.loc h.m.post.bld (.inl q)⟩
 exact⟨D.name,s,true,[(D.name,s,n)],_,rfl,(fun _=>rfl),h.step Q (.snoc (.nil _) hD hm hs1 hs2 a5),hb,fun k q=>Q.loc h.m.post.bld (.inl q)⟩
end
def oH{w:World}{A:Nat}{t:TypeId}{z0 z1 z2:Value}(h:w.1[A]?=some (.cells #[z0,z1,z2] t (0,0)))(v0 v1 v2:Value):(((w.setCell A v0).setCell (Tac A 1) v1).setCell (Tac A 2) v2).1[A]?=some (.cells #[v0,v1,v2] t (0,0)) :=
 block_setCell (i:=2) _ (block_setCell (i:=1) _ (block_setCell (i:=0) _ h))
def iB(kind len:Int)(Ga:Nat):Int:=if kind=2/\0<Ga then len/Ga else len
def TaA(x0:Int)(x1:Int)(x2:Int)(x3:Nat)(x4:Option Addr)(x5:Nat)(x6:Int)(x7:Nat)(x8:Option Addr)(x9:Nat)(a5:ByteArray)(a7:ByteArray)(a8:Int)(a9:Int)(aa:Int):Tab #[.int .i64 x0,.int .i64 x1,.int .i64 x2,.slice x4 x3 x5,.int .i64 x6,.slice x8 x7 x9,.string a5,.string a7,.int .i64 a8,.int .i64 a9,.int .i64 aa]:=⟨⟩
def Ta5{p:Prop}(h:p:=by
 by_cases hk:kd=2
 ·subst hk;by_cases hz:al=0
  ·subst hz;go_wp2;go_ret;exact⟨by simp[iB],HB.o⟩
  have hd:decide ((0:Int)<(al:Int))=true:=by simp;omega
  have hn:¬(al:Int)=0:=by omega
  have hn1:((al:Int)==0)=false:=by simpa using hz
  have hq0:0<=len/(al:Int):=lz h0 Tc1;have hq1:len/(al:Int)<=len:=mS _ h0;have hq2:len.tdiv (al:Int)=len/(al:Int):=CC h0;have hq3:IntKind.i64.wrap (len/(al:Int))=len/(al:Int):=dy _ Tc1;go_wp2;go_ret;exact⟨by simp[iB,show 0<al by omega],HB.o⟩
 have hk1:(kd==2)=false:=by simpa using hk
 go_wp2;go_ret;exact⟨by simp[iB,hk],HB.o⟩):p:=h
def ji(st len kd ch a5 mode dn:Int)(ap sp:Option Addr)(al ac sl sc:Nat)(log pool:ByteArray)(w:World)(h0:0<=len)(h1:len<=9223372036854775807)(ha:al<=1000000) :
  Calls prog 118 #[.agg (TaA st len kd al ap ac ch sl sp sc log pool a5 mode dn)] w fun e w'=>e=.returned (.int .i64 (iB kd len al))/\Below w.1.size w w':=by
 have hb:=ae w (.cells (TaA st len kd al ap ac ch sl sp sc log pool a5 mode dn) 114);have HB:=aa hb;clear hb;go_enter func118,ntmps118
 exact Ta5
section
variable {n:Nat}{P:Program}{ops:Array Oper}{Q:Exit->Act->World->Prop}{md:Region.Mode}{S:World->Prop}{m:Nat}{N:Nat->Bool}
variable {oi:Oper}{v:Value}{i fuel:Nat}{a:Act}{K:Act->World->Prop}{w w':World}{listed:Array Bool}{f:FuncId}
def BV{j:Nat}{oj:Oper}(hj:ops[j]?=some oj)(a7:oi.apart ops oj=true)(Z7:∀cs b,oi.op≠.select cs b)(a8:∀cs b,oj.op≠.select cs b)
  (hQ:∀c a w,Q (.panic c) (a.put oi.dst v) w->Q (.panic c) a w) {K:Act->World->Prop} {a:Act} {w:World} (hy:YieldsIf P ops S oi v a) (h:wpOpIn Fence.wide n P ops Q j K (a.put oi.dst v) w) :
  wpOpIn Fence.wide n P ops Q j (fun a' w'=>YieldsIf P ops S oi v a'/\K (a'.put oi.dst v) w') a w:=by
 obtain⟨h1,h2,h3⟩:=Oper.apart_spec a7;have keep:∀(a:Act),YieldsIf P ops S oi v a->∀u,YieldsIf P ops S oi v (a.put oj.dst u):=fun a hy u=>hy.of_same (execOp_put oi Z7 a oj.dst u h3) (wanted_put oi a oj.dst u h3);have next:∀u w',K ((a.put oi.dst v).put oj.dst u) w'->YieldsIf P ops S oi v (a.put oj.dst u)/\K ((a.put oj.dst u).put oi.dst v) w':=fun u w' q=>⟨keep a hy u,by rw[<- Act.put_comm a v u h2];exact q⟩;unfold wpOpIn at *;simp only[hj]at *;rw[wanted_put oj a oi.dst v h1]at h
 by_cases hw:By oj (yielded ops a.tmps)=true
 ·rw[aw hw]at h ⊢;refine⟨fun _ _=>trivial,?_⟩;have h:=h.2;rw[tI,ub,execOp_put oj a8 a oi.dst v h1]at h;rw[tI,ub];generalize (execOp a.eval oj).run P w=r at *
  match r with
  |.ok (.value u) w'=>exact next u w' h
  |.ok .skip w'=>exact next undef w' h
  |.ok (.defer d) w' =>
   refine⟨keep { a with defers:=d :: a.defers } (hy.of_same rfl rfl) _,?_⟩;rw[<- Act.put_comm _ v undef h2,<- Act.put_defers];exact h
  |.ok (.enter f args) w'=>exact⟨h.1,CallsIn.mono h.2 fun e a5 he=>by
    cases e with
    |returned u=>exact next u a5 he
    |panicked c=>exact hQ _ _ _ he
    |outgrown=>exact he⟩
  |.ok (.row row args) w'=>exact⟨h.1,RowsIn.mono h.2 fun u a5 he=>next u a5 he⟩
  |.ok (.round l f tmps assign body) w'=>exact⟨h.1,RoundIn.mono h.2 fun e a5 he=>by
    cases e with
    |returned u=>exact next u a5 he
    |panicked c=>exact hQ _ _ _ he
    |outgrown=>exact he⟩
  |.halt (.panic u) w'=>exact hQ _ _ _ h
 rw[bh hw]at h ⊢;exact⟨fun _ _=>trivial,next undef w h.2⟩
def qU{o:Oper}(hi:ops[i]?=some o)(hy:YieldsIf P ops S o v a)(hS:S w)(h:K (a.put o.dst v) w):wpOpIn Fence.wide n P ops Q i K a w:=by
 unfold wpOpIn;simp only[hi];rcases hy with⟨hw,hv⟩|⟨hw,rfl⟩
 ·rw[aw hw];refine⟨fun _ _=>trivial,?_⟩;rw[tI,ub,hv w hS];exact h
 rw[bh (by rw[hw];exact Bool.false_ne_true)];exact⟨fun _ _=>trivial,h⟩
def jm(n:Nat)(P:Program)(md:Region.Mode)(ops:Array Oper)(Q:Exit->Act->World->Prop)(S:World->Prop)(N:Nat->Bool):Nat->Array Bool->Act->World->Prop
 |0,listed,a,w=>BE md ops listed=[]/\Q .normal a w
 |fuel+1,listed,a,w=>(BE md ops listed=[]->Q .normal a w)/\∀i∈BE md ops listed,wpOpIn Fence.wide n P ops Q i (fun a' w'=>(N i=true->S w')/\jm n P md ops Q S N fuel (listed.setIfInBounds i true) a' w') a w
def ng:∀(fuel:Nat) (listed:Array Bool) (a:Act) (w:World),jm n P md ops Q S N fuel listed a w->wpAnyIn Fence.wide n P md ops Q fuel listed a w
 |0,_,_,_,h=>h
 |fuel+1,_,_,_,h=>⟨h.1,fun i hi=>wpOpIn_mono (fun a' w' h'=>ng fuel _ a' w' h'.2) (h.2 i hi)⟩
def wz{id:Nat}(n:Nat)(S:World->Prop)(m:Nat)(ws:List Nat)(hm:P.follows .mixedOrders=true)(hS:S w.drew)
  (h:S w.drew->jm n P .any ops Q S (needs m ws) ops.size (GO ops.size false) a w.drew):(Code.region id ops true).wp P Q a w :=
 (wpIn_wide (n:=n)).1 (wpIn_region_any hm (ng _ _ _ _ (h hS)))
def vK(hi:ops[i]?=some oi)(mj:∀(j:Nat) (o:Oper) cs b,ops[j]?=some o->o.op≠.select cs b)
  (hQ:∀c a w,Q (.panic c) (a.put oi.dst v) w->Q (.panic c) a w) :
  ∀(fuel:Nat) (listed:Array Bool) (a:Act) (w:World),lM md ops N listed i=true ->
   (∀j oj,ops[j]?=some oj->j≠i->listed.getD j true=false->(∀e∈oj.after,DQ md e=true->e.on≠i)->oi.apart ops oj=true) ->
   Clo md ops listed->i∈BE md ops listed->YieldsIf P ops S oi v a->S w ->
   jm n P md ops Q S N fuel (listed.setIfInBounds i true) (a.put oi.dst v) w->jm n P md ops Q S N (fuel+1) listed a w:=by
 intro fuel;induction fuel with
 |zero =>
  intro listed a w _ _ _ hr hy hS H;refine⟨fun h=>Tdo,fun j hj=>?_⟩;by_cases nr:j=i
  ·subst nr;exact qU hi hy hS ⟨fun _=>hS,H⟩
  have:=ix hj nr;rw[H.1]at this;cases this
 |succ fuel ih =>
  intro listed a w hl oc hc hr hy hS H;have pN:=(mem_ready.1 hr).1;refine⟨fun h=>Tdo,fun j hj=>?_⟩;by_cases nr:j=i
  ·subst nr;exact qU hi hy hS ⟨fun _=>hS,H⟩
  have UY:N j=true:=by
   cases hN:N j with
   |true=>rfl
   |false=>exact absurd hj (nW hc (Gs hl hN (mV hj) (mem_ready.1 hj).1) pN)
  have h1:=H.2 j (ix hj nr);obtain⟨zj,oj,F0,hall⟩:=mem_ready.1 hj;have a5:∀e∈oj.after,DQ md e=true->e.on≠i:=fun e he hb heq=>by
   have h1:=hall e he hb;rw[heq,getD_both pN]at h1;cases h1
  have h2:=BV F0 (oc j oj F0 nr zj a5) (fun cs b=>mj i oi cs b hi) (fun cs b=>mj j oj cs b F0) hQ hy h1;have pP:∀k ok,ops[k]?=some ok->k≠i->(listed.setIfInBounds j true).getD k true=false ->
    (∀e∈ok.after,DQ md e=true->e.on≠i)->oi.apart ops ok=true:=fun k ok hk XQ pN hno=>by
   refine oc k ok hk XQ ?_ hno;by_cases hjk:j=k
   ·subst hjk;exact zj
   rw[ly true hjk]at pN;exact pN
  refine wpOpIn_mono (fun a' w' h3=>⟨h3.2.1,ih (listed.setIfInBounds j true) a' w' (uJ hl) pP (hc.set hj) (ix hr (Ne.symm nr)) h3.1 (h3.2.1 UY) ?_⟩) h2;rw[FA _ _ nr];exact h3.2.2
def bQ{d:Tmp}(hi:ops[i]?=some oi)(hd:oi.dst=some d)
  (hb:(GB ops&&IS md ops listed i&&(BE md ops listed).contains i&&lM md ops N listed i&&BF md ops listed)=true)
  (hQ:∀c a w,Q (.panic c) (a.put (some d) v) w->Q (.panic c) a w) (hy:YieldsIf P ops S oi v a) (hS:S w)
  (h:jm n P md ops Q S N fuel (listed.setIfInBounds i true) (a.put (some d) v) w):jm n P md ops Q S N (fuel+1) listed a w:=by
 simp only[eh]at hb;obtain⟨⟨⟨⟨h1,h2⟩,h3⟩,h4⟩,h5⟩:=hb;rw[<- hd]at hQ h;exact vK hi (XS h1) hQ fuel listed a w h4 (Region.free_spec hi h2) (oK h5) TdC hy hS h
def jh{o:Oper}(hi:ops[i]?=some o)(hw:By o (yielded ops a.tmps)=true)(hr:BE md ops listed=[i])
  (h:∀K:Act->World->Prop,Hid (∀a' w',(N i=true->S w')->jm n P md ops Q S N fuel (listed.setIfInBounds i true) a' w'->K a' w')->o.wpIn Fence.wide n P a w K Q):jm n P md ops Q S N (fuel+1) listed a w:=by
 refine⟨fun h0=>TdA,fun j hj=>?_⟩;rw[hr]at hj;obtain rfl:j=i:=by simpa using hj
 unfold wpOpIn;simp only[hi,hw,ej];exact h _ (aa fun a' w' h1 h2=>⟨h1,h2⟩)
def xX(hr:BE md ops listed=[])(h:Q .normal a w):jm n P md ops Q S N 0 listed a w:=⟨hr,h⟩
def xI{o:Oper}{args:Array Value}(hr:(execOp a.eval o).run P w=.ok (.enter f args) w')
  (h:Calls P f args w' fun e a5=>match e with|.returned v=>K (a.put o.dst v) a5|.panicked c=>Q (.panic c) a a5|.outgrown=>LetsOut Q):o.wpIn Fence.wide n P a w K Q:=by
 refine⟨fun _ _=>trivial,?_⟩;rw[tI,ub,hr];refine⟨fun q=>by simp[Fence.wide]at q,callsIn_wide.2 (h.mono fun e a5 q=>?_)⟩;cases e<;>exact q
def xx{o:Oper}{l:Nat}{tmps:Array Value}{assign body:Code}{n':Nat}(hr:(execOp a.eval o).run P w=.ok (.round l f tmps assign body) w')
  (h:RoundIn Fence.wide n' P l f tmps assign body w' fun e a5=>match e with|.returned v=>K (a.put o.dst v) a5|.panicked c=>Q (.panic c) a a5|.outgrown=>LetsOut Q):o.wpIn Fence.wide n P a w K Q:=by
 refine⟨fun _ _=>trivial,?_⟩;rw[tI,ub,hr];refine⟨fun q=>by simp[Fence.wide]at q,h.1,fun c cs _=>?_⟩;obtain⟨e,a5,q,r⟩:=h.2 c cs (room_wide _);exact⟨e,a5,by cases e<;>exact q,r⟩
def o6{o:Oper}(hr:(execOp a.eval o).run P w=.ok (.value v) w')(h:K (a.put o.dst v) w'):o.wpIn Fence.wide n P a w K Q:=by
 refine⟨fun _ _=>trivial,?_⟩;rw[tI,ub,hr];exact h
end
variable {l n₀ k sz:Nat}{w A B:World}{s n:Int}{α β:Type}{p:Int × Int}{x:List (Int × Int)}{S T:Int->Prop}
noncomputable def EQ(n:Nat):Code:=((Tryz.f161.body.bind (kX n)).getD .skip)
def TdE{p:Prop}(h:p:=by go_simp):p:=h
def Tdk{p:Prop}(h:p:=by simp[World.cell?,e2,hs]):p:=h
def TeH{p:Prop}(h:p:=by simp[World.cell?,e3,ha]):p:=h
def lW{Bv Bs Ba n':Nat}{name on log pool:ByteArray}{st len kd ch a8 mode dn:Int}{ap sp:Option Addr}{al ac sl sc:Nat}{R:Bool->World->Prop}
  (hv:w.cell? Bv=some (.string name)) (ha:w.1[Ba]?=some (.cells (Tau on s) 53 (0,0)))
  (hs:w.1[Bs]?=some (.cells (TaA st len kd al ap ac ch sl sp sc log pool a8 mode dn) 114 (0,0))) (h0:0<=len) (h1:len<=1000000) (Tp:al<=1000) (ae:Bv<w.1.size)
  (hY:∀w',Below w.1.size w w'->YieldAt Fence.wide n' prog l #[.agg #[name,on,s,.int .i64 (iB kd len al)]] w' fun e w2=>∃go:Bool,e=.returned (.bool go)/\R go w2)
  (c1 c2 c3 c5 c7 c9 c10 TO W0 St Rr RE RK SO Se Sf To Wg aE Wr ZD UP US ab ao fa dj dq eS fs gE ff fi fb gn iS mx qS qe nF o4 oE oR qk oS pe ph pr pt qv rl rm rn sd sh ta zd zp a9:Value) (K:Act->World->Prop) (Q:Exit->Act->World->Prop) (hQ:∀c (a:Act) (d:Tmp) (v:Value) w,Q (.panic c) (a.put (some d) v) w->Q (.panic c) a w)
  (HK:Hid (∀(go:Bool) (w':World) (u43 u44 u45 u46 u47 u48 u49 u50 u51 u52 u53 u54 u55 u56 u57 u58:Value),R go w'->K ⟨#[.func (.yield l) #[] #[],c1,c2,c3,.pointer (some Bv),c5,.pointer (some Bs),c7,.pointer (some Ba),c9,c10,TO,W0,St,Rr,RE,RK,SO,Se,Sf,To,Wg,aE,Wr,ZD,UP,US,ab,ao,fa,dj,dq,eS,fs,gE,ff,fi,fb,gn,iS,mx,qS,qe,u43,u44,u45,u46,u47,u48,u49,u50,u51,u52,u53,u54,u55,u56,u57,u58,.bool (!go),zd,zp,a9],[]⟩ w')) :
  Code.wp prog (EQ 10) (Exit.then K Q) ⟨#[.func (.yield l) #[] #[],c1,c2,c3,.pointer (some Bv),c5,.pointer (some Bs),c7,.pointer (some Ba),c9,c10,TO,W0,St,Rr,RE,RK,SO,Se,Sf,To,Wg,aE,Wr,ZD,UP,US,ab,ao,fa,dj,dq,eS,fs,gE,ff,fi,fb,gn,iS,mx,qS,qe,nF,o4,oE,oR,qk,oS,pe,ph,pr,pt,qv,rl,rm,rn,sd,sh,ta,zd,zp,a9],[]⟩ w:=by
 conv=>arg 2;whnf
 have af:=aq hs;have ag:=aq ha;have HS:Hid (∀w':World,w'.1[Bv]?=w.1[Bv]?->w'.1[Bs]?=w.1[Bs]?->w'.1[Ba]?=w.1[Ba]?->w'.cell? Bv=some (.string name)/\w'.cell? Ba=some (.bool false)/\w'.cell? (Tac Ba 1)=some (.string on)/\w'.cell? (Tac Ba 2)=some (.int .i64 s)/\w'.cell? Bs=some (.int .i64 st)/\w'.cell? (Tac Bs 1)=some (.int .i64 len)/\w'.cell? (Tac Bs 2)=some (.int .i64 kd)/\w'.cell? (Tac Bs 3)=some (.slice ap al ac)/\w'.cell? (Tac Bs 4)=some (.int .i64 ch)/\w'.cell? (Tac Bs 5)=some (.slice sp sl sc)/\w'.cell? (Tac Bs 6)=some (.string log)/\w'.cell? (Tac Bs 7)=some (.string pool)/\w'.cell? (Tac Bs 8)=some (.int .i64 a8)/\w'.cell? (Tac Bs 9)=some (.int .i64 mode)/\w'.cell? (Tac Bs 10)=some (.int .i64 dn)):=aa fun w' e1 e2 e3=>⟨(cd (w:=w) e1).trans hv,TeH,TeH,TeH,Tdk,Tdk,Tdk,Tdk,Tdk,Tdk,Tdk,Tdk,Tdk,Tdk,Tdk⟩;replace hY:=aa hY;clear hv ha hs;refine wz 1 (fun w'=>w'.cell? Bv=some (.string name)/\w'.cell? Ba=some (.bool false)/\w'.cell? (Tac Ba 1)=some (.string on)/\w'.cell? (Tac Ba 2)=some (.int .i64 s)/\w'.cell? Bs=some (.int .i64 st)/\w'.cell? (Tac Bs 1)=some (.int .i64 len)/\w'.cell? (Tac Bs 2)=some (.int .i64 kd)/\w'.cell? (Tac Bs 3)=some (.slice ap al ac)/\w'.cell? (Tac Bs 4)=some (.int .i64 ch)/\w'.cell? (Tac Bs 5)=some (.slice sp sl sc)/\w'.cell? (Tac Bs 6)=some (.string log)/\w'.cell? (Tac Bs 7)=some (.string pool)/\w'.cell? (Tac Bs 8)=some (.int .i64 a8)/\w'.cell? (Tac Bs 9)=some (.int .i64 mode)/\w'.cell? (Tac Bs 10)=some (.int .i64 dn)) 14 [] Tc3 (HS.o w rfl rfl rfl) (fun a5=>?_)
 (refine bQ (i:=0) (v:=?_) rfl rfl Tc3 (fun _ _ _ h=>hQ _ _ _ _ _ h) (Or.inl ⟨Tc7,?_⟩) a5 ?_;rotate_left;(intro w ZS;(try dsimp only at ZS);go_simp;(try(with_reducible rfl)));(try simp only[aS]));(refine bQ (i:=1) (v:=?_) rfl rfl Tc3 (fun _ _ _ h=>hQ _ _ _ _ _ h) (Or.inl ⟨Tc7,?_⟩) a5 ?_;rotate_left;(intro w ZS;(try dsimp only at ZS);go_simp;(try(with_reducible rfl)));(try simp only[aS]));(refine bQ (i:=2) (v:=?_) rfl rfl Tc3 (fun _ _ _ h=>hQ _ _ _ _ _ h) (Or.inl ⟨Tc7,?_⟩) a5 ?_;rotate_left;(intro w ZS;(try dsimp only at ZS);go_simp;(try(with_reducible rfl)));(try simp only[aS]));(refine bQ (i:=3) (v:=?_) rfl rfl Tc3 (fun _ _ _ h=>hQ _ _ _ _ _ h) (Or.inl ⟨Tc7,?_⟩) a5 ?_;rotate_left;(intro w ZS;(try dsimp only at ZS);go_simp;(try(with_reducible rfl)));(try simp only[aS]));(refine bQ (i:=4) (v:=?_) rfl rfl Tc3 (fun _ _ _ h=>hQ _ _ _ _ _ h) (Or.inl ⟨Tc7,?_⟩) a5 ?_;rotate_left;(intro w ZS;(try dsimp only at ZS);go_simp;(try(with_reducible rfl)));(try simp only[aS]));(refine bQ (i:=5) (v:=?_) rfl rfl Tc3 (fun _ _ _ h=>hQ _ _ _ _ _ h) (Or.inl ⟨Tc7,?_⟩) a5 ?_;rotate_left;(intro w ZS;(try dsimp only at ZS);go_simp;(try(with_reducible rfl)));(try simp only[aS]));(refine bQ (i:=7) (v:=?_) rfl rfl Tc3 (fun _ _ _ h=>hQ _ _ _ _ _ h) (Or.inl ⟨Tc7,?_⟩) a5 ?_;rotate_left;(intro w ZS;(try dsimp only at ZS);go_simp;(try(with_reducible rfl)));(try simp only[aS]));(refine bQ (i:=9) (v:=?_) rfl rfl Tc3 (fun _ _ _ h=>hQ _ _ _ _ _ h) (Or.inl ⟨Tc7,?_⟩) a5 ?_;rotate_left;(intro w ZS;(try dsimp only at ZS);go_simp;(try(with_reducible rfl)));(try simp only[aS]));(refine bQ (i:=6) (v:=?_) rfl rfl Tc3 (fun _ _ _ h=>hQ _ _ _ _ _ h) (Or.inl ⟨Tc7,?_⟩) a5 ?_;rotate_left;(intro w ZS;(try dsimp only at ZS);go_simp;(try(with_reducible rfl)));(try simp only[aS]));(refine bQ (i:=8) (v:=?_) rfl rfl Tc3 (fun _ _ _ h=>hQ _ _ _ _ _ h) (Or.inl ⟨Tc7,?_⟩) a5 ?_;rotate_left;(intro w ZS;(try dsimp only at ZS);go_simp;(try(with_reducible rfl)));(try simp only[aS]));(refine bQ (i:=10) (v:=?_) rfl rfl Tc3 (fun _ _ _ h=>hQ _ _ _ _ _ h) (Or.inl ⟨Tc7,?_⟩) a5 ?_;rotate_left;(intro w ZS;(try dsimp only at ZS);go_simp;(try(with_reducible rfl)));(try simp only[aS]));(refine bQ (i:=11) (v:=?_) rfl rfl Tc3 (fun _ _ _ h=>hQ _ _ _ _ _ h) (Or.inl ⟨Tc7,?_⟩) a5 ?_;rotate_left;(intro w ZS;(try dsimp only at ZS);go_simp;(try(with_reducible rfl)));(try simp only[aS]))
 refine jh (i:=12) rfl Tc7 Tc3 (fun K1 hK1=>?_);refine xI (f:=118) (args:=#[.agg (TaA st len kd al ap ac ch sl sp sc log pool a8 mode dn)]) (w':=w.drew) TdE ?_;refine(ji st len kd ch a8 mode dn ap sp al ac sl sc log pool w.drew h0 Tc1 Tc1).mono ?_;rintro e w6 ⟨rfl,mw⟩;dsimp only;have hb:Below w.1.size w w6:=((bj _ w).drew).trans mw;have a7:=HS.o w6 (hb.block Bv ae) (hb.block Bs af) (hb.block Ba ag);refine hK1.o _ _ (fun _=>a7) ?_;clear hK1 K1 a5;simp only[Act.put,xT];have a5:=a7;clear a7;(refine bQ (i:=13) (v:=?_) rfl rfl Tc3 (fun _ _ _ h=>hQ _ _ _ _ _ h) (Or.inl ⟨Tc7,?_⟩) a5 ?_;rotate_left;(intro w ZS;(try dsimp only at ZS);go_simp;(try(with_reducible rfl)));(try simp only[Act.put]))
 obtain⟨fn,tmps,assign,body,hy,hR⟩:=hY.o w6 hb;refine jh (i:=14) rfl Tc7 Tc3 (fun K1 hK1=>?_);refine xx (l:=l) (f:=fn) (tmps:=tmps) (assign:=assign) (body:=body) (w':=w6) TdE (hR.mono ?_);rintro e w7 ⟨go,rfl,Z8⟩;dsimp only;refine hK1.o _ _ (fun q=>by simp[needs]at q) ?_;clear hK1 K1;simp only[Act.put];refine jh (i:=15) rfl Tc7 Tc3 (fun K1 hK1=>?_);refine o6 (v:=.bool (!go)) (w':=w7) TdE ?_;refine hK1.o _ _ (fun q=>by simp[needs]at q) ?_;clear hK1 K1;simp only[Act.put];refine jh (i:=16) rfl Tc7 Tc3 (fun K1 hK1=>?_);refine o6 (v:=.bool (!go)) (w':=w7) TdE ?_;refine hK1.o _ _ (fun q=>by simp[needs]at q) ?_;clear hK1 K1;simp only[Act.put];refine xX Tc3 ?_;exact HK.o go w7 _ _ _ _ _ _ _ _ _ _ _ _ _ _ _ _ Z8
structure gy where
 vol:ByteArray
 disk:ByteArray
 start:Int
 len:Int
def TaR(x0:gy):Tab #[.string x0.vol,.string x0.disk,.int .i64 x0.start,.int .i64 x0.len]:=⟨⟩
def FN(x:gy):Array Value:=#[.agg (TaR x)]
def aJ(name:ByteArray)(s:aB)(a:aR):gy:=⟨name,a.on,a.start,iB s.kind s.length s.Ga.length⟩
def fP(s:aB):Prop:=s.kind=1\/s.kind=2\/s.kind=8
instance (s:aB):Decidable (fP s):=inferInstanceAs (Decidable (_\/_\/_))
def aK(name:ByteArray)(s:aB):List gy:=if fP s then s.Ga.map (aJ name s) else []
def aW(v:ay):List gy:=v.Gf.flatMap (aK v.name)
def pieces(vs:List ay):List gy:=vs.flatMap aW
def qx(vs:List ay):Prop:=∀v∈vs,v.Gf.length<=1000/\∀s∈v.Gf,(0<=s.length/\s.length<=1000000)/\s.Ga.length<=1000/\(fP s->∀a∈s.Ga,a.vol=false)
def FW(t:TypeId):Bool:=t==68||t==114
def KpT(n₀:Nat)(W W':World):Prop:=Below n₀ W W'/\∀(k:Nat) (cs:Array Value) (t:TypeId) (z:Nat × Nat),W.1[k]?=some (.cells cs t z)->FW t=true->W'.1[k]?=W.1[k]?
def KpT.trans{C:World}(h:KpT n₀ A B)(k:KpT n₀ B C):KpT n₀ A C:=⟨h.1.trans k.1,fun i cs t z e ht=>by
 have h1:=h.2 i cs t z e ht;exact(k.2 i cs t z (h1.trans e) ht).trans h1⟩
def KpT.of_below(h:Below A.1.size A B)(hn:n₀<=A.1.size):KpT n₀ A B:=⟨h.mono hn,fun i _cs _t _z e _=>h.block i (aq e)⟩
def cK(h:Below A.1.size A B):A.grownBy B none:=⟨h.os,h.tape,h.output,h.size,fun k hk _=>h.block k hk⟩
def kz{F:Fence}{m:Nat}{P:Program}{args:Array Value}{W:World}{R R':Ending->World->Prop}(h:YieldAt F m P l args W R)(hR:∀e w,R e w->R' e w):YieldAt F m P l args W R':=by
 obtain⟨fn,tmps,assign,body,hy,h⟩:=h;exact⟨fn,tmps,assign,body,hy,h.mono hR⟩
def rz{l:List α}{x:α}(h:l[k]?=some x)(f:α->List β):l.flatMap f=(l.take k).flatMap f++(f x++(l.drop (k+1)).flatMap f):=by
 have hk:=(AT.1 h).1;have hx:=(AT.1 h).2;conv=>lhs;rw[<- rk k l,xt,tB hk,lB,hx]
def gq{l:List α}{x:α}(h:l[k]?=some x)(f:α->List β):(l.take (k+1)).flatMap f=(l.take k).flatMap f++f x:=by
 rw[take_snoc' l k x h];simp
def Fa{l:List α}{x:α}(h:l[k]?=some x)(f:α->β):l.map f=(l.take k).map f++(f x :: (l.drop (k+1)).map f):=by
 have hk:=(AT.1 h).1;have hx:=(AT.1 h).2;conv=>lhs;rw[<- rk k l,gl,tB hk,iu,hx]
def oz{vs:List ay}{v:ay}{s:aB}{a:aR}{q p:Nat}(hv:vs[k]?=some v)(hs:v.Gf[q]?=some s)(ha:s.Ga[p]?=some a)(ho:fP s) :
  ∃rest,pieces vs=(((vs.take k).flatMap aW++(v.Gf.take q).flatMap (aK v.name))++(s.Ga.take p).map (aJ v.name s))++(aJ v.name s a :: rest):=by
 refine⟨(s.Ga.drop (p+1)).map (aJ v.name s)++((v.Gf.drop (q+1)).flatMap (aK v.name)++(vs.drop (k+1)).flatMap aW),?_⟩;unfold pieces;rw[rz hv,show aW v=v.Gf.flatMap (aK v.name) from rfl,rz hs,show aK v.name s=s.Ga.map (aJ v.name s) from aw ho,Fa ha];simp[cV]
def ck.elem{V:jx α}{ok:Nat->Prop}{p:Option Addr}{cap:Nat}{l:List α}(h:ck V sz ok w [.slice p l.length cap] l){x:α}(hk:l[k]?=some x) :
  ∃b off u,p=some ⟨b,off,none⟩/\ok b/\b<w.1.size/\u.length=sz/\V ok w u x/\∀(j:Nat) (z:Value),u[j]?=some z->w.cell? ⟨b,off+k*sz+j,none⟩=some z:=by
 obtain⟨p',a5,e,_,_,h3⟩:=h;obtain⟨b,off,rfl,hb,ho,hc⟩:=h3 (by have:=(AT.1 hk).1;omega);obtain⟨u,h1,h2,h3⟩:=hc k x hk;refine⟨b,off,u,?_,ho,hb,h1,h2,h3⟩;injection e with e;injection e with e
def ck.cap{V:jx α}{ok:Nat->Prop}{v:Value}{l:List α}(h:ck V sz ok w [v] l):∃p cap,v=.slice p l.length cap/\l.length<=cap/\cap<=9223372036854775807:=by
 obtain⟨p,cap,e,h1,h2,_⟩:=h;exact⟨p,cap,IF.1 e,h1,h2⟩
def TaB(x0:aR):Tab #[.bool false,.string x0.on,.int .i64 x0.start]:=⟨⟩
def Tae(x0:aB)(x1:Option Addr)(x2:Nat)(x3:Option Addr)(x4:Nat):Tab #[.int .i64 x0.start,.int .i64 x0.length,.int .i64 x0.kind,.slice x1 x0.Ga.length x2,.int .i64 x0.chunk,.slice x3 x0.stale.length x4,.string x0.log,.string x0.pool,.int .i64 x0.device,.int .i64 x0.mode,.int .i64 x0.done]:=⟨⟩
def Tah(x0:ay)(x1:Option Addr)(x2:Nat)(x3:Option Addr)(x4:Nat):Tab #[.string x0.name,.int .u64 x0.id,.bool x0.hidden,.bool x0.ro,.slice x1 x0.tags.length x2,.slice x3 x0.Gf.length x4]:=⟨⟩
def TaZ{p:Prop}(h:p:=by
 clear zE;go_wp2;clear k2 k3;go_loopw[39] (fun m wr3=>∃p:Nat,p<=s.Ga.length/\m=.int .i64 p/\J (((vs.take k).flatMap aW++(v.Gf.take q).flatMap (aK v.name))++(s.Ga.take p).map (aJ v.name s)) wr3/\Below n₀ W wr3/\W.1.size<=wr3.1.size/\wr3.1[Bv]?=some (.cells (Tah v tp tc (some ⟨b2,off2,none⟩) gc) 68 (0,0))/\wr3.1[Bs]?=some (.cells (Tae s ap ac sp sc) 114 (0,0))) (fun m _=>s.Ga.length-(intOf m).toNat)
 exact⟨0,cg _,rfl,by simpa using TX.o,cm.o,HZ2.o,J0.o,lj.o⟩;obtain⟨p,hp,rfl,hJs,hB,hz,vA,gO⟩:=hrel;by_cases hlt3:p<s.Ga.length
 ·obtain⟨a,ha⟩:=aj s.Ga p hlt3;have B4:=HTS.o E4.o a (ct ha);obtain⟨b3,off3,u3,rfl,B7,PV,pT,hva,mB⟩:=ya.o.elem ha;obtain rfl:u3=[.bool a.vol,.string a.on,.int .i64 a.start]:=hva;rw[B4]at mB;have cT:wr.1[b3]?=W.1[b3]?:=hB.block b3 B7;have q0:=(cd (w:=W) (a:=⟨b3,off3+p*3,none⟩) cT).trans (mB 0 _ rfl);have q1:=(cd (w:=W) (a:=⟨b3,off3+p*3+1,none⟩) cT).trans (mB 1 _ rfl);have q2:=(cd (w:=W) (a:=⟨b3,off3+p*3+2,none⟩) cT).trans (mB 2 _ rfl);have hb3:=ae wr (.cells (TaB a) 53);have yb:=aa (b9 wr (.cells (TaB a) 53));have pZ:=aa ((hb3.block Bv (aq vA)).trans vA);have nB:=aa ((hb3.block Bs (aq gO)).trans gO);have QU:=aa (HJ.o _ _ _ none hJs (cK hb3) (fun r e=>by cases e));have cJ:=aa (hB.trans (hb3.mono Tc1));have HZ3:=aa (cA hz hb3.size);obtain⟨rest,od⟩:=oz HV.o B6.o ha E4.o;have CI:=aa od;clear od;have HA:=aa ha;clear ha;clear hJs hb3 vA gO mB cT pT B4;go_upto_region 10 with(fail);clear q0 q1 q2;generalize hW3:wr.alloc _=W3 at *;generalize aD6:wr.1.size=Ba at *;clear hW3 hB hz aD6;refine lW (n':=n-1) (name:=v.name) (on:=a.on) (s:=a.start) (R:=fun go w2=>(go=true/\J ((((vs.take k).flatMap aW++(v.Gf.take q).flatMap (aK v.name))++(s.Ga.take p).map (aJ v.name s))++[aJ v.name s a]) w2/\KpT n₀ W3 w2)\/(go=false/\Jx ((((vs.take k).flatMap aW++(v.Gf.take q).flatMap (aK v.name))++(s.Ga.take p).map (aJ v.name s))++[aJ v.name s a]) w2)) (by simp[World.cell?,pZ.o]) yb.o nB.o hl0 hl1 Tp (aq pZ.o) ?_ _ _ _ _ _ _ _ _ _ _ _ _ _ _ _ _ _ _ _ _ _ _ _ _ _ _ _ _ _ _ _ _ _ _ _ _ _ _ _ _ _ _ _ _ _ _ _ _ _ _ _ _ _ _ _ _ _ _ _ _ _ (fun _ _ _ _ _ h=>h) (aa ?_)
  ·intro w' hb;refine kz (HY.o (((vs.take k).flatMap aW++(v.Gf.take q).flatMap (aK v.name))++(s.Ga.take p).map (aJ v.name s)) (aJ v.name s a) w' (HJ.o _ _ _ none QU.o (cK hb) (fun r e=>by cases e)) (by have e:=fj List.length CI.o;rw[cD,cS]at e;omega)) (fun e w2 q=>?_);rcases q with⟨rfl,h1,h2⟩|⟨rfl,h1⟩
   ·exact⟨true,rfl,.inl ⟨rfl,h1,(KpT.of_below hb (by have:=HZ3.o;omega)).trans h2⟩⟩
   exact⟨false,rfl,.inr ⟨rfl,h1⟩⟩
  intro go w5 u43 u44 u45 u46 u47 u48 u49 u50 u51 u52 u53 u54 u55 u56 u57 u58 hR;rcases hR with⟨rfl,hJ5,hk5⟩|⟨rfl,ap9⟩
  ·have HJ5:=aa hJ5;clear hJ5;have HK5:=aa hk5;clear hk5;go_wp2;go_roundw;exact⟨p+1,Tc1,Tc5,by rw[take_snoc' _ _ _ HA.o,gl,<- cV];exact HJ5.o,cJ.o.trans HK5.o.1,cA HZ3.o HK5.o.1.size,(HK5.o.2 Bv _ _ _ pZ.o rfl).trans pZ.o,(HK5.o.2 Bs _ _ _ nB.o rfl).trans nB.o⟩;simp[intOf];omega
  have HJ5:=aa ap9;clear ap9;go_wp2;refine eC (results_none rfl _ _ _) rfl ⟨⟨_,rfl⟩,.inr ⟨_,⟨rest,?_⟩,HJ5.o⟩⟩;rw[CI.o,cV];rfl
 obtain rfl:p=s.Ga.length:=by omega
 rw[cI]at hJs;have OV:=aa hJs;clear hJs;have Qe:=aa vA;clear vA;have fl:=aa gO;clear gO;go_wp2;go_roundw;exact⟨q+1,Tc1,Tc5,by rw[gq B6.o,show aK v.name s=s.Ga.map (aJ v.name s) from aw E4.o,<- cV];exact OV.o,hB,hz,Qe.o⟩;simp[intOf];omega):p:=h
def zh(n n₀ Bg:Nat)(w:World)(vp:Option Addr)(ab:Nat)(vs:List ay)(hc:w.cell? (Tac Bg 7)=some (.slice vp vs.length ab))(ai:Bg<w.1.size)(hn:n₀<=w.1.size)
  (hr:ck aN 6 (fun b=>b<n₀) w [.slice vp vs.length ab] vs) (ht:qx vs) (mb:vs.length<=1000) :
  SeqStopsK Fence.wide n prog 161 #[.pointer (some Bg)] FN (KpT n₀) (fun xs=>xs=pieces vs) (fun pre=>pre <+: pieces vs) (pieces vs).length w:=by
 intro l J Jx W hW hJ Z9 hY h0;refine callsIn_wide.2 ?_;show Calls prog 161 #[.func (.yield l) #[] #[],.pointer (some Bg)] W _;have ao:W.cell? (Tac Bg 7)=some (.slice vp vs.length ab):=(cd (w:=w) (hW.block Bg ai)).trans hc;have HR:=aa ((ck.moves aN.moves).mv (ok':=fun b=>b<n₀) ⟨hW.size,fun b hb ho=>⟨ho,hW.block b hb⟩⟩ hr);have au:=cA hn hW.size;have HT:=aa ht;have HY:=aa hY;have HJ:=aa hJ;clear hc hr ht hY hJ Z9;go_enter func161,ntmps161;go_wp2
 go_loopw[12] (fun i wr=>∃k:Nat,k<=vs.length/\i=.int .i64 k/\J ((vs.take k).flatMap aW) wr/\Below n₀ W wr/\W.1.size<=wr.1.size) (fun i _=>vs.length-(intOf i).toNat)
 exact⟨0,cg _,rfl,TdO,bj _ _,bk _⟩;obtain⟨k,hk,rfl,hJs,hB,hz⟩:=hrel;by_cases hlt:k<vs.length
 ·obtain⟨v,hv⟩:=aj vs k hlt;have Qd:=HT.o v (ct hv);have GF:=Qd.1;have Vc:=aa Qd.2;clear Qd;obtain⟨b,off,u,rfl,gR,cX,ez,sA,ON⟩:=HR.o.elem hv;obtain⟨tv,gv,rfl,ew,a7⟩:=sA;obtain⟨tp,tc,rfl,_,_⟩:=ew.cap;obtain⟨gp,gc,rfl,az,aA⟩:=a7.cap;have cT:wr.1[b]?=W.1[b]?:=hB.block b gR;have q0:=(cd (w:=W) (a:=⟨b,off+k*6,none⟩) cT).trans (ON 0 _ rfl);have q1:=(cd (w:=W) (a:=⟨b,off+k*6+1,none⟩) cT).trans (ON 1 _ rfl);have q2:=(cd (w:=W) (a:=⟨b,off+k*6+2,none⟩) cT).trans (ON 2 _ rfl);have q3:=(cd (w:=W) (a:=⟨b,off+k*6+3,none⟩) cT).trans (ON 3 _ rfl);have q4:=(cd (w:=W) (a:=⟨b,off+k*6+4,none⟩) cT).trans (ON 4 _ rfl);have q5:=(cd (w:=W) (a:=⟨b,off+k*6+5,none⟩) cT).trans (ON 5 _ rfl);have HV:=aa hv;clear hv;replace a7:=aa a7;clear ew ON ez cT;have a8:=ae wr (.cells (Tah v tp tc gp gc) 68);have zv:=aa (b9 wr (.cells (Tah v tp tc gp gc) 68));have ak:=aa (HJ.o _ _ _ none hJs (cK a8) (fun r e=>by cases e));have cU:=aa (hB.trans (a8.mono Tc1));have am:=aa (cA hz a8.size);clear a8;clear hJs;go_upto_block 2 with(fail)
  clear q0 q1 q2 q3 q4 q5;generalize R0:wr.alloc _=W1 at *;generalize Vd:wr.1.size=Bv at *;clear R0 hB hz Vd;go_wp2;go_loopw[19] (fun j a9=>∃q:Nat,q<=v.Gf.length/\j=.int .i64 q/\J ((vs.take k).flatMap aW++(v.Gf.take q).flatMap (aK v.name)) a9/\Below n₀ W a9/\W.1.size<=a9.1.size/\a9.1[Bv]?=some (.cells (Tah v tp tc gp gc) 68 (0,0))) (fun j _=>v.Gf.length-(intOf j).toNat)
  exact⟨0,cg _,rfl,by simpa using ak.o,cU.o,am.o,zv.o⟩;obtain⟨q,hq,rfl,hJs,hB,hz,vA⟩:=hrel;by_cases hlt2:q<v.Gf.length
  ·obtain⟨s,hs⟩:=aj v.Gf q hlt2;have OP:=Vc.o s (ct hs);have hl0:=OP.1.1;have hl1:=OP.1.2;have Tp:=OP.2.1;have HTS:=aa OP.2.2;clear OP;obtain⟨b2,off2,u2,rfl,I0,C2,B5,eE,a5⟩:=a7.o.elem hs;obtain⟨av,Oz,rfl,mC,QT⟩:=eE;obtain⟨ap,ac,rfl,aB,aC⟩:=mC.cap;obtain⟨sp,sc,rfl,_,_⟩:=QT.cap;have cT:wr.1[b2]?=W.1[b2]?:=hB.block b2 I0;have q0:=(cd (w:=W) (a:=⟨b2,off2+q*11,none⟩) cT).trans (a5 0 _ rfl);have q1:=(cd (w:=W) (a:=⟨b2,off2+q*11+1,none⟩) cT).trans (a5 1 _ rfl);have q2:=(cd (w:=W) (a:=⟨b2,off2+q*11+2,none⟩) cT).trans (a5 2 _ rfl);have q3:=(cd (w:=W) (a:=⟨b2,off2+q*11+3,none⟩) cT).trans (a5 3 _ rfl);have q4:=(cd (w:=W) (a:=⟨b2,off2+q*11+4,none⟩) cT).trans (a5 4 _ rfl);have q5:=(cd (w:=W) (a:=⟨b2,off2+q*11+5,none⟩) cT).trans (a5 5 _ rfl);have q6:=(cd (w:=W) (a:=⟨b2,off2+q*11+6,none⟩) cT).trans (a5 6 _ rfl);have q7:=(cd (w:=W) (a:=⟨b2,off2+q*11+7,none⟩) cT).trans (a5 7 _ rfl);have q8:=(cd (w:=W) (a:=⟨b2,off2+q*11+8,none⟩) cT).trans (a5 8 _ rfl);have q9:=(cd (w:=W) (a:=⟨b2,off2+q*11+9,none⟩) cT).trans (a5 9 _ rfl);have ah:=(cd (w:=W) (a:=⟨b2,off2+q*11+10,none⟩) cT).trans (a5 10 _ rfl);have B6:=aa hs;clear hs;have ya:=aa mC;clear mC;clear QT a5 B5 cT;have hb2:=ae wr (.cells (Tae s ap ac sp sc) 114);have lj:=aa (b9 wr (.cells (Tae s ap ac sp sc) 114));have J0:=aa ((hb2.block Bv (aq vA)).trans vA);have TX:=aa (HJ.o _ _ _ none hJs (cK hb2) (fun r e=>by cases e));have cm:=aa (hB.trans (hb2.mono Tc1));have HZ2:=aa (cA hz hb2.size);have k2:(wr.alloc (.cells (Tae s ap ac sp sc) 114)).cell? (Tac wr.1.size 2)=some (.int .i64 s.kind):=aD rfl rfl;have k3:(wr.alloc (.cells (Tae s ap ac sp sc) 114)).cell? (Tac wr.1.size 3)=some (.slice ap s.Ga.length ac):=aD rfl rfl;clear hJs hb2 vA;by_cases G0:fP s
   ·have OU:s.kind=1\/s.kind=2\/s.kind=8:=G0;have E4:=aa G0;clear G0;go_upto_region 6 with(fail);clear q0 q1 q2 q3 q4 q5 q6 q7 q8 q9 ah;generalize af:wr.alloc _=W2 at *;generalize ag:wr.1.size=Bs at *;clear af hB hz ag;rcases OU with zE|zE|zE
    ·have Lk:(s.kind != 1)=false:=by simp[zE]
     exact TaZ
    ·have Lk:(s.kind != 1)=true:=by simp[zE]
     have QV:(s.kind != 2)=false:=by simp[zE]
     exact TaZ
    have Lk:(s.kind != 1)=true:=by simp[zE]
    have QV:(s.kind != 2)=true:=by simp[zE]
    have Ve:(s.kind != 8)=false:=by simp[zE]
    exact TaZ
   have n1:¬s.kind=1:=fun e=>G0 (.inl e)
   have n2:¬s.kind=2:=fun e=>G0 (.inr (.inl e));have n8:¬s.kind=8:=fun e=>G0 (.inr (.inr e));have Lk:(s.kind != 1)=true:=by simpa using n1
   have QV:(s.kind != 2)=true:=by simpa using n2
   have Ve:(s.kind != 8)=true:=by simpa using n8
   clear n1 n2 n8;have E4:=aa G0;clear G0;go_upto_region 6 with(fail);clear q0 q1 q2 q3 q4 q5 q6 q7 q8 q9 ah;generalize af:wr.alloc _=W2 at *;generalize ag:wr.1.size=Bs at *;clear af hB hz ag;go_wp2;go_roundw;exact⟨q+1,Tc1,Tc5,by rw[gq B6.o,show aK v.name s=[] from bh E4.o,eM];exact TX.o,cm.o,HZ2.o,J0.o⟩;simp[intOf];omega
  obtain rfl:q=v.Gf.length:=by omega
  rw[cI]at hJs;have OV:=aa hJs;clear hJs;have Qe:=aa vA;clear vA;go_wp2;go_roundw;exact⟨k+1,Tc1,Tc5,by rw[gq HV.o];exact OV.o,hB,hz⟩;simp[intOf];omega
 obtain rfl:k=vs.length:=by omega
 rw[cI]at hJs;go_wp2;go_end0
 exact⟨⟨_,rfl⟩,.inl ⟨_,rfl,hJs⟩⟩
def TcA{p:Prop}(h:p:=by
 go_wp2
 all_goals
  go_ret;exact⟨by simp[nT];try omega,(bj _ _).alloc (bk _) _⟩):p:=h
def AQ(s l:Int)(w:World) :
  Calls prog 163 #[.agg #[s,l]] w fun e w'=>e=.returned (.bool (nT s l))/\Below w.1.size w w':=by
 go_enter func163,ntmps163;exact TcA
def Ir(s l:Int)(w:World) :
  Calls prog 88 #[.agg #[s,l]] w fun e w'=>e=.returned (.bool (nT s l))/\Below w.1.size w w':=by
 go_enter func88,ntmps88;exact TcA
def G6{l:Int}(w:World)(b:Bool)(h:nT s l=b) :
  Calls prog 88 #[.agg #[s,l]] w fun e w'=>e=.returned (.bool b)/\Below w.1.size w w':=h ▸ Ir s l w
def zA(l:List (Int × Int))(k:Nat)(x:Int × Int)(h:l[k]?=some x)(hv:nT x.1 x.2=false):dI l=false:=by
 unfold dI;rw[ad2];exact⟨x,ct h,by simp[hv]⟩
def Cm(l:List (Int × Int))(k:Nat)(x:Int × Int)(h:l[k]?=some x)(ha:dI (l.take k)=true)(hv:nT x.1 x.2=true):dI (l.take (k+1))=true:=by
 rw[take_snoc' l k x h];unfold dI at *;rw[List.all_append,ha];simp[hv]
def Ce(l:List (Int × Int))(k:Nat)(h:l.length<=k)(ha:dI (l.take k)=true):dI l=true:=by
 rw[jz h]at ha;exact ha
def Gp(l:List (Int × Int))(n:Int):Bool:=l.any fun p=>nT p.1 p.2&&decide (p.1<=n)&&decide (n<p.1+p.2)
def Ib(l:List (Int × Int))(k:Nat)(x:Int × Int)(n:Int)(h:l[k]?=some x)(hv:nT x.1 x.2=true)(h1:x.1<=n)(h2:n<x.1+x.2):Gp l n=true:=by
 unfold Gp;rw[nh];exact⟨x,ct h,by simp[hv,h1,h2]⟩
def Gw(l:List (Int × Int))(k:Nat)(x:Int × Int)(n:Int)(h:l[k]?=some x)(ha:Gp (l.take k) n=false)(hv:nT x.1 x.2=false\/n<x.1\/x.1+x.2<=n):Gp (l.take (k+1)) n=false:=by
 rw[take_snoc' l k x h];unfold Gp at *;rw[rj,ha];simp;intro a b;rcases hv with hv|hv|hv
 ·rw[hv]at a;cases a
 ·omega
 omega
def Ii(l:List (Int × Int))(k:Nat)(n:Int)(h:l.length<=k)(ha:Gp (l.take k) n=false):Gp l n=false:=by
 rw[jz h]at ha;exact ha
def En{l:Int}(h:nT s l=true):0<=s/\0<=l/\s<=1073741824/\l<=1073741824-s:=by
 unfold nT at h;simp at h;omega
def Gz(l:List (Int × Int))(n:Int)(v:Value)(w:World)(hn:n<=9223372036854775807)(hr:xo w v l) :
  Calls prog 40 #[v,.int .i64 n] w fun e w'=>e=.returned (.bool (Gp l n))/\Below w.1.size w w':=by
 obtain⟨p,cap,rfl,a8,ij,hp⟩:=hr;go_enter func40,ntmps40;go_wp2
 go_loopw[5] (fun i wr=>∃k:Nat,k<=l.length/\i=.int .i64 k/\Gp (l.take k) n=false/\Below w.1.size w wr) (fun i _=>l.length-(intOf i).toNat)
 exact⟨0,cg _,rfl,rfl,bj _ _⟩;obtain⟨k,hk,rfl,hall,hb⟩:=hrel;replace hall:=aa hall;by_cases hlt:k<l.length
 ·obtain⟨b,off,rfl,gO,hc⟩:=hp Tc1;obtain⟨x,hx⟩:=aj l k hlt;have a5:=(hc.below hb gO) k x hx;have cX:b<wr.1.size:=cC gO hb.size;have a9:=aG cX a5.1;have zc:=aG cX a5.2;replace hx:=aa hx;clear hc hp a5;cases hv:nT x.1 x.2
  ·go_wp2_with fail;(refine aU Tc3 Tc3 ?_;(repeat(go_big_quiet_step ((go_at_call 88;exact iH (G6 _ _ hv)))));(with_reducible refine fR ?_);intro wq ia;have kq:=dY ia;clear ia)
   go_wp2;go_roundw;exact⟨k+1,Tc1,Tc5,Gw l k x n hx.o hall.o (.inl hv),mn hb kq⟩;simp[intOf];omega
  have a7:=En hv;obtain⟨ab,ae,af,ag⟩:=a7;by_cases h1:x.1<=n
  ·have ai:IntKind.i64.wrap (n-x.1)=n-x.1:=dy _ Tc1;by_cases h2:n-x.1<x.2
   ·go_wp2_with fail;(refine aU Tc3 Tc3 ?_;(repeat(go_big_quiet_step ((go_at_call 88;exact iH (G6 _ _ hv)))));(with_reducible refine fR ?_);intro wq ia;have kq:=dY ia;clear ia)
    go_wp2;go_ret;exact⟨ah (Ib l k x n hx.o hv h1 Tc1).symm,mn hb kq⟩
   have ak:decide (n-x.1<x.2)=false:=by simp;omega
   go_wp2_with fail;(refine aU Tc3 Tc3 ?_;(repeat(go_big_quiet_step ((go_at_call 88;exact iH (G6 _ _ hv)))));(with_reducible refine fR ?_);intro wq ia;have kq:=dY ia;clear ia)
   go_wp2;go_roundw;exact⟨k+1,Tc1,Tc5,Gw l k x n hx.o hall.o (.inr (.inr Tc1)),mn hb kq⟩;simp[intOf];omega
  have am:decide (x.1<=n)=false:=by simp;omega
  go_wp2_with fail;(refine aU Tc3 Tc3 ?_;(repeat(go_big_quiet_step ((go_at_call 88;exact iH (G6 _ _ hv)))));(with_reducible refine fR ?_);intro wq ia;have kq:=dY ia;clear ia)
  go_wp2;go_roundw;exact⟨k+1,Tc1,Tc5,Gw l k x n hx.o hall.o (.inr (.inl Tc1)),mn hb kq⟩;simp[intOf];omega
 go_wp2;go_ret;exact⟨ah (Ii l k n Tc1 hall.o).symm,hb⟩
def Mem(l:List (Int × Int))(n:Int):Prop:=∃p∈l,p.1<=n/\n<p.1+p.2
def NF(x:List (Int × Int)):Prop:=(∀p∈x,1<=p.2)/\x.Pairwise fun p q=>p.1+p.2<q.1
def iE(x:List (Int × Int))(S:Int->Prop):Prop:=NF x/\∀n,Mem x n↔S n
def jd(n:Int):¬Mem [] n:=by rintro⟨p,h,_⟩;cases h
def fK(p:Int × Int)(l:List (Int × Int))(n:Int):Mem (p :: l) n↔(p.1<=n/\n<p.1+p.2)\/Mem l n:=by
 unfold Mem;constructor
 ·rintro⟨q,hq,h⟩;rcases F1.1 hq with rfl|hq
  ·exact .inl h
  exact .inr ⟨q,hq,h⟩
 rintro(h|⟨q,hq,h⟩)
 ·exact⟨p,Tc2,h⟩
 exact⟨q,TdR,h⟩
def gH(a b:List (Int × Int))(n:Int):Mem (a++b) n↔Mem a n\/Mem b n:=by
 unfold Mem;constructor
 ·rintro⟨q,hq,h⟩;rcases AS.1 hq with hq|hq
  ·exact .inl ⟨q,hq,h⟩
  exact .inr ⟨q,hq,h⟩
 rintro(⟨q,hq,h⟩|⟨q,hq,h⟩)
 ·exact⟨q,TdR,h⟩
 exact⟨q,TdR,h⟩
def ko(p:Int × Int)(n:Int):Mem [p] n↔p.1<=n/\n<p.1+p.2:=by
 rw[fK];exact⟨fun h=>h.elim id (fun h=>absurd h (jd n)),.inl⟩
def yP:NF []:=⟨Tc2,Tc2⟩
def NF.tail(h:NF (p :: x)):NF x:=⟨fun q hq=>h.1 q TdR,(IN.1 h.2).2⟩
def NF.head(h:NF (p :: x)):1<=p.2/\∀q∈x,p.1+p.2<q.1:=⟨h.1 p Tc2,(IN.1 h.2).1⟩
def NF.lo(h:NF (p :: x))(hn:Mem (p :: x) n):p.1<=n:=by
 obtain⟨q,hq,h1,_⟩:=hn;have hh:=h.head;rcases F1.1 hq with rfl|hq
 ·exact h1
 have:=hh.2 q hq;omega
def NF.tailMem(h:NF (p :: x))(n:Int):Mem x n↔Mem (p :: x) n/\p.1+p.2<=n:=by
 rw[fK];constructor
 ·rintro⟨q,hq,h1,h2⟩;have:=h.head.2 q hq;exact⟨.inr ⟨q,hq,h1,h2⟩,Tc1⟩
 rintro⟨h1|h1,h2⟩
 ·omega
 exact h1
def tX:∀(x y:List (Int × Int)),NF x->NF y->(∀n,Mem x n↔Mem y n)->x=y
 |[],[],_,_,_=>rfl
 |[],q :: y,_,hy,h=>by
  have hh:=hy.head;exact absurd ((h q.1).2 ((fK ..).2 (.inl ⟨Tc1,Tc1⟩))) (jd _)
 |p :: x,[],hx,_,h=>by
  have hh:=hx.head;exact absurd ((h p.1).1 ((fK ..).2 (.inl ⟨Tc1,Tc1⟩))) (jd _)
 |p :: x,q :: y,hx,hy,h=>by
  have hp:=hx.head;have hq:=hy.head;have a1:q.1<=p.1:=hy.lo ((h p.1).1 ((fK ..).2 (.inl ⟨Tc1,Tc1⟩)));have a2:p.1<=q.1:=hx.lo ((h q.1).2 ((fK ..).2 (.inl ⟨Tc1,Tc1⟩)));have b1:¬Mem (p :: x) (p.1+p.2):=by
   rw[fK];rintro(⟨_,h⟩|⟨r,hr,h1,_⟩)
   ·omega
   have:=hp.2 r hr;omega
  have b2:¬Mem (q :: y) (q.1+q.2):=by
   rw[fK];rintro(⟨_,h⟩|⟨r,hr,h1,_⟩)
   ·omega
   have:=hq.2 r hr;omega
  have c:p.2=q.2:=by
   rcases Int.lt_trichotomy p.2 q.2 with hlt|heq|Vo
   ·exact absurd ((h _).2 ((fK ..).2 (.inl ⟨Tc1,Tc1⟩))) b1
   ·exact heq
   exact absurd ((h _).1 ((fK ..).2 (.inl ⟨Tc1,Tc1⟩))) b2
  have e:p=q:=Prod.ext Tc1 c;subst e;rw[tX x y hx.tail hy.tail (fun n=>by rw[hx.tailMem,hy.tailMem,h n])]
def iE.eq{y:List (Int × Int)}(hx:iE x S)(hy:iE y T)(h:∀n,S n↔T n):x=y :=
 tX x y hx.1 hy.1 (fun n=>by rw[hx.2,hy.2,h n])
def iE.congr(hx:iE x S)(h:∀n,S n↔T n):iE x T:=⟨hx.1,fun n=>by rw[hx.2,h n]⟩
def cZ(a5:List (Int × Int))(r:Int × Int):List (Int × Int) :=
 if r.2=0 then a5 else
 match a5.getLast? with
 |none=>a5++[r]
 |some q=>if r.1<=q.1+q.2 then a5.dropLast++[(q.1,max q.2 (r.1+r.2-q.1))] else a5++[r]
def yw(l:List α)(q:α)(h:l.getLast?=some q):l=l.dropLast++[q]:=by
 obtain⟨hne,e⟩:=List.getLast?_eq_some_iff.1 h;rw[e];simp
def qg(i:List (Int × Int))(q:Int × Int):NF (i++[q])↔NF i/\1<=q.2/\∀p∈i,p.1+p.2<q.1:=by
 unfold NF;rw[tP];simp;constructor
 ·rintro⟨h1,h2,h3⟩;exact⟨⟨fun a b h=>h1 a b (.inl h),h2⟩,h1 q.1 q.2 (.inr rfl),h3⟩
 rintro⟨⟨h1,h2⟩,h3,h4⟩;refine⟨fun a b h=>?_,h2,h4⟩;rcases h with h|h
 ·exact h1 a b h
 subst h;exact h3
def uQ(a5:List (Int × Int))(r:Int × Int)(hn:NF a5)(h0:0<=r.2)(hs:∀q∈a5,q.1<=r.1) :
  NF (cZ a5 r)/\(∀n,Mem (cZ a5 r) n↔Mem a5 n\/(r.1<=n/\n<r.1+r.2))/\∀q∈cZ a5 r,q.1<=r.1:=by
 unfold cZ;by_cases hz:r.2=0
 ·rw[aw hz];refine⟨hn,fun n=>⟨.inl,fun h=>h.elim id fun h=>by omega⟩,hs⟩
 rw[bh hz]
 cases hl:a5.getLast? with
 |none =>
  rw[List.getLast?_eq_none_iff]at hl;subst hl;refine⟨⟨Tc6,Tc2⟩,fun n=>?_,Tc2⟩;show Mem ([]++[r]) n↔_;rw[gH,ko]
 |some q =>
  have he:=yw a5 q hl;generalize a5.dropLast=i at he;subst he;rw[qg]at hn;obtain⟨h1,h2,h3⟩:=hn;have T9:=hs q Tc2;by_cases hc:r.1<=q.1+q.2
  ·simp only[hc,ej];refine⟨(qg _ _).2 ⟨h1,by simp only[];omega,h3⟩,fun n=>?_,fun p hp=>?_⟩
   ·rw[gH,gH,ko,ko];simp only[];constructor
    ·rintro(h|⟨ha,hb⟩)
     ·exact .inl (.inl h)
     by_cases hq:n<q.1+q.2
     ·exact .inl (.inr ⟨ha,hq⟩)
     exact .inr ⟨Tc1,Tc1⟩
    rintro((h|⟨ha,hb⟩)|⟨ha,hb⟩)
    ·exact .inl h
    ·exact .inr ⟨ha,Tc1⟩
    exact .inr ⟨Tc1,Tc1⟩
   rcases AS.1 hp with hp|hp
   ·exact hs p (by simp[hp])
   simp at hp;subst hp;exact T9
  simp only[hc,fY];refine⟨(qg _ _).2 ⟨(qg _ _).2 ⟨h1,h2,h3⟩,Tc1,fun p hp=>?_⟩,fun n=>by rw[gH,ko],fun p hp=>?_⟩
  ·rcases AS.1 hp with hp|hp
   ·have:=h3 p hp;omega
   simp at hp;subst hp;omega
  rcases AS.1 hp with hp|hp
  ·exact hs p hp
  simp at hp;subst hp;omega
def merge(l:List (Int × Int)):List (Int × Int):=l.foldl cZ []
def fQ(l:List (Int × Int))(r:Int × Int):merge (l++[r])=cZ (merge l) r:=by simp[merge]
def Dc(l:List (Int × Int))(hs:l.Pairwise fun p q=>p.1<=q.1)(h0:∀p∈l,0<=p.2) :
  NF (merge l)/\(∀n,Mem (merge l) n↔Mem l n)/\∀q∈merge l,∃p∈l,q.1<=p.1:=by
 induction hr:l.length generalizing l with
 |zero =>
  have:l=[]:=fX hr;subst this;exact⟨yP,fun n=>Iff.rfl,by simp[merge]⟩
 |succ m ih =>
  have hne:l≠[]:=by rintro rfl;simp at hr
  obtain⟨i,r,rfl⟩:∃i r,l=i++[r]:=⟨l.dropLast,l.getLast hne,(List.dropLast_concat_getLast hne).symm⟩;rw[tP]at hs;obtain⟨s1,_,s3⟩:=hs;obtain⟨a,b,c⟩:=ih i s1 (fun p hp=>h0 p (by simp[hp])) (by simp at hr;omega);rw[fQ]
  obtain⟨a',b',c'⟩:=uQ (merge i) r a (h0 r Tc2) (fun q hq=>by
   obtain⟨p,hp,h⟩:=c q hq;have:=s3 p hp r Tc2;omega)
  refine⟨a',fun n=>?_,fun q hq=>⟨r,Tc2,c' q hq⟩⟩;rw[b',b,gH,ko]
def zL(l s:List (Int × Int))(hp:s.Perm l)(hs:s.Pairwise fun p q=>p.1<=q.1)(h0:∀p∈l,0<=p.2):iE (merge s) (Mem l):=by
 obtain⟨a,b,_⟩:=Dc s hs (fun p h=>h0 p (hp.mem_iff.1 h));refine⟨a,fun n=>(b n).trans ?_⟩;unfold Mem;exact⟨fun⟨p,h,k⟩=>⟨p,hp.mem_iff.1 h,k⟩,fun⟨p,h,k⟩=>⟨p,hp.mem_iff.2 h,k⟩⟩
def kO(l:List (Int × Int))(n:Int):Bool:=l.any fun p=>decide (p.1<=n)&&decide (n<p.1+p.2)
def fe(l:List (Int × Int))(n:Int):kO l n=true↔Mem l n:=by
 unfold kO Mem;rw[nh];simp
def LX{a b:List (Int × Int)}(h:Mem a n↔Mem b n):kO a n=kO b n:=by
 rw[mN,fe,fe,h]
def EK(hx:NF x)(i:Nat)(n:Int)(h1:∀p∈x.take i,p.1+p.2<=n)(h2:∀y,x[i]?=some y->n<y.1+y.2) :
  kO x n=true↔∃y,x[i]?=some y/\y.1<=n:=by
 rw[fe];constructor
 ·rintro⟨p,hp,ha,hb⟩;obtain⟨j,hj⟩:=fc hp;have nr:i<=j:=by
   rcases mm j i with h|h
   ·have:=h1 p (List.mem_iff_getElem?.2 ⟨j,by rw[ri h];exact hj⟩);omega
   exact h
  rcases B0 nr with e|hlt
  ·subst e;exact⟨p,hj,ha⟩
  obtain⟨vt,a7⟩:=AT.1 hj;have a5:i<x.length:=by omega
  have Ua:=It.1 hx.2 i j a5 vt hlt;have hy:=lO a5;have h3:=h2 _ hy;rw[a7]at Ua;omega
 rintro⟨y,hy,hle⟩;exact⟨y,ct hy,hle,h2 y hy⟩
def Gf:List Int->(Int->Bool)->List (Int × Int)
 |p :: q :: t,f=>(if f p then [(p,q-p)] else [])++Gf (q :: t) f
 |_,_=>[]
def uh(f:Int->Bool)(p q:Int):∀l:List Int,Gf (l++[p,q]) f=Gf (l++[p]) f++(if f p then [(p,q-p)] else [])
 |[]=>by simp[Gf]
 |[a]=>by simp[Gf]
 |a :: b :: t=>by
  have:=uh f p q (b :: t);simp only[List.cons_append,Gf]at this ⊢;rw[this,cV]
def tu(P:List Int)(f:Int->Bool)(m:Nat)(p q:Int)(hp:P[m]?=some p)(hq:P[m+1]?=some q):Gf (P.take (m+2)) f=Gf (P.take (m+1)) f++(if f p then [(p,q-p)] else []):=by
 obtain⟨h1,e1⟩:=AT.1 hp;obtain⟨h2,e2⟩:=AT.1 hq;rw[af1 (show m+1<P.length by omega),af1 (show m<P.length by omega),e1,e2,cV];exact uh f p q (P.take m)
def iY(l:List (Int × Int))(p q n:Int)(hno:∀r∈l,(r.1<=p\/q<=r.1)/\(r.1+r.2<=p\/q<=r.1+r.2))(h1:p<=n)(h2:n<q):Mem l n↔Mem l p:=by
 constructor
 ·rintro⟨r,hr,ha,hb⟩;have:=hno r hr;exact⟨r,hr,Tc1,Tc1⟩
 rintro⟨r,hr,ha,hb⟩;have:=hno r hr;exact⟨r,hr,Tc1,Tc1⟩
def TdD{p:Prop}(h:p:=by simpa using h1):p:=h
def xA(f:Int->Bool):∀(P:List Int) (n:Int),P.Pairwise (·<·)->(Mem (Gf P f) n↔∃(i:Nat) (p q:Int),P[i]?=some p/\P[i+1]?=some q/\p<=n/\n<q/\f p=true)
 |[],n,_=>by
  constructor
  ·intro h;exact absurd h (jd n)
  rintro⟨i,p,q,h,_⟩;simp at h
 |[a],n,_=>by
  constructor
  ·intro h;exact absurd h (jd n)
  rintro⟨i,p,q,_,h,_⟩;simp at h
 |a :: b :: t,n,hs=>by
  have ih:=xA f (b :: t) n (IN.1 hs).2;rw[Gf,gH,ih];constructor
  ·rintro(h|⟨i,p,q,h⟩)
   ·by_cases hf:f a=true
    ·simp only[hf,ej]at h;rw[ko]at h;exact⟨0,a,b,rfl,rfl,h.1,by have:=h.2;simp only[]at this;omega,hf⟩
    simp only[hf]at h;exact absurd h (jd n)
   exact⟨i+1,p,q,Tdq⟩
  rintro⟨i,p,q,h1,h2,h3,h4,h5⟩
  cases i with
  |zero =>
   simp at h1 h2;subst h1 h2;refine .inl ?_;simp only[h5,ej];rw[ko];exact⟨h3,by simp only[];omega⟩
  |succ i=>exact .inr ⟨i,p,q,TdD,by simpa using h2,h3,h4,h5⟩
def kS:∀(P:List Int) (n:Int),P.Pairwise (·<·)->(∃p∈P,p<=n)->(∃q∈P,n<q)->∃(i:Nat) (p q:Int),P[i]?=some p/\P[i+1]?=some q/\p<=n/\n<q
 |[],_,_,⟨p,hp,_⟩,_=>by cases hp
 |[a],n,_,⟨p,hp,h1⟩,⟨q,hq,h2⟩=>by simp at hp hq;omega
 |a :: b :: t,n,hs,⟨p,hp,h1⟩,⟨q,hq,h2⟩=>by
  have a5:=IN.1 hs;by_cases hb:n<b
  ·refine⟨0,a,b,rfl,rfl,?_,hb⟩;rcases F1.1 hp with rfl|hp
   ·exact h1
   have:=a5.1 p hp;omega
  obtain⟨i,p',q',e1,e2,e3⟩:=kS (b :: t) n a5.2 ⟨b,Tc2,Tc1⟩ (by
   rcases F1.1 hq with rfl|hq
   ·have:=a5.1 b Tc2;omega
   exact⟨q,hq,h2⟩)
  exact⟨i+1,p',q',by simpa using e1,by simpa using e2,e3⟩
def d9{P:List Int}(hs:P.Pairwise (·<·)){i:Nat}{p q t:Int}(hp:P[i]?=some p)(hq:P[i+1]?=some q)(ht:t∈P):t<=p\/q<=t:=by
 obtain⟨j,hj⟩:=fc ht;obtain⟨h1,e1⟩:=AT.1 hp;obtain⟨h2,e2⟩:=AT.1 hq;obtain⟨h3,e3⟩:=AT.1 hj;rw[It]at hs;rcases Nat.lt_trichotomy j i with h|h|h
 ·left;have:=hs j i h3 h1 h;omega
 ·subst h;left;omega
 right
 rcases B0 (show i+1<=j by omega)with h4|h4
 ·subst h4;omega
 have:=hs (i+1) j h2 h3 h4;omega
def xD(a b:List (Int × Int))(c:Bool->Bool->Bool)(h0:c false false=false)(P:List Int)(hs:P.Pairwise (·<·))(hP:∀r,r∈a\/r∈b->r.1∈P/\r.1+r.2∈P)(n:Int) :
  Mem (Gf P fun t=>c (kO a t) (kO b t)) n↔c (kO a n) (kO b n)=true:=by
 rw[xA _ P n hs];constructor
 ·rintro⟨i,p,q,h1,h2,h3,h4,h5⟩;have ha:=iY a p q n (fun r hr=>⟨d9 hs h1 h2 (hP r (.inl hr)).1,d9 hs h1 h2 (hP r (.inl hr)).2⟩) h3 h4;have hb:=iY b p q n (fun r hr=>⟨d9 hs h1 h2 (hP r (.inr hr)).1,d9 hs h1 h2 (hP r (.inr hr)).2⟩) h3 h4;rw[LX (a:=a) (b:=a) Iff.rfl]at h5;have e1:kO a n=kO a p:=by rw[mN,fe,fe,ha]
  have e2:kO b n=kO b p:=by rw[mN,fe,fe,hb]
  rw[e1,e2];exact h5
 intro h;have hm:Mem a n\/Mem b n:=by
  cases ha:kO a n with
  |true=>exact .inl ((fe a n).1 ha)
  |false =>
   cases hb:kO b n with
   |true=>exact .inr ((fe b n).1 hb)
   |false=>rw[ha,hb,h0]at h;cases h
 obtain⟨r,hr,h1,h2⟩:∃r,(r∈a\/r∈b)/\r.1<=n/\n<r.1+r.2:=by
  rcases hm with⟨r,hr,h⟩|⟨r,hr,h⟩
  ·exact⟨r,.inl hr,h⟩
  exact⟨r,.inr hr,h⟩
 obtain⟨i,p,q,e1,e2,e3,e4⟩:=kS P n hs ⟨_,(hP r hr).1,h1⟩ ⟨_,(hP r hr).2,h2⟩;have ha:=iY a p q n (fun r hr=>⟨d9 hs e1 e2 (hP r (.inl hr)).1,d9 hs e1 e2 (hP r (.inl hr)).2⟩) e3 e4;have hb:=iY b p q n (fun r hr=>⟨d9 hs e1 e2 (hP r (.inr hr)).1,d9 hs e1 e2 (hP r (.inr hr)).2⟩) e3 e4;refine⟨i,p,q,e1,e2,e3,e4,?_⟩;have f1:kO a n=kO a p:=by rw[mN,fe,fe,ha]
 have f2:kO b n=kO b p:=by rw[mN,fe,fe,hb]
 show c (kO a p) (kO b p)=true;rw[<- f1,<- f2];exact h
def uq(f:Int->Bool):∀(P:List Int),P.Pairwise (·<·)->∀r∈Gf P f,r.1∈P/\r.1+r.2∈P/\1<=r.2
 |[],_,r,h=>by cases h
 |[a],_,r,h=>by cases h
 |a :: b :: t,hs,r,h=>by
  have a5:=IN.1 hs;rw[Gf]at h;rcases AS.1 h with h|h
  ·by_cases hf:f a=true
   ·simp only[hf,ej,AM]at h;subst h;have:=a5.1 b Tc2;exact⟨Tc2,by simp only[];rw[show a+(b-a)=b by omega];simp,by simp only[];omega⟩
   simp only[hf]at h;cases h
  have:=uq f (b :: t) a5.2 r h;exact⟨by simp[this.1],by have h2:=this.2.1;exact kn _ h2,this.2.2⟩
def wJ(f:Int->Bool):∀(P:List Int),(Gf P f).length<=P.length
 |[]=>by simp[Gf]
 |[a]=>by simp[Gf]
 |a :: b :: t=>by
  have:=wJ f (b :: t);rw[Gf];split<;>simp at * <;> omega
def Jg(d:Array Int)(hd:∀i j,i<j->j<d.size->d[i]! <= d[j]!)(m:Nat)(hm:m<=d.size) :
  (Ly d m).Pairwise (·<·)/\(∀n,n∈Ly d m↔∃j,j<m/\d[j]! = n):=by
 induction m with
 |zero=>simp[Ly]
 |succ m ih =>
  obtain⟨h1,h2⟩:=ih Tc1;rw[Lib.compactUpTo_succ];by_cases hk:Lib.keeps d m=true
  ·simp only[hk,ej];refine⟨?_,fun n=>?_⟩
   ·rw[tP];refine⟨h1,Tc2,fun x hx y hy=>?_⟩;simp at hy;subst hy;obtain⟨j,hj,rfl⟩:=(h2 x).1 hx;have hle:=hd j m hj Tc1;have a5:m≠0:=by omega
    have hne:d[m]! ≠ d[m-1]! := by
     unfold Lib.keeps at hk;simp[a5]at hk;simpa using hk
    have h3:d[m-1]! <= d[m]! := hd (m-1) m Tc1 Tc1;rcases B0 (show j<=m-1 by omega)with e|e
    ·subst e;omega
    have:=hd j (m-1) e Tc1;omega
   rw[oT,h2];constructor
   ·rintro(⟨j,hj,e⟩|h)
    ·exact⟨j,Tc1,e⟩
    simp at h;exact⟨m,Tc1,by simp[h]⟩
   rintro⟨j,hj,e⟩;rcases B0 (show j<=m by omega)with e'|e'
   ·subst e';right;simp[e]
   left;exact⟨j,e',e⟩
  simp only[hk];have a5:0<m:=by
   rcases Nat.eq_zero_or_pos m with e|e
   ·subst e;exact absurd (Lib.keeps_lt_one d 0 Tc1) hk
   exact e
  have heq:d[m]! = d[m-1]! := by
   by_cases h:d[m]! = d[m-1]!
   ·exact h
   exact absurd (Lib.keeps_pos h) hk
  refine⟨TdD,fun n=>?_⟩;simp only[pj,fY,eM];rw[h2];constructor
  ·rintro⟨j,hj,e⟩;exact⟨j,Tc1,e⟩
  rintro⟨j,hj,e⟩;rcases B0 (show j<=m by omega)with e'|e'
  ·subst e';exact⟨j-1,Tc1,by rw[<- heq];exact e⟩
  exact⟨j,e',e⟩
def qi(zs:List Int)(h:zs.Pairwise (·<=·)):(IT zs).Pairwise (·<·)/\∀n,n∈IT zs↔n∈zs:=by
 have:=Jg zs.toArray (fun i j OG hj=>by
  have a5:j<zs.length:=by simpa using hj
  have h1:=It.1 h i j Tc1 a5 OG;simpa[oB,show i<zs.length by omega,a5]using h1) zs.length Tc2
 refine⟨this.1,fun n=>(this.2 n).trans ?_⟩;constructor
 ·rintro⟨j,hj,e⟩;rw[<- e];simp[oB,hj]
 intro hn;obtain⟨j,hj⟩:=fc hn;obtain⟨h1,h2⟩:=AT.1 hj;exact⟨j,h1,by simp[hj]⟩
def qz(a5:List (Int × Int))(r:Int × Int):List (Int × Int) :=
 match a5.getLast? with
 |none=>a5++[r]
 |some q=>if q.1+q.2=r.1 then a5.dropLast++[(q.1,q.2+r.2)] else a5++[r]
def glue(l:List (Int × Int)):List (Int × Int):=l.foldl qz []
def Gx(l:List (Int × Int))(r:Int × Int):glue (l++[r])=qz (glue l) r:=by simp[glue]
def GM(a5:List (Int × Int))(r:Int × Int)(h1:1<=r.2)(h:∀q∈a5,q.1+q.2<=r.1):qz a5 r=cZ a5 r:=by
 unfold qz cZ;rw[bh Tc1];cases hl:a5.getLast? with
 |none=>rfl
 |some q =>
  have hq:=h q (List.mem_of_getLast? hl);simp only[];by_cases he:q.1+q.2=r.1
  ·rw[aw he,aw Tc1];congr 3
   omega
  rw[bh he,bh Tc1]
def Row(l:List (Int × Int)):Prop:=(∀p∈l,1<=p.2)/\l.Pairwise fun p q=>p.1+p.2<=q.1
def Row.starts{l:List (Int × Int)}(h:Row l):l.Pairwise fun p q=>p.1<=q.1:=by
 have h2:=h.2;have h1:=h.1;clear h;induction l with
 |nil=>exact List.Pairwise.nil
 |cons p l ih =>
  rw[IN]at h2 ⊢;refine⟨fun q hq=>?_,ih h2.2 (fun q hq=>h1 q TdR)⟩;have:=h2.1 q hq;have:=h1 p Tc2;omega
def GA(l:List (Int × Int))(h:Row l):glue l=merge l:=by
 induction hr:l.length generalizing l with
 |zero =>
  have:l=[]:=fX hr;subst this;rfl
 |succ m ih =>
  have hne:l≠[]:=by rintro rfl;simp at hr
  obtain⟨i,r,rfl⟩:∃i r,l=i++[r]:=⟨l.dropLast,l.getLast hne,(List.dropLast_concat_getLast hne).symm⟩;have hp:=h.2;rw[tP]at hp;have hi:Row i:=⟨fun p hp=>h.1 p (by simp[hp]),hp.1⟩;rw[Gx,fQ,ih i hi (by simp at hr;omega)];obtain⟨a,b,_⟩:=Dc i hi.starts (fun p hp=>by have:=hi.1 p hp;omega);refine GM _ _ (h.1 r Tc2) (fun q hq=>?_);have h1:=a.1 q hq;obtain⟨s,hs,_,hs2⟩:=(b (q.1+q.2-1)).1 ⟨q,hq,Tc1,Tc1⟩;have:=hp.2.2 s hs r Tc2;omega
def GH(f:Int->Bool):∀(P:List Int),P.Pairwise (·<·)->Row (Gf P f)
 |[],_=>⟨by simp[Gf],by simp[Gf]⟩
 |[a],_=>⟨by simp[Gf],by simp[Gf]⟩
 |a :: b :: t,hs=>by
  have a5:=IN.1 hs;have ih:=GH f (b :: t) a5.2;have hab:=a5.1 b Tc2;rw[Gf];by_cases hf:f a=true
  ·simp only[hf,ej,List.singleton_append];refine⟨fun p hp=>?_,IN.2 ⟨fun q hq=>?_,ih.2⟩⟩
   ·rcases F1.1 hp with rfl|hp
    ·simp only[];omega
    exact ih.1 p hp
   have h1:=(uq f (b :: t) a5.2 q hq).1;simp only[];rcases F1.1 h1 with h2|h2
   ·omega
   have:=(IN.1 a5.2).1 _ h2;omega
  simp only[hf];simpa using ih
def GX(P:List Int)(f:Int->Bool)(hs:P.Pairwise (·<·)):NF (glue (Gf P f))/\∀n,Mem (glue (Gf P f)) n↔Mem (Gf P f) n:=by
 have h:=GH f P hs;rw[GA _ h];obtain⟨a,b,_⟩:=Dc _ h.starts (fun p hp=>by have:=h.1 p hp;omega);exact⟨a,b⟩
def GV(o:List (Int × Int))(r:Int × Int):(qz o r).length<=o.length+1:=by
 unfold qz;split
 ·simp
 split
 ·simp only[cD,List.length_dropLast,A4];omega
 simp
def Io(l:List (Int × Int)):(glue l).length<=l.length:=by
 induction hr:l.length generalizing l with
 |zero =>
  have:l=[]:=fX hr;subst this;simp[glue]
 |succ m ih =>
  have hne:l≠[]:=by rintro rfl;simp at hr
  obtain⟨i,r,rfl⟩:∃i r,l=i++[r]:=⟨l.dropLast,l.getLast hne,(List.dropLast_concat_getLast hne).symm⟩;rw[Gx];have:=GV (glue i) r;have:=ih i (by simp at hr;omega);omega
def GN(kind:Int)(x y:Bool):Bool:=if kind=0 then x||y else if kind=1 then x&&!y else x&&y
open Go.Sort
variable {w:World}{B g n:Nat}{v:Value}{l:List (Int × Int)}{os:Array Obj}
def encR(x:Int × Int):List Value:=[.int .i64 x.1,.int .i64 x.2]
def oU(l:List (Int × Int)):flatK encR 2 l.toArray=(bU l).toArray:=by
 apply Array.ext_getElem?;intro t
 by_cases ht:t<l.length*2
 ·have h1:(flatK encR 2 l.toArray)[t]?=some ((encR l.toArray[t/2]!)[t%2]!):=by
   rw[aa0 TdN];have:=get_flatK encR 2 l.toArray t TdN;rw[oB _ t TdN]at this;rw[this]
  rw[h1];obtain⟨x,hx⟩:=aj l (t/2) Tc1;have hg:=kr l (t/2) x hx;have a5:l.toArray[t/2]! = x:=by simp[hx]
  rw[a5];rcases Nat.mod_two_eq_zero_or_one t with hm|hm
  ·rw[hm];have:t/2*2=t:=by omega
   rw[this]at hg;simpa[encR]using hg.1.symm
  rw[hm];have:t/2*2+1=t:=by omega
  rw[this]at hg;simpa[encR]using hg.2.symm
 rw[xp TdN,xp (by simp[dx];omega)]
def bM.holds(h:bM w B v l)(hne:0<l.length) :
  ∃g cap,v=.slice (some ⟨g,0,none⟩) l.length cap/\B<=g/\g<w.1.size/\l.length<=cap/\HoldsK encR 2 w g 0 l.toArray:=by
 obtain⟨h1,h2⟩:=h;rcases h2 with⟨_,hn⟩|⟨g,cap,a5,rfl,hb,hg,vr,hcm,a8,ht⟩
 ·omega
 refine⟨g,cap,rfl,hb,(DS.1 hg).1,vr,?_⟩;unfold HoldsK;rw[oU];intro j hj;have a7:j<l.length*2:=by simpa[dx]using hj
 refine⟨?_,by simp[BT,hg]⟩;have e1:(a5.toList.take (l.length*2))[j]?=(bU l)[j]?:=by rw[ht]
 rw[xF,aw a7,Array.getElem?_toList]at e1;simp only[AN,hg,eJ];simp only[Option.isSome_none,pj,fY];rw[e1,lO (by simpa using hj)];simp[oB,show j<(bU l).length by simpa using hj]
def TbL{p:Prop}(h:p:=by
 ·refine⟨rfl,rfl,rfl,Tc2,fun k hk=>?_⟩;rw[heap_grow_old _ _ Tc6];simp[putRow,mapBlock,Sort.ahead,BW,show g≠k by omega]):p:=h
def Tcq{p:Prop}(h:p:=by
 rw[heap_grow_old _ _ Teo];simp[putRow,mapBlock,Sort.ahead,BW,hg,onCells]):p:=h
def bM.sorted{cap:Nat}{s:List (Int × Int)}(h:bM w B (.slice (some g) l.length cap) l)(hs:s.length=l.length) :
  bM (sortWorldK encR 2 w g 0 n s.toArray os) B (.slice (some g) l.length cap) s/\Below B w (sortWorldK encR 2 w g 0 n s.toArray os):=by
 unfold sortWorldK putRowK;rw[oU];rcases h.2 with⟨e0,_⟩|⟨g',a8,a5,e0,hb,hg,hn,hm,a7,ht⟩
 ·cases e0
 injection e0 with e1 _ e3;injection e1 with e1;injection e1 with e1;subst e1;subst e3;have hlt:g<w.1.size:=(DS.1 hg).1;refine⟨⟨by rw[dx],.inr ⟨g,cap,putCells id 0 (bU s).toArray a5,by rw[hs],hb,?_,Tc1,hm,by simpa[putCells]using a7,?_⟩⟩,?_⟩
 ·exact Tcq
 ·have zc:=dx s;apply Bk;intro j;rw[xF,Array.getElem?_toList]
  by_cases hj:j<s.length*2
  ·have Vp:j<a5.size:=by rw[a7];omega
   simp only[aw hj,putCells,Array.getElem?_mapIdx,aa0 Vp,Option.map_some];rw[aw Tc6,lO Tc1];simp[oB,show j<(bU s).length by omega]
  simp only[bh hj];rw[xj Tc1]
 exact TbL
def eG.sorted{cap:Nat}{l s:List Int}(h:eG w B (.slice (some g) l.length cap) l)(hs:s.length=l.length) :
  eG (grow (putRow (Bm .i64) (Sort.ahead w n) g 0 s.toArray) os) B (.slice (some g) l.length cap) s/\Below B w (grow (putRow (Bm .i64) (Sort.ahead w n) g 0 s.toArray) os):=by
 rcases h.2 with⟨e0,_⟩|⟨g',a7,a5,e0,hb,hg,hn,hm,a8,ht⟩
 ·cases e0
 injection e0 with e1 _ e3;injection e1 with e1;injection e1 with e1;subst e1;subst e3;have hlt:g<w.1.size:=(DS.1 hg).1;refine⟨⟨Tc2,.inr ⟨g,cap,putCells (Bm .i64) 0 s.toArray a5,by rw[hs],hb,?_,Tc1,hm,by simpa[putCells]using a8,?_⟩⟩,?_⟩
 ·exact Tcq
 ·apply Bk
  intro j;rw[xF,Array.getElem?_toList,rI];by_cases hj:j<s.length*1
  ·have Vp:j<a5.size:=by omega
   simp only[aw hj,putCells,Array.getElem?_mapIdx,aa0 Vp,Option.map_some];rw[aw Tc6,lO Tc1];simp[oB,show j<s.length by omega]
  simp only[bh hj];rw[xj Tc1];rfl
 exact TbL
def eG.holds{l:List Int}(h:eG w B v l)(hne:0<l.length) :
  ∃g cap,v=.slice (some ⟨g,0,none⟩) l.length cap/\B<=g/\g<w.1.size/\l.length<=cap/\cap<=maxLen/\Holds (Bm .i64) w g 0 l.toArray:=by
 have hv:v≠.slice none 0 0:=by
  rintro rfl;rcases h.2 with⟨_,hn⟩|⟨g,cap,a5,e,_⟩
  ·omega
  cases e
 obtain⟨g,cap,e,hb,hg,hn,hm,_,hH⟩:=Lib.holds_of_ownsRow h hv;exact⟨g,cap,e,hb,hg,hn,hm,hH⟩
def xV(l:List (Int × Int))(d:Array (Int × Int))(hp:PermIn 0 l.toArray.size l.toArray d)(hs:SortedIn (ltOf fun x y:Int × Int=>Iv x.1 y.1) 0 l.toArray.size d) :
  d.toList.Perm l/\d.toList.length=l.length/\d.toList.Pairwise fun p q=>p.1<=q.1:=by
 obtain⟨h1,_,h3⟩:=hp;have hd:d.size=l.length:=by simpa using h1
 have e1:(d.extract 0 l.toArray.size).toList=d.toList:=by rw[show l.toArray.size=d.size from by simpa using hd.symm];simp
 have e2:(l.toArray.extract 0 l.toArray.size).toList=l:=by simp
 rw[e1,e2]at h3;refine⟨h3,by simpa using hd,?_⟩;rw[It];intro i j hi hj OG;have h:=hs i j (cg _) OG (by simp at hj ⊢;omega);simp at hi hj;rw[oB d i hi,oB d j hj]at h;simp only[Array.getElem_toList];generalize d[i]=p at *;generalize d[j]=q at *;unfold ltOf Iv at h;by_cases hlt:q.1<p.1
 ·simp[hlt]at h
 omega
def AR(l:List (Int × Int))(v:Value)(w:World)(hr:xo w v l)(Of:l.length<=100000000) :
  Calls prog 164 #[v] w fun e w'=>∃v',e=.returned v'/\bM w' w.1.size v' l/\Below w.1.size w w':=by
 obtain⟨p,cap,rfl,a7,ij,hp⟩:=hr;cases p with
 |none =>
  have hl:l=[]:=by
   cases l with
   |nil=>rfl
   |cons a l=>obtain⟨b,off,e,_⟩:=hp Tc2;cases e
  subst hl;refine(AnyE.slices_Clone_nil Tryz.cloneR _ _ w).mono ?_;rintro e w' ⟨rfl,rfl⟩;exact⟨_,rfl,bM.nil _ _,bj _ _⟩
 |some a =>
  by_cases h0:0<l.length
  ·obtain⟨b,off,e,hb,hc⟩:=hp h0
   cases e
   obtain⟨i0,hi,du,On,RC⟩:=gg DT;refine(AnyE.slices_Clone Tryz.cloneR i0 _ 2 16 hi du On RC rfl Tc4 Tryz.sizeOf55 b off l.length cap (bU l) w (dx l) Tda Tc1 (fun j u hu=>?_) (qI l)).mono ?_
   ·have hj:j<l.length*2:=by rw[<- dx];exact(AT.1 hu).1
    obtain⟨p,hp⟩:=De l (j/2) Tc1;have h1:=kr l (j/2) p hp;have h2:=hc (j/2) p hp;rcases Nat.mod_two_eq_zero_or_one j with hm|hm
    ·have e:j/2*2=j:=by omega
     rw[e]at h1 h2;rw[h1.1]at hu;rw[h2.1,hu]
    have e:j/2*2+1=j:=by omega
    rw[e]at h1;rw[h1.2]at hu;rw[<- hu,<- h2.2,Nat.add_assoc,e]
   rintro e w' ⟨v',rfl,ho,_,a5⟩;exact⟨v',rfl,ho,a5⟩
  have hl:l=[]:=fX Tc1;subst hl;have a8:∀(w:World) (a:Option Addr) (n c n' c':Nat),(binOp .eql 43 (.slice a n c) (.slice none n' c')).run prog w=.ok (.bool a.isNone) w:=fun w a n c n' c'=>Cl w _ _ a n c n' c' underlying43;show Calls prog _ #[.slice (some a) 0 cap] w _;go_enter func164,ntmps164;go_wp2;go_ret;refine⟨_,rfl,?_,(bj _ _).alloc (bk _) _⟩;exact World.ownsRow_made w #[] 0 (bk _) Tda rfl
def vY(x y:Int × Int)(W:World):Calls prog 166 #[.agg #[.int .i64 x.1,.int .i64 x.2],.agg #[.int .i64 y.1,.int .i64 y.2]] W fun e w'=>e=.returned (.int .i64 (Iv x.1 y.1))/\∃q a7,w'=grow (W.drewN q) a7:=by
 have a5:=fun W'=>Any.cmp_Compare_int Tryz.lays122 x.1 y.1 W';change ∀W',Calls prog 167 _ _ _ at a5;generalize Iv x.1 y.1=r at a5 ⊢;go_enter func166,ntmps166
 go_wp2_with(go_at_call 167;refine(a5 _).mono ?_;rintro e w' ⟨rfl,rfl⟩)
 go_ret;exact⟨rfl,0,_,by rw[alloc_eq_grow,alloc_eq_grow,grow_grow];rfl⟩
def xU(blk off size:Nat)(w:World):CmpLays prog 166 #[] encR 2 (fun x y=>Iv x.1 y.1) blk off size w :=
 fun _ _ _ _ x y=>vY x y _
def E5(x y:Int × Int):ltOf (fun x y:Int × Int=>Iv x.1 y.1) x y=decide (x.1<y.1):=by
 unfold ltOf Iv;by_cases h1:x.1<y.1
 ·simp[h1]
 by_cases h2:y.1<x.1<;>simp[h1,h2]
def FP:SWO (ltOf fun x y:Int × Int=>Iv x.1 y.1) where
 irrefl x:=by rw[E5];simp
 trans x y z h1 h2:=by rw[E5]at *;simp at *;omega
 ntrans x y z h1 h2:=by rw[E5]at *;simp at *;omega
def DL(B:Nat)(l:List (Int × Int))(v:Value)(w:World)(ho:bM w B v l)(Of:l.length<=100000000) :
  Calls prog 165 #[v,.func (.func 166) #[] #[]] w fun e w'=>e=.returned (.tuple #[])/\∃s,s.Perm l/\(s.Pairwise fun p q=>p.1<=q.1)/\bM w' B v s/\Below B w w':=by
 by_cases h0:0<l.length
 ·obtain⟨g,cap,rfl,hB,hg,hc,hH⟩:=ho.holds h0;have eg:∀args w,(callFunc 166 args).run prog w=.ok (.enter 166 args) w:=enters_of func166 Tc3 rfl;have a5:=AnyQ.slices_SortFunc Tryz.sortR 2 Tryz.isAgg55 Tryz.sizeOf55 encR (fun _=>rfl) (fun x v hv=>by simp[encR]at hv;rcases hv with rfl|rfl<;>rfl) (fun x y=>Iv x.1 y.1) FP 166 #[] g 0 cap l.toArray w eg (xU g 0 l.toArray.size w) hH hg Tc6;change Calls prog 165 _ _ _ at a5;refine a5.mono ?_;rintro e w' ⟨rfl,d',n,os,hp,hs,rfl⟩;obtain⟨a,b,c⟩:=xV l d' hp hs;have:=bM.sorted (n:=n) (os:=os) ho b;exact⟨rfl,d'.toList,a,c,this.1,this.2⟩
 have hl:l=[]:=fX Tc1;subst hl;obtain⟨p,cap,rfl,_⟩:=ho.rd;refine(AnyF.slices_SortFunc_none Tryz.sortR p cap _ w).mono ?_;rintro e w' ⟨rfl,rfl⟩;exact⟨rfl,[],List.Perm.refl _,List.Pairwise.nil,ho,bj _ _⟩
def FK(w:World)(S:Int->Prop)(N:Nat)(e:Ending)(w':World):Prop :=
 ∃v x,e=.returned v/\bM w' w.1.size v x/\iE x S/\x.length<=N/\Below w.1.size w w'
def iF(h:dI l=true):∀p∈l,0<=p.1/\0<=p.2/\p.1+p.2<=1073741824:=fun p hp=>by
 unfold dI at h;have:=En (An.1 h p hp);omega
def sI(o:List (Int × Int))(r:Int × Int):(cZ o r).length<=o.length+1:=by
 unfold cZ;split
 ·omega
 split
 ·simp
 split
 ·simp only[cD,List.length_dropLast,A4];omega
 simp
def tF(l:List (Int × Int))(k:Nat)(hk:k<=l.length):(merge (l.take k)).length<=k:=by
 induction k with
 |zero=>simp[merge]
 |succ k ih =>
  obtain⟨x,hx⟩:=aj l k Tc1;rw[take_snoc' l k x hx,fQ];have:=sI (merge (l.take k)) x;have:=ih Tc1;omega
def Tcx{p:Prop}(h:p:=by
 rcases List.mem_append.1 hp with hp|hp
 ·exact ho p hp
 simp at hp;subst hp;exact hr):p:=h
def uS(M:Int)(o:List (Int × Int))(r:Int × Int)(ho:∀p∈o,0<=p.1/\0<=p.2/\p.1+p.2<=M)(hr:0<=r.1/\0<=r.2/\r.1+r.2<=M):∀p∈cZ o r,0<=p.1/\0<=p.2/\p.1+p.2<=M:=by
 intro p hp;unfold cZ at hp;split at hp
 ·exact ho p hp
 split at hp
 ·exact Tcx
 rename_i q hq;have a5:=ho q (List.mem_of_getLast? hq);split at hp
 ·rcases AS.1 hp with hp|hp
  ·exact ho p (List.dropLast_subset o hp)
  simp at hp;subst hp;simp only[];omega
 exact Tcx
def CL(M:Int)(l:List (Int × Int))(h:∀p∈l,0<=p.1/\0<=p.2/\p.1+p.2<=M)(k:Nat)(hk:k<=l.length):∀p∈merge (l.take k),0<=p.1/\0<=p.2/\p.1+p.2<=M:=by
 induction k with
 |zero=>simp[merge]
 |succ k ih =>
  obtain⟨x,hx⟩:=aj l k Tc1;rw[take_snoc' l k x hx,fQ];exact uS M _ x (ih Tc1) (h x (ct hx))
def zC(s:List (Int × Int))(k:Nat)(x:Int × Int)(hx:s[k]?=some x)(h0:x.2=0):merge (s.take (k+1))=merge (s.take k):=by
 rw[take_snoc' s k x hx,fQ];unfold cZ;rw[aw h0]
def vZ(s:List (Int × Int))(k:Nat)(x:Int × Int)(hx:s[k]?=some x)(h0:x.2≠0)(ho:merge (s.take k)=[]):merge (s.take (k+1))=merge (s.take k)++[x]:=by
 rw[take_snoc' s k x hx,fQ];unfold cZ;rw[bh h0,ho];rfl
def wy(s:List (Int × Int))(k:Nat)(x:Int × Int)(hx:s[k]?=some x)(h0:x.2≠0)(i:List (Int × Int))(q:Int × Int)(ho:merge (s.take k)=i++[q])(hq:¬x.1<=q.1+q.2):merge (s.take (k+1))=i++[q]++[x]:=by
 rw[take_snoc' s k x hx,fQ];unfold cZ;rw[bh h0,ho];simp[hq]
def yK(s:List (Int × Int))(k:Nat)(x:Int × Int)(hx:s[k]?=some x)(h0:x.2≠0)(i:List (Int × Int))(q:Int × Int)(ho:merge (s.take k)=i++[q])(hq:x.1<=q.1+q.2):merge (s.take (k+1))=i++[(q.1,max q.2 (x.1+x.2-q.1))]:=by
 rw[take_snoc' s k x hx,fQ];unfold cZ;rw[bh h0,ho];simp[hq]
def TbP{p:Prop}(h:p:=by
 (repeat' (first|exact bj _ _|exact bk _|(refine dT ?_ ?_ _)|(refine aT ?_ _)|(refine gA ?_)|(simp;done)|(simp;omega)))):p:=h
def TeP{p:Prop}(h:p:=by refine RowKit.Below.mono (B:=wr.1.size) ?_ hb.size;(repeat' (first|exact bj _ _|exact bk _|(refine dT ?_ ?_ _)|(refine aT ?_ _)|(refine gA ?_)|(simp;done)|(simp;omega)))):p:=h
def jJ(l:List (Int × Int))(v:Value)(w:World)(hr:xo w v l)(hval:dI l=true)(Of:l.length<=10000000) :
  Calls prog 120 #[v] w (FK w (Mem l) l.length):=by
 replace hval:=aa hval;go_enter func120,ntmps120
 go_wp2_with fail;refine(AR l v w hr Tc1).mono ?_;rintro e w1 ⟨v1,rfl,ah,ai⟩;go_wp2_with fail;refine(DL w.1.size l v1 w1 ah Tc1).mono ?_;rintro e w2 ⟨rfl,s,hp,hs,ak,hb2⟩;have a7:Below w.1.size w w2:=ai.trans hb2;have GF:s.length=l.length:=hp.length_eq;have HP:=aa hp;have HS:=aa hs;have HL:=aa GF;have az:s.length<=10000000:=by omega
 clear hp hs GF;obtain⟨p2,aq,rfl,au,aA,am⟩:=ak.rd;clear ah ak ai hb2 hr;go_wp2;go_loopw[4,14] (fun vo i wr=>∃k:Nat,k<=s.length/\i=.int .i64 k/\bM wr w2.1.size vo (merge (s.take k))/\Below w2.1.size w2 wr) (fun _ i _=>s.length-(intOf i).toNat)
 exact⟨0,cg _,rfl,bM.nil _ _,bj _ _⟩;obtain⟨k,hk,rfl,a5,hb⟩:=hrel;by_cases hlt:k<s.length
 ·obtain⟨x,hx⟩:=aj s k hlt;obtain⟨b,off,rfl,gO,hc⟩:=am Tc1;have a8:=(hc.below hb gO) k x hx;have aB:=a8.1;have zc:=a8.2;have cX:b<wr.1.size:=cC gO hb.size;have pB:=iF hval.o x (HP.o.mem_iff.1 (ct hx));obtain⟨aC,aD,hx2⟩:=pB;have a9:=CL 1073741824 s (fun p hp=>iF hval.o p (HP.o.mem_iff.1 hp)) k hk;have ab:=tF s k hk;replace hx:=aa hx;clear hc am a8;obtain⟨o,ho⟩:∃o,o=merge (s.take k):=⟨_,rfl⟩;rw[<- ho]at a5 a9 ab;replace ho:=aa ho
  by_cases h0:x.2=0
  ·have av:(x.2==0)=true:=by simp[h0]
   have H0:=aa h0;clear h0;go_wp2;go_roundw;exact⟨k+1,Tc1,Tc5,by rw[zC s k x hx.o H0.o,<- ho.o];exact a5.alloc _,hb.alloc hb.size _⟩;simp[intOf];omega
  have av:(x.2==0)=false:=by simp[h0]
  have H0:=aa h0;clear h0;rcases List.eq_nil_or_concat o with rfl|⟨i,q,rfl⟩
  ·obtain⟨p3,ae,rfl,_,_,_⟩:=a5.rd;go_wp2;go_quiet (fail)
   go_wp2_with(at_builtin;refine jg rfl _ _ rfl w2.1.size _ [] x rfl ?c1 (wr.1.size+1) 1 rfl ?c2 ?c3 Tc2 ?c4 ?_)
   case c1=>refine a5.below ?_;(repeat' (first|exact bj _ _|exact bk _|(refine dT ?_ ?_ _)|(refine aT ?_ _)|(refine gA ?_)|(simp;done)|(simp;omega)))
   case c2=>go_simp
   case c3=>go_simp
   case c4=>have:=hb.size;simp;omega
   intro v4 w4 af ag _;have hb5:RowKit.Below w2.1.size w2 w4:=(hb.trans TeP).trans ag;go_wp2;go_roundw;exact⟨k+1,Tc1,Tc5,by rw[vZ s k x hx.o H0.o ho.o.symm,<- ho.o];exact af,hb5⟩;simp[intOf];omega
  simp only[List.concat_eq_append]at *;have hq:=a9 q Tc2;obtain⟨aE,aF,aG⟩:=hq;clear a9;obtain⟨g,ae,rfl,TR,ye,aH,aI,Vq,Vr,Yi,hst⟩:=a5.last;have ao:i.length+1<=k:=by simpa using ab
  clear ab;by_cases hle:x.1<=q.1+q.2
  ·go_wp2;go_quiet (fail);go_wp2
   (refine il 21 Tc3 Tc3 ?_;simp only[xi,iv,cQ,cL];(repeat(go_big_quiet_step (fail)));(with_reducible refine fR ?_);intro wq ia;obtain⟨nq,ia⟩:=ia;subst ia)
   go_wp2;go_roundw
   case rel =>
    refine⟨k+1,Tc1,Tc5,?_,?_⟩
    ·rw[yK s k x hx.o H0.o i q ho.o.symm hle];refine bM.setLast ?_ _;refine a5.below ?_;exact TbP
    refine RowKit.Below.setCell ?_ (by exact TR) _;refine hb.trans ?_;refine RowKit.Below.mono (B:=wr.1.size) ?_ hb.size;exact TbP
   simp[intOf];omega
  have aw:decide (x.1<=q.1+q.2)=false:=by simp;omega
  go_wp2;go_quiet (fail)
  go_wp2_with(at_builtin;refine jg rfl _ _ rfl w2.1.size _ (i++[q]) x rfl ?c1 (wr.1.size+1) 1 rfl ?c2 ?c3 Tc6 ?c4 ?_)
  case c1=>refine a5.below ?_;(repeat' (first|exact bj _ _|exact bk _|(refine dT ?_ ?_ _)|(refine aT ?_ _)|(refine gA ?_)|(simp;done)|(simp;omega)))
  case c2=>go_simp
  case c3=>go_simp
  case c4=>have:=hb.size;simp;omega
  intro v4 w4 af ag _;have hb5:RowKit.Below w2.1.size w2 w4:=(hb.trans TeP).trans ag;go_wp2;go_roundw;exact⟨k+1,Tc1,Tc5,by rw[wy s k x hx.o H0.o i q ho.o.symm Tc1];simpa using af,hb5⟩;simp[intOf];omega
 go_wp2;go_ret;have ay:k=s.length:=by omega
 subst ay;rw[cI]at a5;refine⟨_,_,rfl,a5.mono a7.size,zL l s HP.o HS.o (fun p hp=>(iF hval.o p hp).2.1),?_,a7.trans (hb.mono a7.size)⟩;have:=tF s s.length (bk _);rw[cI]at this;have:=HL.o;omega
def yJ{ok:Nat->Prop}(l:List ByteArray)(v:Value)(w:World)(hr:ck aF 1 ok w [v] l)(Of:l.length<=100000000) :
  Calls prog 65 #[v] w fun e w'=>∃p n c,e=.returned (.slice p n c)/\Below w.1.size w w':=by
 obtain⟨p,cap,e,a9,ij,hp⟩:=hr;obtain rfl:=IF.1 e;clear e;cases p with
 |none =>
  have hl:l=[]:=by
   cases l with
   |nil=>rfl
   |cons a l=>obtain⟨b,off,e,_⟩:=hp Tc2;cases e
  subst hl;refine(AnyE.slices_Clone_nil Tryz.cloneS _ _ w).mono ?_;rintro e w' ⟨rfl,rfl⟩;exact⟨_,_,_,rfl,bj _ _⟩
 |some a =>
  by_cases h0:0<l.length
  ·obtain⟨b,off,e,hb,_,hc⟩:=hp h0
   cases e
   obtain⟨i0,hi,du,On,RC⟩:=gg zY;refine(AnyE.slices_Clone Tryz.cloneS i0 _ 1 16 hi du On RC rfl Tc4 Tryz.sizeOf9 b off l.length cap (l.map Cd) w Tc2 Tda Tc1 (fun j u hu=>?_) Tdc).mono ?_
   ·rw[rI]at hu;obtain⟨x,hx,rfl⟩:=Option.map_eq_some_iff.1 hu;obtain⟨u,aa,a7,a8⟩:=hc j x hx;obtain rfl:u=[.string x]:=a7;have:=a8 0 _ rfl;simpa using this
   rintro e w' ⟨v',rfl,ho,_,a5⟩;rcases ho.2 with⟨rfl,_⟩|⟨g,c,ab,rfl,_⟩
   ·exact⟨_,_,_,rfl,a5⟩
   exact⟨_,_,_,rfl,a5⟩
  have hl:l=[]:=fX Tc1;subst hl;have ae:∀(w:World) (a:Option Addr) (n c n' c':Nat),(binOp .eql 26 (.slice a n c) (.slice none n' c')).run prog w=.ok (.bool a.isNone) w:=fun w a n c n' c'=>Cl w _ _ a n c n' c' underlying26;show Calls prog _ #[.slice (some a) 0 cap] w _;go_enter func65,ntmps65;go_wp2;go_ret;exact⟨_,_,_,rfl,(bj _ _).alloc (bk _) _⟩
def jI{a b:ByteArray}(h:¬a=b):(a.toList==b.toList)=false:=by
 rw[A6,A6];obtain⟨⟨x⟩⟩:=a;obtain⟨⟨y⟩⟩:=b;simp only[beq_eq_false_iff_ne];exact fun e=>h (by rw[show x=y from e])
def ui{Gb:List az}{nm:ByteArray}(h:∀(j:Nat) (D:az),j<Gb.length->Gb[j]?=some D->¬D.name=nm):Gb.find? (fun D=>decide (D.name=nm))=none:=by
 rw[List.find?_eq_none];intro D hD;obtain⟨j,hj⟩:=fc hD;simpa using h j D (AT.1 hj).1 hj
def pR:∀ {Gb:List az} {nm:ByteArray} {k:Nat} {D:az},(∀(j:Nat) (E:az),j<k->Gb[j]?=some E->¬E.name=nm)->Gb[k]?=some D->D.name=nm->Gb.find? (fun D=>decide (D.name=nm))=some D
 |[],_,_,_,_,h,_=>by simp at h
 |E :: l,nm,0,D,_,h,e=>by
  obtain rfl:E=D:=by simpa using h
  simp[e]
 |E :: l,nm,k+1,D,hno,h,e=>by
  have h0:¬E.name=nm:=hno 0 E Tc1 rfl;rw[List.find?_cons_of_neg TdO];exact pR (k:=k) (fun j F hj hF=>hno (j+1) F Tc1 (by simpa using hF)) Tdq e
def bH(Gb:List az)(nm:ByteArray):Option az:=Gb.find? fun D=>decide (D.name=nm)
def Tam :Tab #[.string ⟨#[]⟩,.int .u64 0,.int .i64 0,.int .i64 0,.bool false,.bool false,.slice none 0 0]:=⟨⟩
def Tas(x0:az)(x1:Nat)(x2:Option Addr)(x3:Nat):Tab #[.string x0.name,.int .u64 x0.id,.int .i64 x0.first,.int .i64 x0.Gc,.bool x0.closed,.bool x0.missing,.slice x2 x1 x3]:=⟨⟩
def FE(Gb:List az)(nm:ByteArray)(w:World)(e:Ending)(w':World):Prop:=Below w.1.size w w' /\
 match bH Gb nm with
 |some D=>∃p n c,e=.returned (.tuple #[.agg (Tas D n p c),true])
 |none=>e=.returned (.tuple #[.agg Tam,false])
def Tax(x0:ByteArray)(x1:az)(x2:Option Addr)(x3:Nat):Tab #[.string x0,.int .u64 x1.id,.int .i64 x1.first,.int .i64 x1.Gc,.bool x1.closed,.bool x1.missing,.slice x2 x1.tags.length x3]:=⟨⟩
def Tao(x0:ByteArray)(x1:Int)(x2:Int)(x3:Int)(x4:Int)(x5:Nat)(x6:Option Addr)(x7:Nat)(x8:Nat)(x9:Option Addr)(a5:Nat)(a7:Nat)(a8:Option Addr)(a9:Nat)(aa:Nat)(ab:Option Addr)(ae:Nat):Tab #[.string x0,.int .u64 x1,.int .i64 x2,.int .i64 x3,.int .i64 x4,.slice x6 x5 x7,.slice x9 x8 a5,.slice a8 a7 a9,.slice ab aa ae]:=⟨⟩
def Tbg{p:Prop}(h:p:=by
 ·have e1:=jI pD;go_wp2;go_roundw
  case rel =>
   refine⟨k+1,Tc1,Tc5,fun j E hj hE=>?_,hB.alloc Tc1 _,Tc6,(cj _ _ _ Tc1).trans yi.o⟩;by_cases hjk:j=k
   ·subst hjk;rw[HD.o]at hE;injection hE with hE;rw[<- hE];exact pD
   exact Ty.o j E Tc1 hE
  simp[intOf];omega):p:=h
def TdH{p:Prop}(h:p:=by show w.1.size<=w.1.size+1;omega):p:=h
def Tbb{p:Prop}(h:p:=by
 have hL:∀(V:World) (o:Nat) (z:Value),Below w.1.size w V->Below w.1.size w (V.setCell ⟨w.1.size+1,o,none⟩ z):=fun V o z q=>q.setCell (p:=⟨w.1.size+1,o,none⟩) TdH z
 exact hL _ _ _ (hL _ _ _ (hL _ _ _ (hL _ _ _ (hL _ _ _ (hL _ _ _ (hL _ _ _ (cJ.o.setCell (p:=⟨Bx,6,none⟩) (by show w.1.size<=Bx;omega) _)))))))):p:=h
def Td6{p:Prop}(h:p:=by simp[results,Tryz.results27,go_sem,r0,r1,r2,r3,r4,r5,r6]):p:=h
def Zbk{w w':World}{b:Nat}{x:Obj}(hb:Below w.1.size w w')(h:Hid (w.1[b]?=some x)):Hid (w'.1[b]?=some x):=aa ((hb.block _ (aq h.o)).trans h.o)
def Zbl{w v u:World}(a:Hid (Below w.1.size w v))(hb:Below v.1.size v u):Hid (Below w.1.size w u):=aa (a.o.trans (hb.mono a.o.size))
def vV{ok:Nat->Prop}(name:ByteArray)(id seq ext nx:Int)(tp dp vp hp:Option Addr)(tl tc dc vl vc hl hc:Nat)(Gb:List az)(nm:ByteArray)(w:World)(hr:ck aO 7 ok w [.slice dp Gb.length dc] Gb)(hd:Gb.length<=1000)(ht:∀D∈Gb,D.tags.length<=1000) :
  Calls prog 27 #[.agg (Tao name id seq ext nx tl tp tc Gb.length dp dc vl vp vc hl hp hc),.string nm] w (FE Gb nm w):=by
 replace hr:=aa hr;replace ht:=aa ht;go_enter func27,ntmps27;go_wp2
 go_loopw[11] (fun i wr=>∃k:Nat,k<=Gb.length/\i=.int .i64 k/\(∀j D,j<k->Gb[j]?=some D->¬D.name=nm)/\Below w.1.size w wr/\w.1.size+1<wr.1.size/\wr.1[w.1.size+1]?=some (.cells Tam 51 (0,0))) (fun i _=>Gb.length-(intOf i).toNat)
 case atStart =>
  refine⟨0,cg _,rfl,(fun j D hj=>by omega),((bj _ _).alloc (bk _) _).alloc Tc2 _,Tc2,?_⟩;have:=b9 (w.alloc (.cells (Tao name id seq ext nx tl tp tc Gb.length dp dc vl vp vc hl hp hc) 31)) (.cells Tam 51);rw[cW]at this;exact this
 obtain⟨k,hk,rfl,hno,hB,hz,hR⟩:=hrel;have Ty:=aa hno;clear hno;have r0:=cr hR 0 _ rfl;by_cases hlt:k<Gb.length
 ·obtain⟨D,hD⟩:=aj Gb k hlt;obtain⟨b,off,u,rfl,gR,cX,ez,sA,ON⟩:=hr.o.elem hD;obtain⟨tv,rfl,ew⟩:=sA;obtain⟨a5,a7,rfl,_,_⟩:=ew.cap;have cT:wr.1[b]?=w.1[b]?:=hB.block b cX;have q0:=(cd (w:=w) (a:=⟨b,off+k*7,none⟩) cT).trans (ON 0 _ rfl);have q1:=(cd (w:=w) (a:=⟨b,off+k*7+1,none⟩) cT).trans (ON 1 _ rfl);have q2:=(cd (w:=w) (a:=⟨b,off+k*7+2,none⟩) cT).trans (ON 2 _ rfl);have q3:=(cd (w:=w) (a:=⟨b,off+k*7+3,none⟩) cT).trans (ON 3 _ rfl);have q4:=(cd (w:=w) (a:=⟨b,off+k*7+4,none⟩) cT).trans (ON 4 _ rfl);have q5:=(cd (w:=w) (a:=⟨b,off+k*7+5,none⟩) cT).trans (ON 5 _ rfl);have q6:=(cd (w:=w) (a:=⟨b,off+k*7+6,none⟩) cT).trans (ON 6 _ rfl);have HD:=aa hD;clear hD;replace ew:=aa ew;have yi:=aa hR;clear hR;clear ON ez cT r0;by_cases pD:D.name=nm
  ·have G2:=ae wr (.cells (Tax nm D a5 a7) 51);have Vs:=aa (b9 wr (.cells (Tax nm D a5 a7) 51));have a9:=aa ((G2.block _ hz).trans yi.o);have pL:=aa (hB.trans (G2.mono Tc1));have Qf:Hid (wr.1.size<(wr.alloc (.cells (Tax nm D a5 a7) 51)).1.size):=aa Tc2;have nt:=ht.o D (ct HD.o);clear G2;go_wp2_with fail;generalize DA:wr.alloc _=WA at *;clear DA;refine(yJ (ok:=fun b=>ok b/\b<w.1.size) D.tags _ _ ((ck.moves aF.moves).mv ⟨pL.o.size,fun b hb ho=>⟨⟨ho,hb⟩,pL.o.block b hb⟩⟩ ew.o) Tc1).mono ?_;rintro e w3 ⟨p3,n3,c3,rfl,hb3⟩;have hx:=(hb3.block _ Qf.o).trans Vs.o;have a8:=(hb3.block _ (by have:=aq a9.o;omega)).trans a9.o;have xL:=cr hx;have rL:=cr a8;have x0:=xL 0 _ rfl;have r0:=rL 0 _ rfl;have x1:=xL 1 _ rfl;have r1:=rL 1 _ rfl;have x2:=xL 2 _ rfl;have r2:=rL 2 _ rfl;have x3:=xL 3 _ rfl;have r3:=rL 3 _ rfl;have x4:=xL 4 _ rfl;have r4:=rL 4 _ rfl;have x5:=xL 5 _ rfl;have r5:=rL 5 _ rfl;have x6:=xL 6 _ rfl;have r6:=rL 6 _ rfl;have xf:=sr hx;have rf:=sr a8;have cJ:=Zbl pL hb3;clear xL rL hx a8 hb3;have hne:¬wr.1.size=w.1.size+1:=by omega
   have af:¬w.1.size+1=wr.1.size:=by omega
   generalize hBx:wr.1.size=Bx at *;have ab:=aa pD;have Q8:=aa HD.o;go_wp2;refine eC (v:=.tuple #[.agg #[nm,.int .u64 D.id,.int .i64 D.first,.int .i64 D.Gc,.bool D.closed,.bool D.missing,.slice p3 n3 c3],true]) Td6 rfl ⟨?_,?_⟩
   ·exact Tbb
   rw[show bH Gb nm=some D from pR Ty.o Q8.o ab.o];exact⟨p3,n3,c3,by rw[ab.o]⟩
  exact Tbg
 obtain rfl:k=Gb.length:=by omega
 have rL:=cr hR;clear r0;obtain⟨r0,r1,r2,r3,r4,r5,r6⟩:=se rL;have rf:=sr hR;clear rL hR;go_wp2;refine eC (v:=.tuple #[.agg Tam,false]) Td6 rfl ⟨?_,?_⟩
 ·have hL:∀(V:World) (o:Nat) (z:Value),Below w.1.size w V->Below w.1.size w (V.setCell ⟨w.1.size+1,o,none⟩ z):=fun V o z q=>q.setCell (p:=⟨w.1.size+1,o,none⟩) TdH z
  exact hL _ _ _ (hL _ _ _ (hL _ _ _ (hL _ _ _ (hL _ _ _ (hL _ _ _ (hL _ _ _ hB))))))
 rw[show bH Gb nm=none from ui Ty.o]
open Go.Shelf
variable {W W':World}{row:Option Nat}{B n:Nat}
attribute [local go_sem] Oper.semAt_some
def Ew(name:ByteArray)(id seq ext nx:Int)(tp dp vp hp:Option Addr)(tl tc dl dc vl vc hl hc:Nat)(w:World) :
  Calls prog 115 #[.agg (Tao name id seq ext nx tl tp tc dl dp dc vl vp vc hl hp hc)] w fun e w'=>e=.returned (.func (.func 161) #[] #[.pointer (some w.1.size)])/\w'=w.alloc (.cells (Tao name id seq ext nx tl tp tc dl dp dc vl vp vc hl hp hc) 31):=by
 go_enter func115,ntmps115;go_wp2;go_ret;exact⟨rfl,rfl⟩
def xu{k:Nat}{a:Array Value}{b:TypeId}{c:Nat × Nat}(hg:W.grownBy W' row)(hr:∀r,row=some r->B<=r/\∃o:Obj,W.1[r]?=some o/\o.isCells=false)(h:W.1[k]?=some (.cells a b c)):W'.1[k]?=some (.cells a b c) :=
 (hg.block k (aq h) (fun e=>by
  obtain⟨_,o,ho,hc⟩:=hr k e.symm;rw[h]at ho;injection ho with ho;subst ho
  cases hc)).trans h
def keepR{B' sz:Nat}{t:TypeId}{v:Value}{xs:List Value}(hg:W.grownBy W' row)(hr:∀r,row=some r->B<=r/\∃o:Obj,W.1[r]?=some o/\o.isCells=false)(h:W.ownsRow B' t sz v n xs):W'.ownsRow B' t sz v n xs:=by
 refine aC h fun k e=>?_;rcases h.2 with⟨rfl,_⟩|⟨g,cap,a5,rfl,_,TK,_⟩
 ·cases e
 obtain rfl:g=k:=by injection e
 exact(xu hg hr TK).trans TK.symm
def DZ{F:Fence}{P:Program}{ops:Array Oper}{Q:Exit->Act->World->Prop}{o:Oper}{l:List Oper}{a:Act}{w:World}(h:Hid (wpListIn F n P ops Q (o :: l) a w)):wpListIn F n P ops Q (o :: l) a w:=h.o
end Go.Proofs.YtaagglbgohjldaaGreatDoor
namespace Go.Proofs.YtaagglbgohjldaaGreatDoor
open Go.Proofs.Tryz
open Go.RowKit
def Ey(w:World)(v:Value)(ls:List (List (Int × Int))):Prop :=
 ∃g cap,v=.slice (some ⟨g,0,none⟩) ls.length cap/\ls.length<=cap/\cap<=9223372036854775807/\g<w.1.size/\∀(i:Nat) (l:List (Int × Int)),ls[i]?=some l->∃u,w.cell? ⟨g,i,none⟩=some u/\xo w u l
def xZ(ls:List (List (Int × Int)))(k:Nat)(l:List (Int × Int))(h:ls[k]?=some l)(hv:dI l=false):ls.all dI=false:=by
 rw[ad2];exact⟨l,ct h,by simp[hv]⟩
def BN(ls:List (List (Int × Int)))(k:Nat)(l:List (Int × Int))(h:ls[k]?=some l)(ha:(ls.take k).all dI=true)(hv:dI l=true):(ls.take (k+1)).all dI=true:=by
 rw[take_snoc' ls k l h,List.all_append,ha];simp[hv]
def qK(ls:List (List (Int × Int)))(v:Value)(w:World)(hr:Ey w v ls) :
  Calls prog 119 #[v] w fun e w'=>e=.returned (.bool (ls.all dI))/\Below w.1.size w w':=by
 obtain⟨g,cap,rfl,ag,ij,hg,hc⟩:=hr;go_enter func119,ntmps119;go_wp2
 go_loopw[9] (fun i wr=>∃k:Nat,k<=ls.length/\i=.int .i64 k/\(ls.take k).all dI=true/\Below w.1.size w wr) (fun i _=>ls.length-(intOf i).toNat)
 exact⟨0,cg _,rfl,rfl,bj _ _⟩;obtain⟨k,hk,rfl,hall,hb⟩:=hrel;replace hall:=aa hall;by_cases hlt:k<ls.length
 ·obtain⟨l,hl⟩:=aj ls k hlt;obtain⟨u,hu,Um⟩:=hc k l hl;have a8:wr.cell? (g,k)=some u:=(hb.cell (p:=⟨g,k,none⟩) hg).trans hu;obtain⟨p,ab,rfl,ae,ai,a9⟩:=Um.below hb;replace hl:=aa hl;clear hc hu Um;go_wp2;obtain⟨wo,rfl⟩:∃wo:World,wo=wr:=⟨_,rfl⟩
  go_loopw[15] (fun i wr=>∃j:Nat,j<=l.length/\i=.int .i64 j/\dI (l.take j)=true/\Below wo.1.size wo wr) (fun i _=>l.length-(intOf i).toNat)
  exact⟨0,cg _,rfl,rfl,bj _ _⟩;obtain⟨j,hj,rfl,a5,hb2⟩:=hrel;replace a5:=aa a5;by_cases hlt2:j<l.length
  ·obtain⟨b,off,rfl,gO,hc⟩:=a9 Tc1;obtain⟨x,hx⟩:=aj l j hlt2;have a7:=(hc.below hb2 gO) j x hx;have ak:=a7.1;have zc:=a7.2;replace hx:=aa hx;clear hc a9 a7;go_wp2_with fail;refine(AQ _ _ _).mono ?_;rintro e w1 ⟨rfl,af⟩;have hb3:Below wo.1.size wo w1:=mn (hb2.alloc hb2.size _) af;cases hv:nT x.1 x.2
   ·go_wp2;go_ret;exact⟨ah (xZ ls k l hl.o (zA l j x hx.o hv)).symm,mn hb hb3⟩
   go_wp2;go_roundw;exact⟨j+1,Tc1,Tc5,Cm l j x hx.o a5.o hv,hb3⟩;simp[intOf];omega
  go_wp2;go_roundw;exact⟨k+1,Tc1,Tc5,BN ls k l hl.o hall.o (Ce l j Tc1 a5.o),mn hb hb2⟩;simp[intOf];omega
 go_wp2;go_ret;refine⟨ah ?_,hb⟩;have:=hall.o;rw[jz Tc1]at this;exact this.symm
def Cz(w:World)(v:Value)(l:List (Int × Int))(t:TypeId)(h:xo w v l):Ey (w.alloc (.cells #[v] t)) (.slice (some w.1.size) 1 1) [l]:=by
 refine⟨w.1.size,1,rfl,Tc2,Tc1,Tc2,fun i l' hi=>?_⟩
 match i,hi with
 |0,hi =>
  simp at hi;subst hi;exact⟨v,TdE,h.below ((bj _ _).alloc (bk _) _)⟩
 |i+1,hi=>simp at hi
def xK(w:World)(v1 v2:Value)(l1 l2:List (Int × Int))(t:TypeId)(h1:xo w v1 l1)(h2:xo w v2 l2):Ey (w.alloc (.cells #[v1,v2] t)) (.slice (some w.1.size) 2 2) [l1,l2]:=by
 refine⟨w.1.size,2,rfl,Tc2,Tc1,Tc2,fun i l' hi=>?_⟩
 match i,hi with
 |0,hi =>
  simp at hi;subst hi;exact⟨v1,TdE,h1.below ((bj _ _).alloc (bk _) _)⟩
 |1,hi =>
  simp at hi;subst hi;exact⟨v2,TdE,h2.below ((bj _ _).alloc (bk _) _)⟩
 |i+2,hi=>simp at hi
def zz(w:World)(S:Int->Prop)(N:Nat)(e:Ending)(w':World):Prop :=
 ∃v x,e=.returned (.tuple #[v,.int .i64 0])/\bM w' w.1.size v x/\iE x S/\x.length<=N/\Below w.1.size w w'
def tJ(l:List (Int × Int))(v:Value)(w:World)(hr:xo w v l)(hval:dI l=true)(Of:l.length<=10000000) :
  Calls prog 72 #[v] w (zz w (Mem l) l.length):=by
 replace hval:=aa hval;have hr0:=hr;obtain⟨p0,a7,rfl,_⟩:=hr0;go_enter func72,ntmps72
 go_wp2_with fail;refine(qK [l] _ _ (Cz w _ l _ hr)).mono ?_;rintro e w1 ⟨rfl,a8⟩;have a5:Below w.1.size w w1:=mn ((bj _ _).alloc (bk _) _) a8;have hv:[l].all dI=true:=by simp[hval.o]
 go_wp2_with fail;refine(jJ l _ w1 (hr.below a5) hval.o Of).mono ?_;rintro e w2 ⟨v2,x,rfl,ho,hx,vh,hb2⟩;go_wp2;go_ret2;exact⟨v2,x,rfl,ho.mono a5.size,hx,vh,mn a5 hb2⟩
def Aw(l:List (Int × Int)):Int:=(l.map (·.2)).sum
def El{x l:List (Int × Int)}(hx:iE x (Mem l))(hv:dI l=true):∀p∈x,0<=p.1/\1<=p.2/\p.1+p.2<=1073741824:=fun p hp=>by
 have h1:=hx.1.1 p hp;obtain⟨a,ha,a5,_⟩:=(hx.2 p.1).1 ⟨p,hp,Tc1,Tc1⟩;obtain⟨b,hb,_,hb2⟩:=(hx.2 (p.1+p.2-1)).1 ⟨p,hp,Tc1,Tc1⟩;have:=iF hv a ha;have:=iF hv b hb;omega
def GR{α:Type}(x:List α)(k:Nat)(y:α)(h:x[k]?=some y):x.drop k=y :: x.drop (k+1):=by
 obtain⟨hk,rfl⟩:=AT.1 h;exact tB hk
open Go.Sort
variable {a:List (Int × Int)}{i:Nat}{n:Int}
def eU(l:List (Int × Int)):List Int:=l.flatMap fun p=>[p.1,p.1+p.2]
def xw(l:List (Int × Int))(k:Nat)(x:Int × Int)(h:l[k]?=some x):eU (l.take (k+1))=eU (l.take k)++[x.1,x.1+x.2]:=by
 rw[take_snoc' l k x h];simp[eU]
def kE(l:List (Int × Int)):(eU l).length=2*l.length:=by
 induction l with
 |nil=>rfl
 |cons p l ih=>simp[eU]at *;omega
def dV(ls:List (List (Int × Int))):List Int:=ls.flatMap eU
def xJ(ls:List (List (Int × Int)))(k:Nat)(l:List (Int × Int))(h:ls[k]?=some l):dV (ls.take (k+1))=dV (ls.take k)++eU l:=by
 rw[take_snoc' ls k l h];simp[dV]
def qE(N:Nat)(ls:List (List (Int × Int)))(h:∀l∈ls,l.length<=N):(dV ls).length<=2*N*ls.length:=by
 induction ls with
 |nil=>simp[dV]
 |cons l ls ih =>
  have h1:=ih (fun l hl=>h l (by simp[hl]));have h2:=h l Tc2;have h3:=kE l;simp only[dV,lB,cD,cS]at *;rw[Nat.mul_add,fp];omega
def Cq(P:List Int)(Z:List Int):Prop:=P.Pairwise (·<·)/\∀n,n∈P↔n∈Z
def Bp(B:Nat)(l:List Int)(v:Value)(w:World)(ho:eG w B v l)(Of:l.length<=100000000) :
  Calls prog 186 #[v] w fun e w'=>e=.returned (.tuple #[])/\eG w' B v (l.mergeSort fun x y=>decide (x<=y))/\Below B w w':=by
 by_cases h0:0<l.length
 ·obtain⟨g,cap,rfl,hB,hg,hc,_,hH⟩:=ho.holds h0;have a5:=Any.slices_Sort_int Tryz.lays189 g 0 cap l w hH hg Tc1;change Calls prog 186 _ _ _ at a5;refine a5.mono ?_;rintro e w' ⟨rfl,n,os,rfl⟩;have:=eG.sorted (n:=n) (os:=os) (s:=l.mergeSort fun x y=>decide (x<=y)) ho (DO l);exact⟨rfl,this.1,this.2⟩
 have hl:l=[]:=fX Tc1;subst hl;obtain⟨p,cap,rfl,_⟩:=ho.rd;refine(Any.slices_Sort_int_none Tryz.lays189 p cap w).mono ?_;rintro e w' ⟨rfl,rfl⟩;exact⟨rfl,by simpa using ho,bj _ _⟩
def Tb2{p:Prop}(h:p:=by
 induction m with
 |zero=>simp[Lib.compactUpTo]
 |succ m ih=>rw[Lib.compactUpTo_succ];split<;>simp<;>omega):p:=h
def vJ(B:Nat)(l:List Int)(v:Value)(w:World)(ho:eG w B v l)(Of:l.length<=100000000) :
  Calls prog 187 #[v] w fun e w'=>∃v',e=.returned v'/\eG w' B v' (IT l)/\Below B w w':=by
 by_cases h0:0<l.length
 ·obtain⟨g,cap,rfl,hB,hg,hc,hcm,hH⟩:=ho.holds h0;have a5:=Any.slices_Compact_int Tryz.laysNm220 g 0 cap l w hH Tc1 hc;change Calls prog 187 _ _ _ at a5;refine a5.mono ?_;rintro e w' ⟨rfl,q,rfl⟩
  have hle:(IT l).length<=l.length:=by
   have:∀m,(Ly l.toArray m).length<=m:=fun m=>by
    exact Tb2
   exact this l.length
  have h1:=Lib.ownsRow_putRow (enc:=Bm .i64) (q:=q) (k:=(IT l).length) (ys:=IT l++DE (l.length-(IT l).length) 0) ho Tc6 hle;rw[List.take_left]at h1;exact⟨_,rfl,h1,Lib.below_putRow (bj _ _) hB⟩
 have hl:l=[]:=fX Tc1;subst hl;obtain⟨p,cap,rfl,_⟩:=ho.rd;refine(Any.slices_Compact_int_empty Tryz.laysNm220 p cap w).mono ?_;rintro e w' ⟨rfl,rfl⟩;exact⟨_,rfl,ho,bj _ _⟩
def Fg(w:World)(Z:List Int)(e:Ending)(w':World):Prop:=∃v P,e=.returned v/\eG w' w.1.size v P/\Cq P Z/\P.length<=Z.length/\Below w.1.size w w'
def Az(Z:List Int):Cq (IT (Z.mergeSort fun x y=>decide (x<=y))) Z/\(IT (Z.mergeSort fun x y=>decide (x<=y))).length<=Z.length:=by
 have hs:(Z.mergeSort fun x y=>decide (x<=y)).Pairwise (·<=·):=by
  have:=List.pairwise_mergeSort (le:=fun x y:Int=>decide (x<=y)) (fun a b c h1 h2=>by simp at *;omega) (fun a b=>by simp;omega) Z;exact this.imp (fun h=>by simpa using h)
 obtain⟨h1,h2⟩:=qi _ hs;refine⟨⟨h1,fun n=>(h2 n).trans ?_⟩,?_⟩
 ·exact(List.mergeSort_perm Z _).mem_iff
 have:∀(d:Array Int) m,(Ly d m).length<=m:=fun d m=>by
  exact Tb2
 have:=this (Z.mergeSort fun x y=>decide (x<=y)).toArray (Z.mergeSort fun x y=>decide (x<=y)).length;rw[DO]at this;unfold IT;rw[DO];exact this
def Co(ls:List (List (Int × Int)))(v:Value)(w:World)(hr:Ey w v ls)(hval:ls.all dI=true)(U6:ls.length<=2)(Of:∀l∈ls,l.length<=10000000) :
  Calls prog 162 #[v] w (Fg w (dV ls)):=by
 have HV:=aa hval;replace Of:=aa Of;clear hval;obtain⟨g,cap,rfl,au,ij,hg,hc⟩:=hr;go_enter func162,ntmps162;go_wp2
 go_loopw[3,10] (fun vo i wr=>∃k:Nat,k<=ls.length/\i=.int .i64 k/\eG wr w.1.size vo (dV (ls.take k))/\Below w.1.size w wr) (fun _ i _=>ls.length-(intOf i).toNat)
 exact⟨0,cg _,rfl,eG.nil _ _,bj _ _⟩;obtain⟨k,hk,rfl,a7,hb⟩:=hrel;by_cases hlt:k<ls.length
 ·obtain⟨l,hl⟩:=aj ls k hlt;obtain⟨u,hu,Um⟩:=hc k l hl;have a9:wr.cell? (g,k)=some u:=(hb.cell (p:=⟨g,k,none⟩) hg).trans hu;obtain⟨p,ag,rfl,ah,av,ab⟩:=Um;have aw:l.length<=10000000:=Of.o l (ct hl);have ae:(dV (ls.take k)).length<=40000000:=by
   have:=qE 10000000 (ls.take k) (fun l hl=>Of.o l (tR hl));have h2:(ls.take k).length<=2:=by simp;omega
   omega
  have mb:dI l=true:=An.1 HV.o l (ct hl);have HVL:=aa mb;have HL:=aa hl;obtain⟨Z,hZ⟩:∃Z,Z=dV (ls.take k):=⟨_,rfl⟩;rw[<- hZ]at a7 ae;replace hZ:=aa hZ;clear hc hu hl mb;go_wp2;obtain⟨wo,rfl⟩:∃wo:World,wo=wr:=⟨_,rfl⟩
  go_loopw[3,16] (fun vo i wr=>∃j:Nat,j<=l.length/\i=.int .i64 j/\eG wr w.1.size vo (Z++eU (l.take j))/\Below w.1.size w wr) (fun _ i _=>l.length-(intOf i).toNat)
  exact⟨0,cg _,rfl,by simpa[eU]using a7,hb⟩;obtain⟨j,hj,rfl,a5,hb2⟩:=hrel;by_cases hlt2:j<l.length
  ·obtain⟨b,off,rfl,gO,hc⟩:=ab Tc1;obtain⟨x,hx⟩:=aj l j hlt2;have a8:=(hc.below hb2 gO) j x hx;have ay:=a8.1;have zc:=a8.2;obtain⟨az,aA,hx2⟩:=iF HVL.o x (ct hx);have Ww:(Z++eU (l.take j)).length<=80000000:=by
    rw[cD,kE];have:(l.take j).length<=10000000:=by simp;omega
    omega
   replace hx:=aa hx;clear hc ab a8;go_wp2_with(at_builtin;refine ve rfl _ _ rfl w.1.size _ (Z++eU (l.take j)) x.1 (x.1+x.2) rfl ?c1 (wr.1.size+1) 2 rfl ?c2 ?c3 Tc1 ?c4 ?_)
   case c1=>refine a5.below ?_;(repeat' (first|exact bj _ _|exact bk _|(refine dT ?_ ?_ _)|(refine aT ?_ _)|(refine gA ?_)|(simp;done)|(simp;omega)))
   try(case c2=>exact aD Tc2 rfl)
   try(case c3=>exact aD Tc2 rfl)
   case c4=>have:=hb2.size;simp;omega
   intro v4 w4 ai af;have hb5:Below w.1.size w w4:=(hb2.trans (by refine kt (B:=wr.1.size) ?_ hb2.size;(repeat' (first|exact bj _ _|exact bk _|(refine dT ?_ ?_ _)|(refine aT ?_ _)|(refine gA ?_)|(simp;done)|(simp;omega))))).trans af;clear af a5 hb2;go_wp2;go_roundw;exact⟨j+1,Tc1,Tc5,by rw[xw l j x hx.o];simpa using ai,hb5⟩;simp[intOf];omega
  go_wp2;go_roundw;exact⟨k+1,Tc1,Tc5,by rw[xJ ls k l HL.o,<- hZ.o];rw[jz (show l.length<=j by omega)]at a5;exact a5,hb2⟩;simp[intOf];omega
 have ak:k=ls.length:=by omega
 subst ak;rw[cI]at a7;have ae:(dV ls).length<=40000000:=by
  have:=qE 10000000 ls Of.o;omega
 have YL:=Az (dV ls);have Qo:=aa YL;generalize dV ls=Z at *;clear YL;go_wp2_with fail;refine(Bp w.1.size _ _ wr a7 Tc1).mono ?_;rintro e w1 ⟨rfl,am,ao⟩;go_wp2_with fail;refine(vJ w.1.size _ _ w1 am (by rw[DO];omega)).mono ?_;rintro e w2 ⟨v2,rfl,aq,hb2⟩;go_wp2;go_ret;exact⟨v2,_,rfl,aq,Qo.o.1,Qo.o.2,(hb.trans ao).trans hb2⟩
def jC{x l:List (Int × Int)}(hx:iE x (Mem l))(hv:dI l=true):dI x=true:=by
 unfold dI;rw[eL];intro p hp;have:=El hx hv p hp;unfold nT;simp;omega
def Ay(P:List Int)(f:Int->Bool)(hs:P.Pairwise (·<·))(hb:∀t∈P,0<=t/\t<=1073741824):dI (Gf P f)=true:=by
 unfold dI;rw[eL];intro r hr;have h1:=uq f P hs r hr;have h2:=hb _ h1.1;have h3:=hb _ h1.2.1;unfold nT;simp;omega
def BR(a b:List (Int × Int))(ha:dI a=true)(hb:dI b=true):∀t∈dV [a,b],0<=t/\t<=1073741824:=by
 intro t ht;simp only[dV,lB,List.flatMap_nil,eM,oT]at ht;have key:∀l:List (Int × Int),dI l=true->t∈eU l->0<=t/\t<=1073741824:=fun l hl h=>by
  unfold eU at h;rw[ur]at h;obtain⟨p,hp,h⟩:=h;have:=iF hl p hp;simp at h;rcases h with rfl|rfl<;>omega
 rcases ht with h|h
 ·exact key a ha h
 exact key b hb h
def zD(a b:List (Int × Int)):∀r,r∈a\/r∈b->r.1∈dV [a,b]/\r.1+r.2∈dV [a,b]:=by
 intro r hr;simp only[dV,lB,List.flatMap_nil,eM,oT];have key:∀l:List (Int × Int),r∈l->r.1∈eU l/\r.1+r.2∈eU l:=fun l hl=>by
  unfold eU;rw[ur,ur];exact⟨⟨r,hl,Tc2⟩,⟨r,hl,Tc2⟩⟩
 rcases hr with h|h
 ·exact⟨.inl (key a h).1,.inl (key a h).2⟩
 exact⟨.inr (key b h).1,.inr (key b h).2⟩
def Past(a:List (Int × Int))(i:Nat)(n:Int):Prop:=∀p∈a.take i,p.1+p.2<=n
def Jc(a:List (Int × Int))(n:Int):Past a 0 n:=by intro p hp;simp at hp
def tO{x:Int × Int}(h:Past a i n)(hx:a[i]?=some x)(hn:x.1+x.2<=n):Past a (i+1) n:=by
 unfold Past;rw[take_snoc' a i x hx];intro p hp;rcases AS.1 hp with hp|hp
 ·exact h p hp
 simp at hp;subst hp;exact hn
def zO{m:Int}(h:Past a i n)(hm:n<=m):Past a i m:=fun p hp=>by have:=h p hp;omega
def zU(ha:NF a)(h:Past a i n)(x:Int × Int)(hx:a[i]?=some x)(h2:n<x.1+x.2):kO a n=decide (x.1<=n):=by
 rw[mN,EK ha i n h (fun y hy=>by rw[hx]at hy;cases hy;exact h2)];constructor
 ·rintro⟨y,hy,h⟩;rw[hx]at hy;cases hy;simpa using h
 intro h;exact⟨x,hx,Tdq⟩
def wV(ha:NF a)(h:Past a i n)(hi:a.length<=i):kO a n=false:=by
 have hn:a[i]?=none:=xj hi;rw[Bool.eq_false_iff];intro hc;rw[EK ha i n h (fun y hy=>by rw[hn]at hy;cases hy)]at hc;obtain⟨y,hy,_⟩:=hc;rw[hn]at hy;cases hy
def Ch(P:List Int)(f:Int->Bool):Gf (P.take (0+1)) f=[]:=by
 cases P with
 |nil=>rfl
 |cons a t=>simp[Gf]
def vD(w:World)(S:Int->Prop)(N:Nat)(e:Ending)(w':World):Prop :=
 ∃v x,e=.returned (.tuple #[v,.int .i64 0])/\bM w' w.1.size v x/\iE x S/\dI x=true/\x.length<=N/\Below w.1.size w w'
def TcP{p:Prop}(h:p:=by
 go_wp2;go_quiet ((refine po (HC.o _ _ _)))
 go_wp2;go_meet
 exact⟨by rw[HF.o];simp only[];rw[HA2.o,cm.o],aT (bj _ _) _⟩):p:=h
def Ta3{p:Prop}(h:p:=by
 rcases hB with⟨hB1,hB2⟩|⟨y,hB1,hy,Sk,hB2⟩|⟨y,hB1,hy,Sk,hB2⟩
 ·have hB3:decide (k'<xb.length)=false:=by simp;omega
  have cm:=aa hB2;clear hB2;exact TcP
 ·obtain⟨bb,as9,rfl,B9,hcb⟩:=hpb Tc1;have hcc:=(hcb.below (mn hb34 C5) B9) k' y hy;have hcb1:=hcc.1;have cm:=aa hB2;clear hB2 hcb hpb hcc hy;exact TcP
 obtain⟨bb,as9,rfl,B9,hcb⟩:=hpb Tc1;have hcc:=(hcb.below (mn hb34 C5) B9) k' y hy;have hcb1:=hcc.1;have cm:=aa hB2;clear hB2 hcb hpb hcc hy;have hB3:decide (y.1<=t)=false:=by simp;omega
 exact TcP):p:=h
def TbB{p:Prop}(h:p:=by
 by_cases hxt:x.1<=t
 ·exact .inr (.inl ⟨x,hia,hx,hxt,by rw[this];simpa using hxt⟩)
 exact .inr (.inr ⟨x,hia,hx,Tc1,by rw[this];simpa using hxt⟩)):p:=h
def Tbz{p:Prop}(h:p:=by
 obtain⟨h1,e1⟩:=List.getElem?_eq_some_iff.1 ht;obtain⟨h2,e2⟩:=List.getElem?_eq_some_iff.1 ht2;have:=List.pairwise_iff_getElem.1 HP.o.1 m (m+1) h1 h2 Tc1;omega):p:=h
def zG(c:Bool->Bool->Bool)(am:c false false=false)(gf:Nat)(eg:∀args w,(callFunc gf args).run prog w=.ok (.enter gf args) w)
  (YM:∀b1 b2 w,Calls prog gf #[.bool b1,.bool b2] w fun e w'=>e=.returned (.bool (c b1 b2))/\w'=w)
  (a b:List (Int × Int)) (v1 v2:Value) (w:World) (hr1:xo w v1 a) (hr2:xo w v2 b) (av:dI a=true) (aw:dI b=true) (hl1:a.length<=1000000) (aR:b.length<=1000000) :
  Calls prog 116 #[v1,v2,.func (.func gf) #[] #[]] w (vD w (fun n=>c (kO a n) (kO b n)=true) (2*(a.length+b.length))):=by
 have Zx:=aa av;have Vn:=aa aw;have HC:=aa YM;replace am:=aa am;clear av aw YM;have RZ:=hr1;have sB:=hr2;obtain⟨pa,ca,rfl,_⟩:=RZ;obtain⟨pb,cb,rfl,_⟩:=sB;go_enter func116,ntmps116
 go_wp2_with fail;refine(qK [a,b] _ _ (xK w _ _ a b _ hr1 hr2)).mono ?_;rintro e w1 ⟨rfl,ay⟩;have a8:Below w.1.size w w1:=mn ((bj _ _).alloc (bk _) _) ay;have hv:[a,b].all dI=true:=by simp[Zx.o,Vn.o]
 go_wp2_with fail;refine(jJ a _ w1 (hr1.below a8) Zx.o Tc1).mono ?_;rintro e w2 ⟨va,xa,rfl,az,R1,aS,hb2⟩;have a9:=mn a8 hb2;go_wp2_with fail;refine(jJ b _ w2 (hr2.below a9) Vn.o Tc1).mono ?_;rintro e w3 ⟨vb,xb,rfl,gR,qu,aU,hb3⟩;have af:=mn a9 hb3;have PA:=az.rd.below hb3;have PB:=gR.rd;clear hr1 hr2 az gR ay hb2 hb3 a8 a9 hv;have aA:=jC R1 Zx.o;have XV:=jC qu Vn.o;have Hn:=aa R1;have Qp:=aa qu;have ao:=aa aA;replace XV:=aa XV;clear R1 qu aA;have RZ:=PA;have sB:=PB;obtain⟨qa,aV,rfl,V8,YN,Qq⟩:=RZ;obtain⟨qb,aW,rfl,aX,YO,hpb⟩:=sB;go_wp2_with fail;refine(Co [xa,xb] _ _ (xK w3 _ _ xa xb _ PA PB) (by simp[ao.o,XV.o]) Tc2 Tc6).mono ?_;rintro e w4 ⟨vp,P,rfl,aB,hP,Pe,aC⟩;have hb34:Below w3.1.size w3 w4:=mn ((bj _ _).alloc (bk _) _) aC;have Ps:P.length<=2*(a.length+b.length):=by
  have h1:=kE xa;have h2:=kE xb;have h3:(dV [xa,xb]).length=(eU xa).length+(eU xb).length:=by simp[dV]
  omega
 have YP:∀t∈P,0<=t/\t<=1073741824:=fun t ht=>BR xa xb ao.o XV.o t ((hP.2 t).1 ht);have HP:=aa hP;replace YP:=aa YP;clear hP Pe PA PB;obtain⟨qp,cp,rfl,Ui,Sa,Un⟩:=aB.rd;clear aB aC;obtain⟨f,hf⟩:∃f:Int->Bool,f=fun t=>c (kO xa t) (kO xb t):=⟨_,rfl⟩;have HF:=aa hf;clear hf;go_wp2
 go_loopw[9,10,11,12] (fun vo vi vk vn wr=>∃m i k:Nat,m<=P.length/\i<=xa.length/\k<=xb.length/\vn=.int .i64 m/\vi=.int .i64 i/\vk=.int .i64 k /\
   (∀t,P[m]?=some t->Past xa i t/\Past xb k t)/\bM wr w4.1.size vo (Gf (P.take (m+1)) f)/\Below w4.1.size w4 wr) (fun _ _ _ vn _=>P.length-(intOf vn).toNat)
 case atStart=>exact⟨0,0,0,cg _,cg _,cg _,rfl,rfl,rfl,fun t _=>⟨Jc _ _,Jc _ _⟩,by rw[Ch];exact bM.nil _ _,bj _ _⟩
 obtain⟨m,i,k,hm,hi,hk,rfl,rfl,rfl,oy,a7,hb⟩:=hrel;replace oy:=aa oy;obtain⟨o,ho⟩:∃o,o=Gf (P.take (m+1)) f:=⟨_,rfl⟩;rw[<- ho]at a7;have aY:o.length<=2*(a.length+b.length):=by rw[ho];have:=wJ f (P.take (m+1));simp at this;omega
 replace ho:=aa ho;by_cases hlt:m+1<P.length
 ·obtain⟨bp,PC,rfl,aE,aq⟩:=Un Tc1;obtain⟨t,ht⟩:=aj P m Tc1;obtain⟨t2,ht2⟩:=aj P (m+1) hlt;have Wy:=(aq.below hb aE) m t ht;obtain⟨Sd,Sg⟩:=oy.o t ht;have aF:=aa Sd;have Sh:=aa Sg;obtain⟨aZ,b8⟩:=YP.o t (ct ht);obtain⟨aI,aJ⟩:=YP.o t2 (ct ht2);have b9:t<t2:=by
   exact Tbz
  have HT:=aa ht;have HT2:=aa ht2;clear ht ht2 Sd Sg;have au:decide ((m:Int)+1<(P.length:Int))=true:=by simp;omega
  go_upto_block 2 with fail
  obtain⟨wo,rfl⟩:∃wo:World,wo=wr:=⟨_,rfl⟩;clear Wy
  go_cut[10] (fun vi wc=>∃i:Nat,i<=xa.length/\vi=.int .i64 i/\Past xa i t/\(∀x,xa[i]?=some x->t<x.1+x.2)/\Below wo.1.size wo wc)
  case first =>
   go_wp2_with fail;go_loopw[10] (fun vi wr=>∃i:Nat,i<=xa.length/\vi=.int .i64 i/\Past xa i t/\Below wo.1.size wo wr) (fun vi _=>xa.length-(intOf vi).toNat)
   exact⟨i,hi,rfl,aF.o,bj _ _⟩;obtain⟨i',hi',rfl,oy,hb5⟩:=hrel;have ab:=aa oy;clear oy;have ak:=mn hb hb5;by_cases hia:i'<xa.length
   ·obtain⟨ba,Si,rfl,ag,mB⟩:=Qq Tc1;obtain⟨x,hx⟩:=aj xa i' hia;have hcc:=(mB.below (mn hb34 ak) ag) i' x hx;have aK:=hcc.1;have zc:=hcc.2;obtain⟨aL,aM,hx2⟩:=iF ao.o x (ct hx);have HX:=aa hx;clear mB Qq hcc hx;by_cases hend:x.1+x.2<=t
    ·go_wp2;go_quiet (fail);go_wp2;go_roundw
     exact⟨i'+1,Tc1,Tc5,tO ab.o HX.o hend,aT hb5 _⟩;simp[intOf];omega
    have ah:decide (x.1+x.2<=t)=false:=by simp;omega
    go_wp2;go_quiet (fail);go_wp2;go_meet;exact⟨i',hi',rfl,ab.o,fun y hy=>by rw[HX.o]at hy;cases hy;omega,aT hb5 _⟩
   have bd:decide (i'<xa.length)=false:=by simp;omega
   go_wp2;go_quiet (fail);go_wp2;go_meet;exact⟨i',hi',rfl,ab.o,fun y hy=>absurd (AT.1 hy).1 Tc1,aT hb5 _⟩
  case rest =>
   clear aF;obtain⟨i',hi',rfl,oy,a5,hb5⟩:=hcut;have ab:=aa oy;have Wz:=aa a5;clear oy a5;have ak:=mn hb hb5;go_upto_block 4 with fail
   obtain⟨Qr,rfl⟩:∃Qr:World,Qr=wc:=⟨_,rfl⟩
   go_cut[11] (fun vk wc=>∃k:Nat,k<=xb.length/\vk=.int .i64 k/\Past xb k t/\(∀x,xb[k]?=some x->t<x.1+x.2)/\Below Qr.1.size Qr wc)
   case first =>
    go_wp2_with fail;go_loopw[11] (fun vk wr=>∃k:Nat,k<=xb.length/\vk=.int .i64 k/\Past xb k t/\Below Qr.1.size Qr wr) (fun vk _=>xb.length-(intOf vk).toNat)
    exact⟨k,hk,rfl,Sh.o,bj _ _⟩;obtain⟨k',hk',rfl,oy,mw⟩:=hrel;have ae:=aa oy;clear oy;have C5:=mn ak mw;by_cases hkb:k'<xb.length
    ·obtain⟨bb,as9,rfl,B9,hcb⟩:=hpb Tc1;obtain⟨x,hx⟩:=aj xb k' hkb;have hcc:=(hcb.below (mn hb34 C5) B9) k' x hx;have aK:=hcc.1;have zc:=hcc.2;obtain⟨aL,aM,hx2⟩:=iF XV.o x (ct hx);have HX:=aa hx;clear hcb hpb hcc hx;by_cases hend:x.1+x.2<=t
     ·go_wp2;go_quiet (fail);go_wp2;go_roundw
      exact⟨k'+1,Tc1,Tc5,tO ae.o HX.o hend,aT mw _⟩;simp[intOf];omega
     have ah:decide (x.1+x.2<=t)=false:=by simp;omega
     go_wp2;go_quiet (fail);go_wp2;go_meet;exact⟨k',hk',rfl,ae.o,fun y hy=>by rw[HX.o]at hy;cases hy;omega,aT mw _⟩
    have aN:decide (k'<xb.length)=false:=by simp;omega
    go_wp2;go_quiet (fail);go_wp2;go_meet;exact⟨k',hk',rfl,ae.o,fun y hy=>absurd (AT.1 hy).1 Tc1,aT mw _⟩
   case rest =>
    clear Sh;obtain⟨k',hk',rfl,oy,a5,mw⟩:=hcut;have ae:=aa oy;replace a5:=aa a5;clear oy;have C5:=mn ak mw;have hA:(xa.length<=i'/\kO xa t=false)\/(∃x,i'<xa.length/\xa[i']?=some x/\x.1<=t/\kO xa t=true)\/(∃x,i'<xa.length/\xa[i']?=some x/\t<x.1/\kO xa t=false):=by
     by_cases hia:i'<xa.length
     ·obtain⟨x,hx⟩:=aj xa i' hia;have:=zU Hn.o.1 ab.o x hx (Wz.o x hx);exact TbB
     exact .inl ⟨Tc1,wV Hn.o.1 ab.o Tc1⟩
    have hB:(xb.length<=k'/\kO xb t=false)\/(∃x,k'<xb.length/\xb[k']?=some x/\x.1<=t/\kO xb t=true)\/(∃x,k'<xb.length/\xb[k']?=some x/\t<x.1/\kO xb t=false):=by
     by_cases hia:k'<xb.length
     ·obtain⟨x,hx⟩:=aj xb k' hia;have:=zU Qp.o.1 ae.o x hx (a5.o x hx);exact TbB
     exact .inl ⟨Tc1,wV Qp.o.1 ae.o Tc1⟩
    go_upto_region 15 with fail
    obtain⟨Uo,rfl⟩:∃Uo:World,Uo=wc:=⟨_,rfl⟩
    go_cut[107] (fun v wc=>v=.bool (f t)/\Below Uo.1.size Uo wc)
    case first =>
     rcases hA with⟨hA1,hA2⟩|⟨x,hA1,hx,hxt,hA2⟩|⟨x,hA1,hx,hxt,hA2⟩
     ·have hA3:decide (i'<xa.length)=false:=by simp;omega
      have HA2:=aa hA2;clear hA2;exact Ta3
     ·obtain⟨ba,Si,rfl,ag,mB⟩:=Qq Tc1;have hcc:=(mB.below (mn hb34 C5) ag) i' x hx;have WB:=hcc.1;have HA2:=aa hA2;clear hA2 mB Qq hcc hx;exact Ta3
     obtain⟨ba,Si,rfl,ag,mB⟩:=Qq Tc1;have hcc:=(mB.below (mn hb34 C5) ag) i' x hx;have WB:=hcc.1;have HA2:=aa hA2;clear hA2 mB Qq hcc hx;have hA3:decide (x.1<=t)=false:=by simp;omega
     exact Ta3
    case rest =>
     clear hA hB;obtain⟨rfl,tb⟩:=hcut;have ai:=mn C5 tb;have be:=(aq.below ai aE) (m+1) t2 HT2.o;clear aq;have Og:∀t',P[m+1]?=some t'->Past xa i' t'/\Past xb k' t':=fun t' h=>by
      rw[HT2.o]at h;cases h
      exact⟨zO ab.o Tc1,zO ae.o Tc1⟩
     replace Og:=aa Og;cases Oi:f t
     ·have yq:Gf (P.take (m+1+1)) f=o:=by rw[tu P f m t t2 HT.o HT2.o,<- ho.o,Oi];simp
      have B6:=aa yq;clear yq;go_wp2;go_roundw;exact⟨m+1,i',k',Tc1,hi',hk',Tc5,rfl,rfl,Og.o,by rw[B6.o];exact a7.below (mn (mn hb5 mw) tb),ai⟩;simp[intOf];omega
     have yq:Gf (P.take (m+1+1)) f=o++[(t,t2-t)]:=by rw[tu P f m t t2 HT.o HT2.o,<- ho.o,Oi];simp
     have B6:=aa yq;clear yq;go_wp2_with(at_builtin;refine jg rfl _ _ rfl w4.1.size _ o (t,t2-t) rfl ?c1 wc.1.size 1 rfl ?c2 ?c3 Tc1 ?c4 ?_)
     case c1=>refine(a7.below (mn (mn hb5 mw) tb)).below ?_;(repeat' (first|exact bj _ _|exact bk _|(refine dT ?_ ?_ _)|(refine aT ?_ _)|(refine gA ?_)|(simp;done)|(simp;omega)))
     try(case c2=>exact aD Tc2 rfl)
     try(case c3=>exact aD Tc2 rfl)
     case c4=>have:=ai.size;simp;omega
     intro v8 w8 aO aG _;have aP:Below w4.1.size w4 w8:=(ai.trans (by refine kt (B:=wc.1.size) ?_ ai.size;(repeat' (first|exact bj _ _|exact bk _|(refine dT ?_ ?_ _)|(refine aT ?_ _)|(refine gA ?_)|(simp;done)|(simp;omega))))).trans aG;clear aG a7;go_wp2;go_roundw;exact⟨m+1,i',k',Tc1,hi',hk',Tc5,rfl,rfl,Og.o,by rw[B6.o];exact aO,aP⟩;simp[intOf];omega
 have au:decide ((m:Int)+1<(P.length:Int))=false:=by simp;omega
 have yq:Gf P f=o:=by
  have:=ho.o;rw[jz Tc1]at this;exact this.symm
 have Rx:dI o=true:=by rw[<- yq];exact Ay P f HP.o.1 YP.o
 have B6:=aa yq;replace Rx:=aa Rx;clear yq;go_wp2_with fail;refine(jJ o _ wr a7.rd Rx.o Tc1).mono ?_;rintro e w5 ⟨v5,x5,rfl,aQ,aH,bf,hb5⟩;go_wp2;go_ret2;refine⟨v5,x5,rfl,aQ.mono (mn (mn af hb34) hb).size,aH.congr (fun n=>?_),jC aH Rx.o,Tc1,mn (mn (mn af hb34) hb) hb5⟩;rw[<- B6.o,HF.o,xD xa xb c am.o P HP.o.1 (fun r hr=>by
  have:=zD xa xb r hr;exact⟨(HP.o.2 _).2 this.1,(HP.o.2 _).2 this.2⟩) n]
 rw[LX (Hn.o.2 n),LX (Qp.o.2 n)]
def cM(x y:Bool):Bool:=x&&!y
def EY(b1 b2:Bool)(w:World):Calls prog 117 #[.bool b1,.bool b2] w fun e w'=>e=.returned (.bool (cM b1 b2))/\w'=w:=by
 cases b1<;>cases b2<;>(go_enter func117,ntmps117;go_wp2;go_ret;exact⟨rfl,rfl⟩)
def DK(a b:List (Int × Int))(v1 v2:Value)(w:World)(hr1:xo w v1 a)(hr2:xo w v2 b)(a7:dI a=true)(a8:dI b=true)(hl1:a.length<=1000000)(a9:b.length<=1000000) :
  Calls prog 70 #[v1,v2] w (vD w (fun n=>cM (kO a n) (kO b n)=true) (2*(a.length+b.length))):=by
 have a5:=zG cM rfl 117 (enters_of func117 Tc3 rfl) EY a b v1 v2 w hr1 hr2 a7 a8 hl1 a9;replace a5:=aa a5;clear hr1 hr2 a7 a8;go_enter func70,ntmps70
 go_wp2_with fail;refine a5.o.mono ?_;rintro e w' ⟨v,x,rfl,h⟩;have H:=aa h;clear h;go_wp2;go_ret2;exact⟨v,x,rfl,H.o⟩
end Go.Proofs.YtaagglbgohjldaaGreatDoor
