/- Lemmas: MkK. -/
import Derived.Test.YtjdfihglehfelaaGreatDoorPf06
set_option maxRecDepth 100000
set_option maxHeartbeats 32000000
set_option linter.all false
namespace Go.Proofs.YtjdfihglehfelaaGreatDoor
open Go.Proofs.Tryz
open Go.RowKit
def iL {α:Type}(V:jx α)(sz:Nat)(ok:Nat->Prop)(w:World)(v:Value)(l:List α):Prop :=
 ∃ b olds,v=.slice (some ⟨b,0,none⟩) l.length l.length/\b<w.heap.size/\ok b/\Flat V sz ok w olds l/\(∀ (j:Nat) (y:Value),olds[j]?=some y->w.cell? ⟨b,j,none⟩=some y)/\l.length<=1000000
theorem iL.moves {α:Type}{V:jx α}{sz:Nat}(hV:Moves V){ok ok':Nat->Prop}{w w':World}{v:Value}{l:List α}(hm:Mv ok ok' w w')(h:iL V sz ok w v l):iL V sz ok' w' v l:=by
 obtain ⟨b,olds,e,hb,ho,hf,hc,hn⟩:=h;exact ⟨b,olds,e,cC hb hm.1,(hm.2 b hb ho).1,Flat.moves hV hm _ _ hf,fun j y hy=>(cd (w:=w) (hm.2 b hb ho).2).trans (hc j y hy),hn⟩
theorem rG {α:Type}{V:jx α}(hV:Moves V){sz bytes:Nat}{t e ty:TypeId}{i0:TypeInfo}{z:Value}(hu:prog.underlying t=some (.slice e))(hi:prog.info? e=some i0)(hz:i0.zero=some z)(hsize:i0.size=sz)(hby:i0.bytes=bytes)(hzs:z.cells.size=sz)(Hv:bytes<=1000)
  {w:World} (B:Nat) (ok:Nat->Prop) (v:Value) (l:List α) (p:α) (hown:iL V sz ok w v l) (g c:Nat) (u:List Value)
  (ez:u.length=sz) (Kk:V ok w u p) (hu1:∀ z∈u,z.oneCell'=true) (hc:∀ (j:Nat) (y:Value),u[j]?=some y->w.cell? ⟨g,j,none⟩=some y) (hB:B<=w.heap.size) :
  ∃ cap w',(Builtin.append_ #[t,t] ty #[v,.slice (some ⟨g,0,none⟩) 1 c]).run prog w=.ok (.slice (some ⟨w.heap.size,0,none⟩) (l.length+1) cap) w' /\
   bF V sz e B ok w' (.slice (some ⟨w.heap.size,0,none⟩) (l.length+1) cap) (l++[p])/\Below w.heap.size w w'/\w.heap.size<w'.heap.size:=by
 subst hsize;subst hby
 obtain ⟨b,olds,rfl,hb,gR,hf,hcs,hl⟩:=hown;have hl1:(l++[p]).length=l.length+1:=by simp
 have JV:olds.length=l.length*i0.size:=Flat.length _ _ hf;have hbl:(l.length+1)*i0.bytes<=2000000*1000:=ue (by omega) Hv
 have hr:=run_append_grow (P:=prog) w t ty e i0 z hu hi hz ⟨b,0,none⟩ l.length l.length olds JV (fun j y hy=>by
  rw [iz,eJ]
  exact hcs j y hy) ⟨g,0,none⟩ 1 c u (by omega) (fun j y hy=>by
  rw [iz,eJ]
  exact hc j y hy) (by omega) (by omega) (growslice_fits (by omega) (by omega))
 have jn:Below w.heap.size w (w.drew.alloc (.cells (olds.toArray++u.toArray++Builtin.zeroCells z.cells (grownCap w (l.length+1) l.length e - (l.length+1))) e)):=((bj _ _).drew).alloc (bk _) _;have hm:Mv ok ok w (w.drew.alloc (.cells (olds.toArray++u.toArray++Builtin.zeroCells z.cells (grownCap w (l.length+1) l.length e - (l.length+1))) e)):=⟨jn.size,fun b hb gR=>⟨gR,jn.block b hb⟩⟩;have TU:=grownCap_ge w (l.length+1) l.length e;have hcm:grownCap w (l.length+1) l.length e<=maxLen:=grownCap_le_maxLen w _ _ e (by unfold maxLen;omega);have hlen:(olds++u).length=(l.length+1)*i0.size:=by rw [cD,JV,ez,ie];omega
 refine ⟨_,_,hr,⟨olds++u,⟨by rw [hl1];exact hlen,.inr ⟨w.heap.size,_,_,by rw [hl1],hB,b9 w.drew _,by rw [hl1];exact TU,hcm,?_,?_⟩⟩,(Flat.one ez (hV.mv hm Kk) hu1).append _ _ (Flat.moves hV hm _ _ hf)⟩,jn,by simp⟩
 ·simp only [Array.size_append,List.size_toArray,size_zeroCells,hzs,JV,ez]
  rw [<- ez,show l.length*u.length+u.length=(l.length+1)*u.length from by rw [ie];omega,<- ie,Nat.add_sub_of_le TU]
 ·simp only [Array.toList_append,cV]
  rw [<- cV,hl1,<- hlen];exact List.take_left
def P8 {α:Type}(V:jx α)(sz:Nat)(t:TypeId)(B:Nat)(ok:Nat->Prop)(w:World)(v:Value)(l:List α):Prop:=(iL V sz ok w v l/\∀ b,v.ownBlock=some b->b<B)\/bF V sz t B ok w v l
def ownB (B:Nat)(v:Value)(k:Nat):Prop:=v.ownBlock=some k/\B<=k
structure Ad {α:Type}(V:jx α)(sz:Nat)(e:TypeId)(B:Nat)(ok:Nat->Prop)(w:World)(v:Value)(l:List α)(p:α)(gb cap:Nat)(w':World):Prop where
 own:bF V sz e B ok w' (.slice (some ⟨gb,0,none⟩) (l.length+1) cap) (l++[p])
 mod:cR (ownB B v) w w'
 at':ownB B v gb\/(gb=w.heap.size/\gb<w'.heap.size)
theorem Aq {α:Type}{V:jx α}(hV:Moves V){sz bytes:Nat}{t e:TypeId}{i0:TypeInfo}{z:Value}(hu:prog.underlying t=some (.slice e))(hi:prog.info? e=some i0)(hz:i0.zero=some z)(hsize:i0.size=sz)(hby:i0.bytes=bytes)(hzs:z.cells.size=sz)(hsz:0<sz)(Hv:bytes<=1000)
  {w:World} {ops:Array Oper} {rest:List Oper} {o:Oper} {a:Act} {Q:Exit->Act->World->Prop} (hgd:o.guard=none) (s x:Operand)
  (ho:o.op=.call { callee:=.builtin .append,args:=#[s,x],argTypes:=#[t,t] })
  (B:Nat) (ok:Nat->Prop) (v:Value) (l:List α) (p:α) (hs:a.eval s=v) (hown:P8 V sz e B ok w v l) (g c:Nat) (u:List Value) (hx:a.eval x=.slice (some ⟨g,0,none⟩) 1 c)
  (ez:u.length=sz) (Kk:V ok w u p) (hu1:∀ z∈u,z.oneCell'=true) (hc:∀ (j:Nat) (y:Value),u[j]?=some y->w.cell? ⟨g,j,none⟩=some y) (hl:l.length<=1000000) (hB:B<=w.heap.size)
  (gw:∀ b,ownB B v b->¬ ok b)
  (h:∀ gb cap w',Ad V sz e B ok w v l p gb cap w'->wpList prog ops Q rest (a.put o.dst (.slice (some ⟨gb,0,none⟩) (l.length+1) cap)) w'):wpList prog ops Q (o :: rest) a w:=by
 refine wpList_plain hgd fun K hK=>?_;rcases hown with hown | hown
 ·obtain ⟨cap,w',hr,h1,h2,h3⟩:=rG (ty:=o.type) hV hu hi hz hsize hby hzs Hv B ok v l p hown.1 g c u ez Kk hu1 hc hB
  unfold Oper.wp execOp;simp only [ho,resolve,invoke,builtin,Sem.run_bind,Sem.run_pure,ud,tS,iu,List.map_nil,hs,hx,hr];exact hK _ _ (h _ cap w' ⟨h1,cR.of_below h2,.inr ⟨rfl,h3⟩⟩)
 ·have gR:∀ b,v.ownBlock=some b->ownB B v b:=fun b e=>⟨e,by obtain ⟨cs,ho,_⟩:=hown;exact (ho.lt b e).1⟩
  obtain ⟨gb,cap,w',hr,hp⟩:=nS (ty:=o.type) hV hu hi hz hsize hby hzs hsz Hv B ok v l p hown g c u ez Kk hu1 hc hl hB (fun b e=>gw b (gR b e));unfold Oper.wp execOp;simp only [ho,resolve,invoke,builtin,Sem.run_bind,Sem.run_pure,ud,tS,iu,List.map_nil,hs,hx,hr];refine hK _ _ (h gb cap w' ⟨hp.own,⟨hp.grown.os,hp.grown.tape,hp.grown.output,hp.grown.size,fun k hk hn=>hp.grown.block k hk fun e=>hn (gR k e.symm)⟩,?_⟩)
  have K2:gb<w'.heap.size:=by
   obtain ⟨cs,ho,_⟩:=hp.own;exact (ho.lt gb rfl).2
  rcases hp.at' with q | q
  ·exact .inl (gR gb q)
  ·exact .inr ⟨q,K2⟩
theorem P8.moves {α:Type}{V:jx α}{sz B:Nat}{t:TypeId}(hV:Moves V){ok ok':Nat->Prop}{w w':World}{v:Value}{l:List α}(hm:Mv ok ok' w w')(hk:∀ k,ownB B v k->w'.heap[k]?=w.heap[k]?)(h:P8 V sz t B ok w v l):P8 V sz t B ok' w' v l:=by
 rcases h with ⟨h,h2⟩ | ⟨cs,ho,hf⟩
 ·exact .inl ⟨h.moves hV hm,h2⟩
 ·exact .inr ⟨cs,aC ho fun k e=>hk k ⟨e,(ho.lt k e).1⟩,Flat.moves hV hm _ _ hf⟩
theorem P8.rd {α:Type}{V:jx α}{sz B:Nat}{t:TypeId}{ok ok':Nat->Prop}{w:World}{v:Value}{l:List α}(hV:Moves V)(h:P8 V sz t B ok w v l)(hsz:0<sz)(gw:∀ b,b<w.heap.size->ok b->ok' b)(hown:∀ b,ownB B v b->ok' b):ck V sz ok' w [v] l:=by
 rcases h with ⟨⟨b,olds,rfl,hb,ho,hf,hc,hn⟩,_⟩ | h
 ·refine ⟨_,l.length,rfl,bk _,?_,fun _=>⟨b,0,rfl,hb,gw b hb ho,fun i x hx=>?_⟩⟩
  ·omega
  ·obtain ⟨u,k1,k2,k3⟩:=Flat.get l olds hf i x hx
   exact ⟨u,k1,hV.mv ⟨bk _,fun b hb' ho=>⟨gw b hb' ho,rfl⟩⟩ k2,fun j z hz=>by rw [eJ];exact hc _ _ (k3 j z hz)⟩
 ·exact h.rd hV hsz gw fun b e=>hown b ⟨e,by obtain ⟨cs,ho,_⟩:=h;exact (ho.lt b e).1⟩
inductive lD (id:Int)(c:Int):List ByteArray->List Int->List (ByteArray × Int × Int)->List ay->Prop
 | nil:lD id c [] [] [] []
 | snoc {ns:List ByteArray} {ls:List Int} {ps:List (ByteArray × Int × Int)} {vl:List ay} {nm on:ByteArray} {l s:Int} (h:lD id c ns ls ps vl):lD id c (ns++[nm]) (ls++[l]) (ps++[(on,s,l)]) (vl++[eD nm (oX id (c+ns.length+1)) true l on s])
theorem lD.len {id c:Int}{ns:List ByteArray}{ls:List Int}{ps:List (ByteArray × Int × Int)}{vl:List ay}(h:lD id c ns ls ps vl):vl.length=ns.length:=by
 induction h with
 | nil=>rfl
 | snoc h ih=>simp [ih]
def FV (X:Nat->Prop)(bs bb:Nat)(nv vv:Value)(g:af)(next:List Int)(names:List ByteArray)(lengths:List Int)(w:World)(e:Ending)(w':World):Prop :=
 (∃ (ps:List (ByteArray × Int × Int)) (vl:List ay) (next':List Int) (pA:Value),e=.returned (.bool true)/\lD g.id g.next names (lengths.take names.length) ps vl/\fZ g.Gb next ps next' /\
  aH X bs bb nv vv w w' nv pA { g with next:=g.next+names.length,F9:=g.F9++vl } next') \/
 ∃ (j:Nat) (IU pA:Value),e=.returned (.bool false)/\j<=names.length/\aH X bs bb nv vv w w' IU pA { g with next:=g.next+j } next
theorem eW.vForm {X:Nat->Prop}{w:World}{bs bb:Nat}{nv vv:Value}{g:af}{next:List Int}(h:eW X w bs bb nv vv g next):∃ p cap,vv=.slice p g.F9.length cap/\g.F9.length<=cap/\cap<=9223372036854775807/\(p=none/\cap=0\/∃ b,p=some ⟨b,0,none⟩):=by
 obtain ⟨cs,⟨_,h2⟩,_⟩:=h.ownV;rcases h2 with ⟨rfl,hn⟩ | ⟨g,cap,cur,rfl,_,_,vr,hcm,_⟩
 ·exact ⟨none,0,by rw [hn],by omega,by omega,.inl ⟨rfl,rfl⟩⟩
 ·exact ⟨_,cap,rfl,vr,by unfold maxLen at hcm;omega,.inr ⟨_,rfl⟩⟩
theorem eW.nForm {X:Nat->Prop}{w:World}{bs bb:Nat}{nv vv:Value}{g:af}{next:List Int}(h:eW X w bs bb nv vv g next)(h0:0<next.length):∃ b cap,nv=.slice (some ⟨b,0,none⟩) next.length cap/\next.length<=cap/\cap<=9223372036854775807/\bb<b/\b<w.heap.size/\ig w b 0 next:=by
 have ho:=h.ownN;rcases ho.2 with ⟨rfl,hn⟩ | ⟨b,cap,cur,rfl,hb,hg,vr,hcm,hcs,ht⟩
 ·omega
 ·refine ⟨b,cap,rfl,vr,by unfold maxLen at hcm;omega,by omega,(Array.getElem?_eq_some_iff.1 hg).1,fun i n hn=>?_⟩
  have:=ho.cellAt i (by have:=(List.getElem?_eq_some_iff.1 hn).1;omega);rw [eJ,this];simp [hn]
theorem eW.c10 {X:Nat->Prop}{w:World}{bs bb:Nat}{nv vv:Value}{g:af}{next:List Int}(h:eW X w bs bb nv vv g next):w.cell? ⟨bb,10,none⟩=some nv:=by
 obtain ⟨tv,dv,hv,e,_,h2,_⟩:=h.blk;simp [World.cell?,e]
theorem CF {o:Oper}{a:Act}{w:World}{K:Act->World->Prop}{Q:Exit->Act->World->Prop}(s x:Operand)
  (ho:o.op=.call { callee:=.builtin .append,args:=#[s,x],argTypes:=#[22,22] })
  (B:Nat) (m:List Int) (hs:a.eval s=.slice none 0 0) (b c:Nat) (hx:a.eval x=.slice (some ⟨b,0,none⟩) m.length c) (h0:0<m.length)
  (hc:ig w b 0 m) (hl:m.length<=1000000) (hB:B<=w.heap.size)
  (h:∀ gb cap w',eG w' B (.slice (some ⟨gb,0,none⟩) m.length cap) m->Below w.heap.size w w'->w.heap.size<=gb->gb<w'.heap.size->m.length<=cap->cap<=9223372036854775807->K (a.put o.dst (.slice (some ⟨gb,0,none⟩) m.length cap)) w'):o.wp prog a w K Q:=by
 obtain ⟨i0,hi,hz0,hz1,hz2⟩:=ei tZ
 obtain ⟨v',w',hr,h2,h3,h4,h5⟩:=run_append_own_at (P:=prog) w w.heap.size 22 o.type 3 i0 _ 1 8 underlying22 hi hz0 hz1 hz2 rfl (by decide) (.slice none 0 0) 0 [] (gS w _ _ 1) ⟨b,0,none⟩ m.length c (m.map (Value.int .i64)) (by simp) (fun j u hu=>by
  rw [iz];obtain ⟨n,hn,rfl⟩:∃ n,m[j]?=some n/\Value.int .i64 n=u:=by simpa using hu
  exact hc j n hn) (fun u hu=>by
   obtain ⟨n,_,rfl⟩:=List.mem_map.1 hu
   rfl) (by unfold maxLen;omega) (by omega) (bk _)
 rw [eJ,List.nil_append] at h2;have h6:=h2.2;rcases h6 with ⟨_,hn⟩ | ⟨gb,cap,cur,rfl,hb,hg,vr,hcm,hcs,ht⟩
 ·omega
 ·unfold Oper.wp execOp
  simp only [ho,resolve,invoke,builtin,Sem.run_bind,Sem.run_pure,ud,tS,iu,List.map_nil,hs,hx,hr];have hlt:=h2.lt gb rfl;exact h gb cap w' (eG.mono h2 hB) ⟨h3.os,h3.tape,h3.output,h3.size,fun k hk=>h3.block k hk (by simp [Value.ownBlock])⟩ hlt.1 hlt.2 vr (by unfold maxLen at hcm;omega)
theorem ck.form {α:Type}{V:jx α}{sz:Nat}{ok:Nat->Prop}{w:World}{v:Value}{l:List α}(h:ck V sz ok w [v] l):∃ p cap,v=.slice p l.length cap/\l.length<=cap/\cap<=9223372036854775807/\(0<l.length->∃ b off,p=some ⟨b,off,none⟩/\b<w.heap.size/\ok b/\oh V sz ok w b off l):=by
 obtain ⟨p,cap,e,h1,h2,h3⟩:=h;injection e with e
 exact ⟨p,cap,e,h1,h2,h3⟩
theorem vg {w:World}{B sz N N' cap:Nat}{t:TypeId}{p:Option Addr}{xs:List Value}(h:w.ownsRow B t sz (.slice p N cap) N' xs)(n0:Nat)(hn:n0<=N'):w.ownsRow B t sz (.slice p n0 cap) n0 (xs.take (n0*sz)):=by
 obtain ⟨h1,h2⟩:=h;have hle:n0*sz<=N'*sz:=tA _ hn;refine ⟨by rw [ey,h1];omega,?_⟩;rcases h2 with ⟨e,hz⟩ | ⟨g,cap',cur,e,hb,hg,vr,hcm,hcs,ht⟩
 ·injection e with e1 e2 e3
  subst hz;obtain rfl:n0=0:=by omega
  exact .inl ⟨by rw [e1,e3],rfl⟩
 ·injection e with e1 e2 e3
  subst e3;refine .inr ⟨g,cap,cur,by rw [e1],hb,hg,by omega,hcm,hcs,?_⟩;rw [<- ht,List.take_take,Nat.min_eq_left hle]
theorem Flat.takeL {α:Type}{V:jx α}{sz:Nat}{ok:Nat->Prop}{w:World}{m:List α}:∀ (l:List α) (cs:List Value),Flat V sz ok w cs (l++m)->Flat V sz ok w (cs.take (l.length*sz)) l
 | [],cs,_=>by simp [Flat]
 | x :: l,cs,⟨u,r,e,h1,h2,h3,h4⟩=>by
  refine ⟨u,r.take (l.length*sz),?_,h1,h2,h3,Flat.takeL l r h4⟩;rw [e,cS,ie,Nat.one_mul,List.take_append,h1,jz (by omega),show l.length*sz+sz - sz=l.length*sz by omega]
theorem aH.restore {X Y:Nat->Prop}{w0 w:World}{bs bb gb N n0 cap c:Nat}{p:Option Addr}{rK rN nv:Value}{g:af}{v0 vl:List ay}{next next0:List Int}(h:aH Y bs bb rK rN w0 w nv (.slice p N cap) g next)(hv:g.F9=v0++vl)(hn:v0.length=n0)
  (ho:eG w (bb+1) (.slice (some ⟨gb,0,none⟩) next0.length c) next0) (TV:∀ k,X k->Y k) (U5:Y gb) (QR:¬ X gb) (hg0:w0.heap.size<=gb) :
  aH X bs bb rK rN w0 ((w.setCell ⟨bb,8,none⟩ (.slice p n0 cap)).setCell ⟨bb,10,none⟩ (.slice (some ⟨gb,0,none⟩) next0.length c)) (.slice (some ⟨gb,0,none⟩) next0.length c) (.slice p n0 cap) { g with F9:=v0 } next0:=by
 have hb:=h.bld;have hbl:=hb.Gj;have hlt:=hb.lt;generalize hw':(w.setCell ⟨bb,8,none⟩ (.slice p n0 cap)).setCell ⟨bb,10,none⟩ (.slice (some ⟨gb,0,none⟩) next0.length c)=w';have hk:∀ k,k≠bb->w'.heap[k]?=w.heap[k]?:=fun k hk=>by rw [<- hw',bw _ _ _ _ hk,bw _ _ _ _ hk]
 have hz:w'.heap.size=w.heap.size:=by rw [<- hw'];simp [World.setCell]
 have gR:∀ k,(Value.slice p n0 cap).ownBlock=some k->(Value.slice p N cap).ownBlock=some k:=fun k e=>by
  cases p with
  | none=>cases e
  | some a=>exact e
 have hgb:=hb.xlt gb U5;have gw:∀ b,okB Y bb nv (.slice p N cap) b->okB X bb (.slice (some ⟨gb,0,none⟩) next0.length c) (.slice p n0 cap) b:=fun b ho=>⟨ho.1,fun e=>ho.2.2.2 (by injection e with e;exact e ▸ U5),fun e=>ho.2.2.1 (gR b e),fun hx=>ho.2.2.2 (TV b hx)⟩
 have hm:Mv (okB Y bb nv (.slice p N cap)) (okB X bb (.slice (some ⟨gb,0,none⟩) next0.length c) (.slice p n0 cap)) w w':=⟨by omega,fun b _ ho=>⟨gw b ho,hk b (by have:=ho.1;omega)⟩⟩;refine ⟨⟨hb.src.keep fun i hi=>hk i (by omega),hlt,?_,?_,?_,fun k e e'=>?_,fun k hx=>⟨(hb.xlt k (TV k hx)).1,by rw [hz];exact (hb.xlt k (TV k hx)).2⟩,fun k e hx=>?_,fun k e hx=>hb.xv k (gR k e) (TV k hx)⟩,?_,fun k e=>.inr ?_,fun k e=>h.vfr k (gR k e)⟩
 ·obtain ⟨tv,dv,hv,e,h1,h2,h3⟩:=hb.blk
  refine ⟨tv,dv,hv,?_,(ck.moves aF.moves).mv hm h1,(ck.moves aO.moves).mv hm h2,h3⟩;rw [<- hw'];exact block_setCell (cs:=#[_,_,_,_,_,_,_,_,_,_,_]) (i:=10) _ (block_setCell (cs:=#[_,_,_,_,_,_,_,_,_,_,_]) (i:=8) _ e)
 ·exact aC ho fun k e=>hk k (by injection e with e;have e':gb=k:=e;omega)
 ·obtain ⟨cs,hr,hf⟩:=hb.ownV
  rw [hv] at hr hf;refine ⟨cs.take (n0*6),?_,?_⟩
  ·show w'.ownsRow (bb+1) _ 6 (.slice p n0 cap) v0.length _
   rw [hn];refine aC (w:=w) (vg hr n0 (by rw [cD];omega)) fun k e=>hk k ?_;have:=hb.vLt (gR k e);omega
  ·have:=Flat.takeL v0 cs hf
   rw [hn] at this;exact Flat.moves aN.moves hm _ _ this
 ·have e1:gb=k:=by injection e
  subst e1;exact hb.xv gb (gR gb e') U5
 ·have e1:gb=k:=by injection e
  subst e1;exact QR hx
 ·rw [<- hw']
  exact (h.mod.setCell (p:=⟨bb,8,none⟩) (.inl (.inr (.inl rfl))) _).setCell (p:=⟨bb,10,none⟩) (.inl (.inr (.inl rfl))) _
 ·have e1:gb=k:=by injection e
  omega
theorem zi (X:Nat->Prop)(bs bb:Nat)(nv vv:Value)(g:af)(next:List Int)(w:World)(h:eW X w bs bb nv vv g next)(hk:Ld g next)(ft fx:Value)(names:List ByteArray)(lengths:List Int)
  (Kl:ck aF 1 X w [ft] names) (U6:ck cO 1 X w [fx] lengths) (zr:names.length<=lengths.length) (hn8:names.length<=8) (hl8:lengths.length<=8) (Li:∀ l∈lengths,1<=l/\l<=1000) (mb:g.F9.length<=40) (X7:g.next<=1000) :
  Calls prog 94 #[.pointer (some ⟨bb,0,none⟩),ft,fx] w (FV X bs bb nv vv g next names lengths w):=by
 have k0:=hk.n0;have k1:=hk.n1;have k2:=hk.dk.pos;have k3:=hk.dk.le;have kl0:0<next.length:=by rw [hk.dk.len];omega
 have kl1:next.length<=8:=by rw [hk.dk.len];omega
 have c8:=h.c8;have c10:=h.c10;have cX:=h.Gj;obtain ⟨vp,IY,rfl,v1,v2,v3⟩:=h.vForm;obtain ⟨nb,ki,rfl,n1,n2,n3,n4,n5⟩:=h.nForm (by omega);have QS:=aa n5;clear n5;obtain ⟨np,X8,rfl,a1,a2,a3⟩:=Kl.form;obtain ⟨lp,X9,rfl,b1,b2,b3⟩:=U6.form;have OT:=aa a3;clear a3 Kl;have cJ:=aa b3;clear b3 U6;have Qc:=aa Li;clear Li;have Ya:=aa v3;clear v3;go_enter func94,ntmps94;go_wp2;refine aL (fun w'=>w'.cell? ⟨bb,8,none⟩=some (.slice vp g.F9.length IY)/\w'.cell? ⟨bb,10,none⟩=some (.slice (some ⟨nb,0,none⟩) next.length ki)) 11 [0,1,2,3,6,7,8] (by kernel_rfl) ⟨c8,c10⟩ (fun hHeld=>?_);refine fz 0 ?_;try simp only [ak];refine fz 1 ?_;try simp only [ak];refine fz 2 ?_;try simp only [ak];refine fz 3 ?_;try simp only [ak];refine fz 6 ?_;try simp only [ak];refine fz 7 ?_;try simp only [ak];refine fz 8 ?_;try simp only [ak];refine fS 4 hHeld ?_;try simp only [ak];refine fS 9 hHeld ?_;try simp only [ak];refine fS 5 hHeld ?_;try simp only [ak];refine lR 10 fun K hK=>?_;refine CF _ _ rfl (bb+1) next (by rfl) nb ki (by rfl) (by omega) QS.o (by omega) cX (fun gb cap w1 Mq hb1 hg1 hg2 hc1 hc2=>?_);refine hK.o _ _ ⟨(hb1.cell (p:=⟨bb,8,none⟩) cX).trans c8,(hb1.cell (p:=⟨bb,10,none⟩) cX).trans c10⟩ ?_;clear hK K;refine aP (by kernel_rfl) rfl ?_;simp only [cQ,cL,Act.put,xT];go_wp2;have hz1:=hb1.size
 have P1:aH (fD X gb) bs bb (.slice (some ⟨nb,0,none⟩) next.length ki) (.slice vp g.F9.length IY) w w1 (.slice (some ⟨nb,0,none⟩) next.length ki) (.slice vp g.F9.length IY) g next:=((aH.refl h).drewN 1).fresh hb1 (by
  rintro k (q | rfl)
  ·exact .inl q
  ·exact .inr ⟨hg1,hg2⟩)
 have ZY:=aa Mq;clear Mq;have U7:w.heap.size<=gb:=hg1;have QR:¬ X gb:=fun q=>by have:=(h.xlt gb q).2;omega
 go_loopw [9] (fun i wr=>∃ (k:Nat) (ps:List (ByteArray × Int × Int)) (vl:List ay) (next':List Int) (pA:Value),k<=names.length/\i=.int .i64 k/\lD g.id g.next (names.take k) (lengths.take k) ps vl/\fZ g.Gb next ps next' /\
   aH (fD X gb) bs bb (.slice (some ⟨nb,0,none⟩) next.length ki) (.slice vp g.F9.length IY) w wr (.slice (some ⟨nb,0,none⟩) next.length ki) pA { g with next:=g.next+k,F9:=g.F9++vl } next'/\wr.heap[gb]?=w1.heap[gb]?) (fun i _=>names.length - (intOf i).toNat)
 case atStart =>
  refine ⟨0,[],[],next,.slice vp g.F9.length IY,by omega,rfl,.nil,.nil _,?_,rfl⟩;simpa using P1
 case round =>
  obtain ⟨k,ps,vl,next',pA,IQ,rfl,Yb,DB,P,hgb⟩:=hrel;have dk:=DB.ok hk.dk;have U8:=aa Yb;clear Yb;have JW:=aa hgb;clear hgb;have Lj:vl.length<=8:=by have:=U8.o.len;rw [ey] at this;omega
  have MQ:Ld { g with next:=g.next+k,F9:=g.F9++vl } next':=⟨dk,by simp;omega,by simp;omega,by simp;omega⟩
  obtain ⟨NS,vc2,rfl,w1',w2',w3'⟩:=P.bld.vForm;have HW3:=aa w3';clear w3';have d8:=P.bld.c8;have hML:(g.F9++vl).length<=48:=by rw [cD];omega
  simp only at d8 w1' P;generalize hM:(g.F9++vl).length=M at *;have HM:=aa hM;clear hM
  have hcw:eG wr (bb+1) (.slice (some ⟨gb,0,none⟩) next.length cap) next:=aC ZY.o fun q e=>by
   have e1:gb=q:=by injection e
   subst e1;exact JW.o
  by_cases hlt:k<names.length
  ·by_cases h31:31<=M
   ·have hdd:decide ((31:Int)<=(M:Int))=true:=by simp;omega
    obtain ⟨vb,rfl⟩:∃ b,NS=some ⟨b,0,none⟩:=HW3.o.resolve_left (fun q=>by omega);have ZZ:g.F9.length<=M:=by rw [<- HM.o,cD];omega
    have z1:(0:Int)<=(g.F9.length:Int):=by omega
    have z2:(g.F9.length:Int)<=(vc2:Int):=by omega
    have Z0:=P.bld.bfr 8;have U9:=P.bld.bfr 10;have Va:=P.bld.c10;go_wp2;go_quiet (fail);go_wp2;go_ret;exact .inr ⟨k,_,_,rfl,by omega,(P.drewN nq).restore rfl rfl hcw (fun q hq=>.inl hq) (.inr rfl) QR U7⟩
   ·have hdd:decide ((31:Int)<=(M:Int))=false:=by simp;omega
    obtain ⟨Lk,no1,rfl,Z2,Z3,Yd⟩:=OT.o (by omega);obtain ⟨lb1,lo1,rfl,Z4,Z5,Ye⟩:=cJ.o (by omega);obtain ⟨nm,pD⟩:=aj names k hlt;obtain ⟨ln,TW⟩:=aj lengths k (by omega);have Vb:=Qc.o ln (ct TW)
    have Z6:wr.cell? ⟨Lk,no1+k,none⟩=some (.string nm):=by
     obtain ⟨u,_,hu,hc⟩:=Yd k nm pD;have:=hc 0 (.string nm) (by rw [hu];rfl);rw [(cd (w:=w) (P.mod.block Lk Z2 (h.xfp Z3)):wr.cell? ⟨Lk,no1+k,none⟩=_)];simpa using this
    have cl1:wr.cell? ⟨lb1,lo1+k,none⟩=some (.int .i64 ln):=by
     obtain ⟨u,_,hu,hc⟩:=Ye k ln TW;have:=hc 0 (.int .i64 ln) (by rw [hu];rfl);rw [(cd (w:=w) (P.mod.block lb1 Z4 (h.xfp Z5)):wr.cell? ⟨lb1,lo1+k,none⟩=_)];simpa using this
    clear Yd Ye;have Mr:=aa pD;clear pD;have Ky:=aa TW;clear TW;have z1:(0:Int)<=(k:Int):=by omega
    have z2:(k:Int)<(names.length:Int):=by omega
    have z3:(k:Int)<(lengths.length:Int):=by omega
    go_wp2
    (refine il 18 (by kernel_rfl) (by kernel_rfl) ?_;simp only [xi,iv,cQ,cL];(repeat (go_big_quiet_step (fail)));(with_reducible refine fR ?_);intro wq ia;obtain ⟨nq,ia⟩:=ia;subst ia)
    go_wp2_with fail
    refine (qw (fD X gb) bs bb _ _ _ next' _ (P.drewN nq).bld MQ nm true k ln (by omega) Vb.1 (by omega)).mono ?_;rintro e w2 (⟨rfl,R⟩ | ⟨on,s,nx,OJ,hT,rfl,R,_⟩)
    ·have R2:=(P.drewN nq).trans R
     have hc2:eG w2 (bb+1) (.slice (some ⟨gb,0,none⟩) next.length cap) next:=aC (w:=wr.drewN nq) hcw fun q e=>by
      have e1:gb=q:=by injection e
      subst e1;exact R.loc (P.drewN nq).bld (.inr rfl)
     have ZZ:g.F9.length<=M:=by rw [<- HM.o,cD];omega
     have Z0:=R2.bld.bfr 8;have U9:=R2.bld.bfr 10;have Va:=R2.bld.c10;have bc8:=R2.bld.c8;clear Z6 cl1 d8 c8 c10;rcases HW3.o with ⟨rfl,hc0⟩ | ⟨vb,rfl⟩
     ·subst hc0
      have hM0:M=0:=by omega
      subst hM0;have hg0:g.F9.length=0:=by omega
      have z4:(0:Int)<=(g.F9.length:Int):=by omega
      go_wp2;go_ret;refine .inr ⟨k+1,.slice (some ⟨gb,0,none⟩) next.length cap,.slice none 0 0,rfl,by omega,?_⟩;have:=R2.restore (X:=X) (v0:=g.F9) (vl:=vl) rfl hg0 hc2 (fun q hq=>.inl hq) (.inr rfl) QR U7;rw [show g.next+((k+1:Nat):Int)=g.next+k+1 by omega];exact this
     ·have z4:(0:Int)<=(g.F9.length:Int):=by omega
      have z5:(g.F9.length:Int)<=(vc2:Int):=by omega
      go_wp2;go_ret;refine .inr ⟨k+1,.slice (some ⟨gb,0,none⟩) next.length cap,.slice (some ⟨vb,0,none⟩) g.F9.length vc2,rfl,by omega,?_⟩;have:=R2.restore (X:=X) (v0:=g.F9) (vl:=vl) rfl rfl hc2 (fun q hq=>.inl hq) (.inr rfl) QR U7;rw [show g.next+((k+1:Nat):Int)=g.next+k+1 by omega];exact this
    ·go_wp2
     go_roundw
     case rel =>
      refine ⟨k+1,ps++[(on,s,ln)],vl++[eD nm (oX g.id (g.next+k+1)) true ln on s],nx,OJ,by omega,by go_num,?_,DB.trans hT,?_,(R.loc (P.drewN nq).bld (.inr rfl)).trans JW.o⟩
      ·rw [take_snoc' _ _ _ Mr.o,take_snoc' _ _ _ Ky.o]
       have:=lD.snoc (nm:=nm) (on:=on) (l:=ln) (s:=s) U8.o;rw [ey,Nat.min_eq_left (by omega)] at this;exact this
      ·rw [show g.next+((k+1:Nat):Int)=g.next+k+1 by omega,<- cV]
       exact (P.drewN nq).trans R
     case measure=>simp [intOf];omega
  ·obtain rfl:k=names.length:=by omega
   go_wp2;go_ret;refine .inl ⟨ps,vl,next',_,rfl,?_,DB,P.fewer (fun q hq=>.inl hq)⟩;have:=U8.o;rw [cI] at this;exact this
end Go.Proofs.YtjdfihglehfelaaGreatDoor
