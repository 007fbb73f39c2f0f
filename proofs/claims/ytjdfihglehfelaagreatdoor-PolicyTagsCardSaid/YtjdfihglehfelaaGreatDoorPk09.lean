/- Lemmas: MkK. -/
import Derived.Test.YtjdfihglehfelaaGreatDoorPk06
set_option maxRecDepth 100000
set_option maxHeartbeats 32000000
set_option linter.all false
namespace Go.Proofs.YtjdfihglehfelaaGreatDoor
open Go.RowKit
def iL {α:Type}(V:Rdr α)(sz:Nat)(ok:Nat→Prop)(w:World)(v:Value)(l:List α):Prop :=
 ∃ b olds,v=.slice (some ⟨b,0,none⟩) l.length l.length∧b<w.heap.size∧ok b∧Flat V sz ok w olds l∧(∀ (j:Nat) (y:Value),olds[j]?=some y→w.cell? ⟨b,j,none⟩=some y)∧l.length≤1000000
theorem iL.moves {α:Type}{V:Rdr α}{sz:Nat}(hV:Moves V){ok ok':Nat→Prop}{w w':World}{v:Value}{l:List α}(hm:Mv ok ok' w w')(h:iL V sz ok w v l):iL V sz ok' w' v l:=by
 obtain ⟨b,olds,e,hb,ho,hf,hc,hn⟩:=h;exact ⟨b,olds,e,Nat.lt_of_lt_of_le hb hm.1,(hm.2 b hb ho).1,Flat.moves hV hm _ _ hf,fun j y hy=>(World.cell?_of_block (w:=w) (hm.2 b hb ho).2).trans (hc j y hy),hn⟩
theorem rG {α:Type}{V:Rdr α}(hV:Moves V){sz bytes:Nat}{t e ty:TypeId}{i0:TypeInfo}{z:Value}(hu:Tryz.prog.underlying t=some (.slice e))(hi:Tryz.prog.info? e=some i0)(hz:i0.zero=some z)(hsize:i0.size=sz)(hby:i0.bytes=bytes)(hzs:z.cells.size=sz)(hbm:bytes≤1000)
  {w:World} (B:Nat) (ok:Nat→Prop) (v:Value) (l:List α) (p:α) (hown:iL V sz ok w v l) (g c:Nat) (u:List Value)
  (hul:u.length=sz) (huv:V ok w u p) (hu1:∀ z∈u,z.oneCell'=true) (hc:∀ (j:Nat) (y:Value),u[j]?=some y→w.cell? ⟨g,j,none⟩=some y) (hB:B≤w.heap.size) :
  ∃ cap w',(Builtin.append_ #[t,t] ty #[v,.slice (some ⟨g,0,none⟩) 1 c]).run Tryz.prog w=.ok (.slice (some ⟨w.heap.size,0,none⟩) (l.length+1) cap) w' ∧
   bF V sz e B ok w' (.slice (some ⟨w.heap.size,0,none⟩) (l.length+1) cap) (l++[p])∧Below w.heap.size w w'∧w.heap.size<w'.heap.size:=by
 subst hsize;subst hby
 obtain ⟨b,olds,rfl,hb,hob,hf,hcs,hl⟩:=hown;have hl1:(l++[p]).length=l.length+1:=by simp
 have hol:olds.length=l.length*i0.size:=Flat.length _ _ hf;have hbl:(l.length+1)*i0.bytes≤2000000*1000:=Nat.mul_le_mul (by omega) hbm
 have hr:=run_append_grow (P:=Tryz.prog) w t ty e i0 z hu hi hz ⟨b,0,none⟩ l.length l.length olds hol (fun j y hy=>by
  rw [Addr.add_lit,Nat.zero_add]
  exact hcs j y hy) ⟨g,0,none⟩ 1 c u (by omega) (fun j y hy=>by
  rw [Addr.add_lit,Nat.zero_add]
  exact hc j y hy) (by omega) (by omega) (growslice_fits (by omega) (by omega))
 have hbel:Below w.heap.size w (w.drew.alloc (.cells (olds.toArray++u.toArray++Builtin.zeroCells z.cells (grownCap w (l.length+1) l.length e - (l.length+1))) e)):=((Below.refl _ _).drew).alloc (Nat.le_refl _) _;have hm:Mv ok ok w (w.drew.alloc (.cells (olds.toArray++u.toArray++Builtin.zeroCells z.cells (grownCap w (l.length+1) l.length e - (l.length+1))) e)):=⟨hbel.size,fun b hb hob=>⟨hob,hbel.block b hb⟩⟩;have hge:=grownCap_ge w (l.length+1) l.length e;have hcm:grownCap w (l.length+1) l.length e≤maxLen:=grownCap_le_maxLen w _ _ e (by unfold maxLen;omega);have hlen:(olds++u).length=(l.length+1)*i0.size:=by rw [List.length_append,hol,hul,Nat.add_mul];omega
 refine ⟨_,_,hr,⟨olds++u,⟨by rw [hl1];exact hlen,.inr ⟨w.heap.size,_,_,by rw [hl1],hB,heap_alloc_new w.drew _,by rw [hl1];exact hge,hcm,?_,?_⟩⟩,(Flat.one hul (hV.mv hm huv) hu1).append _ _ (Flat.moves hV hm _ _ hf)⟩,hbel,by simp⟩
 ·simp only [Array.size_append,List.size_toArray,size_zeroCells,hzs,hol,hul]
  rw [← hul,show l.length*u.length+u.length=(l.length+1)*u.length from by rw [Nat.add_mul];omega,← Nat.add_mul,Nat.add_sub_of_le hge]
 ·simp only [Array.toList_append,List.append_assoc]
  rw [← List.append_assoc,hl1,← hlen];exact List.take_left
def StS {α:Type}(V:Rdr α)(sz:Nat)(t:TypeId)(B:Nat)(ok:Nat→Prop)(w:World)(v:Value)(l:List α):Prop:=(iL V sz ok w v l∧∀ b,v.ownBlock=some b→b<B)∨bF V sz t B ok w v l
def ownB (B:Nat)(v:Value)(k:Nat):Prop:=v.ownBlock=some k∧B≤k
structure Ad {α:Type}(V:Rdr α)(sz:Nat)(e:TypeId)(B:Nat)(ok:Nat→Prop)(w:World)(v:Value)(l:List α)(p:α)(gb cap:Nat)(w':World):Prop where
 own:bF V sz e B ok w' (.slice (some ⟨gb,0,none⟩) (l.length+1) cap) (l++[p])
 mod:Mod (ownB B v) w w'
 at':ownB B v gb∨(gb=w.heap.size∧gb<w'.heap.size)
theorem Aq {α:Type}{V:Rdr α}(hV:Moves V){sz bytes:Nat}{t e:TypeId}{i0:TypeInfo}{z:Value}(hu:Tryz.prog.underlying t=some (.slice e))(hi:Tryz.prog.info? e=some i0)(hz:i0.zero=some z)(hsize:i0.size=sz)(hby:i0.bytes=bytes)(hzs:z.cells.size=sz)(hsz:0<sz)(hbm:bytes≤1000)
  {w:World} {ops:Array Oper} {rest:List Oper} {o:Oper} {a:Act} {Q:Exit→Act→World→Prop} (hgd:o.guard=none) (s x:Operand)
  (ho:o.op=.call { callee:=.builtin .append,args:=#[s,x],argTypes:=#[t,t] })
  (B:Nat) (ok:Nat→Prop) (v:Value) (l:List α) (p:α) (hs:a.eval s=v) (hown:StS V sz e B ok w v l) (g c:Nat) (u:List Value) (hx:a.eval x=.slice (some ⟨g,0,none⟩) 1 c)
  (hul:u.length=sz) (huv:V ok w u p) (hu1:∀ z∈u,z.oneCell'=true) (hc:∀ (j:Nat) (y:Value),u[j]?=some y→w.cell? ⟨g,j,none⟩=some y) (hl:l.length≤1000000) (hB:B≤w.heap.size)
  (hok:∀ b,ownB B v b→¬ ok b)
  (h:∀ gb cap w',Ad V sz e B ok w v l p gb cap w'→wpList Tryz.prog ops Q rest (a.put o.dst (.slice (some ⟨gb,0,none⟩) (l.length+1) cap)) w'):wpList Tryz.prog ops Q (o :: rest) a w:=by
 refine wpList_plain hgd fun K hK=>?_;rcases hown with hown | hown
 ·obtain ⟨cap,w',hr,h1,h2,h3⟩:=rG (ty:=o.type) hV hu hi hz hsize hby hzs hbm B ok v l p hown.1 g c u hul huv hu1 hc hB
  unfold Oper.wp execOp;simp only [ho,resolve,invoke,builtin,Sem.run_bind,Sem.run_pure,Result.andThen_ok,List.map_toArray,List.map_cons,List.map_nil,hs,hx,hr];exact hK _ _ (h _ cap w' ⟨h1,Mod.of_below h2,.inr ⟨rfl,h3⟩⟩)
 ·have hob:∀ b,v.ownBlock=some b→ownB B v b:=fun b e=>⟨e,by obtain ⟨cs,ho,_⟩:=hown;exact (ho.lt b e).1⟩
  obtain ⟨gb,cap,w',hr,hp⟩:=nS (ty:=o.type) hV hu hi hz hsize hby hzs hsz hbm B ok v l p hown g c u hul huv hu1 hc hl hB (fun b e=>hok b (hob b e));unfold Oper.wp execOp;simp only [ho,resolve,invoke,builtin,Sem.run_bind,Sem.run_pure,Result.andThen_ok,List.map_toArray,List.map_cons,List.map_nil,hs,hx,hr];refine hK _ _ (h gb cap w' ⟨hp.own,⟨hp.grown.os,hp.grown.tape,hp.grown.output,hp.grown.size,fun k hk hn=>hp.grown.block k hk fun e=>hn (hob k e.symm)⟩,?_⟩)
  have hgl:gb<w'.heap.size:=by
   obtain ⟨cs,ho,_⟩:=hp.own;exact (ho.lt gb rfl).2
  rcases hp.at' with q | q
  ·exact .inl (hob gb q)
  ·exact .inr ⟨q,hgl⟩
theorem StS.moves {α:Type}{V:Rdr α}{sz B:Nat}{t:TypeId}(hV:Moves V){ok ok':Nat→Prop}{w w':World}{v:Value}{l:List α}(hm:Mv ok ok' w w')(hk:∀ k,ownB B v k→w'.heap[k]?=w.heap[k]?)(h:StS V sz t B ok w v l):StS V sz t B ok' w' v l:=by
 rcases h with ⟨h,h2⟩ | ⟨cs,ho,hf⟩
 ·exact .inl ⟨h.moves hV hm,h2⟩
 ·exact .inr ⟨cs,aC ho fun k e=>hk k ⟨e,(ho.lt k e).1⟩,Flat.moves hV hm _ _ hf⟩
theorem StS.rd {α:Type}{V:Rdr α}{sz B:Nat}{t:TypeId}{ok ok':Nat→Prop}{w:World}{v:Value}{l:List α}(hV:Moves V)(h:StS V sz t B ok w v l)(hsz:0<sz)(hok:∀ b,b<w.heap.size→ok b→ok' b)(hown:∀ b,ownB B v b→ok' b):RdS V sz ok' w [v] l:=by
 rcases h with ⟨⟨b,olds,rfl,hb,ho,hf,hc,hn⟩,_⟩ | h
 ·refine ⟨_,l.length,rfl,Nat.le_refl _,?_,fun _=>⟨b,0,rfl,hb,hok b hb ho,fun i x hx=>?_⟩⟩
  ·omega
  ·obtain ⟨u,k1,k2,k3⟩:=Flat.get l olds hf i x hx
   exact ⟨u,k1,hV.mv ⟨Nat.le_refl _,fun b hb' ho=>⟨hok b hb' ho,rfl⟩⟩ k2,fun j z hz=>by rw [Nat.zero_add];exact hc _ _ (k3 j z hz)⟩
 ·exact h.rd hV hsz hok fun b e=>hown b ⟨e,by obtain ⟨cs,ho,_⟩:=h;exact (ho.lt b e).1⟩
inductive lD (id:Int)(c:Int):List ByteArray→List Int→List (ByteArray × Int × Int)→List ay→Prop
 | nil:lD id c [] [] [] []
 | snoc {ns:List ByteArray} {ls:List Int} {ps:List (ByteArray × Int × Int)} {vl:List ay} {nm on:ByteArray} {l s:Int} (h:lD id c ns ls ps vl):lD id c (ns++[nm]) (ls++[l]) (ps++[(on,s,l)]) (vl++[eD nm (idOf id (c+ns.length+1)) true l on s])
theorem lD.len {id c:Int}{ns:List ByteArray}{ls:List Int}{ps:List (ByteArray × Int × Int)}{vl:List ay}(h:lD id c ns ls ps vl):vl.length=ns.length:=by
 induction h with
 | nil=>rfl
 | snoc h ih=>simp [ih]
def FV (X:Nat→Prop)(bs bb:Nat)(nv vv:Value)(g:af)(next:List Int)(names:List ByteArray)(lengths:List Int)(w:World)(e:Ending)(w':World):Prop :=
 (∃ (ps:List (ByteArray × Int × Int)) (vl:List ay) (next':List Int) (vv':Value),e=.returned (.bool true)∧lD g.id g.next names (lengths.take names.length) ps vl∧fZ g.Gb next ps next' ∧
  aH X bs bb nv vv w w' nv vv' { g with next:=g.next+names.length,F9:=g.F9++vl } next') ∨
 ∃ (j:Nat) (nv' vv':Value),e=.returned (.bool false)∧j≤names.length∧aH X bs bb nv vv w w' nv' vv' { g with next:=g.next+j } next
theorem Bld.vForm {X:Nat→Prop}{w:World}{bs bb:Nat}{nv vv:Value}{g:af}{next:List Int}(h:Bld X w bs bb nv vv g next):∃ p cap,vv=.slice p g.F9.length cap∧g.F9.length≤cap∧cap≤9223372036854775807∧(p=none∧cap=0∨∃ b,p=some ⟨b,0,none⟩):=by
 obtain ⟨cs,⟨_,h2⟩,_⟩:=h.ownV;rcases h2 with ⟨rfl,hn⟩ | ⟨g,cap,cur,rfl,_,_,hnc,hcm,_⟩
 ·exact ⟨none,0,by rw [hn],by omega,by omega,.inl ⟨rfl,rfl⟩⟩
 ·exact ⟨_,cap,rfl,hnc,by unfold maxLen at hcm;omega,.inr ⟨_,rfl⟩⟩
theorem Bld.nForm {X:Nat→Prop}{w:World}{bs bb:Nat}{nv vv:Value}{g:af}{next:List Int}(h:Bld X w bs bb nv vv g next)(h0:0<next.length):∃ b cap,nv=.slice (some ⟨b,0,none⟩) next.length cap∧next.length≤cap∧cap≤9223372036854775807∧bb<b∧b<w.heap.size∧ig w b 0 next:=by
 have ho:=h.ownN;rcases ho.2 with ⟨rfl,hn⟩ | ⟨b,cap,cur,rfl,hb,hg,hnc,hcm,hcs,ht⟩
 ·omega
 ·refine ⟨b,cap,rfl,hnc,by unfold maxLen at hcm;omega,by omega,(Array.getElem?_eq_some_iff.1 hg).1,fun i n hn=>?_⟩
  have:=ho.cellAt i (by have:=(List.getElem?_eq_some_iff.1 hn).1;omega);rw [Nat.zero_add,this];simp [hn]
theorem Bld.c10 {X:Nat→Prop}{w:World}{bs bb:Nat}{nv vv:Value}{g:af}{next:List Int}(h:Bld X w bs bb nv vv g next):w.cell? ⟨bb,10,none⟩=some nv:=by
 obtain ⟨tv,dv,hv,e,_,h2,_⟩:=h.blk;simp [World.cell?,e]
theorem CF {o:Oper}{a:Act}{w:World}{K:Act→World→Prop}{Q:Exit→Act→World→Prop}(s x:Operand)
  (ho:o.op=.call { callee:=.builtin .append,args:=#[s,x],argTypes:=#[22,22] })
  (B:Nat) (m:List Int) (hs:a.eval s=.slice none 0 0) (b c:Nat) (hx:a.eval x=.slice (some ⟨b,0,none⟩) m.length c) (h0:0<m.length)
  (hc:ig w b 0 m) (hl:m.length≤1000000) (hB:B≤w.heap.size)
  (h:∀ gb cap w',eG w' B (.slice (some ⟨gb,0,none⟩) m.length cap) m→Below w.heap.size w w'→w.heap.size≤gb→gb<w'.heap.size→m.length≤cap→cap≤9223372036854775807→K (a.put o.dst (.slice (some ⟨gb,0,none⟩) m.length cap)) w'):o.wp Tryz.prog a w K Q:=by
 obtain ⟨i0,hi,hz0,hz1,hz2⟩:=info_parts tZ
 obtain ⟨v',w',hr,h2,h3,h4,h5⟩:=run_append_own_at (P:=Tryz.prog) w w.heap.size 22 o.type 3 i0 _ 1 8 Tryz.underlying22 hi hz0 hz1 hz2 rfl (by decide) (.slice none 0 0) 0 [] (World.ownsRow_nil w _ _ 1) ⟨b,0,none⟩ m.length c (m.map (Value.int .i64)) (by simp) (fun j u hu=>by
  rw [Addr.add_lit];obtain ⟨n,hn,rfl⟩:∃ n,m[j]?=some n∧Value.int .i64 n=u:=by simpa using hu
  exact hc j n hn) (fun u hu=>by
   obtain ⟨n,_,rfl⟩:=List.mem_map.1 hu
   rfl) (by unfold maxLen;omega) (by omega) (Nat.le_refl _)
 rw [Nat.zero_add,List.nil_append] at h2;have h6:=h2.2;rcases h6 with ⟨_,hn⟩ | ⟨gb,cap,cur,rfl,hb,hg,hnc,hcm,hcs,ht⟩
 ·omega
 ·unfold Oper.wp execOp
  simp only [ho,resolve,invoke,builtin,Sem.run_bind,Sem.run_pure,Result.andThen_ok,List.map_toArray,List.map_cons,List.map_nil,hs,hx,hr];have hlt:=h2.lt gb rfl;exact h gb cap w' (eG.mono h2 hB) ⟨h3.os,h3.tape,h3.output,h3.size,fun k hk=>h3.block k hk (by simp [Value.ownBlock])⟩ hlt.1 hlt.2 hnc (by unfold maxLen at hcm;omega)
theorem RdS.form {α:Type}{V:Rdr α}{sz:Nat}{ok:Nat→Prop}{w:World}{v:Value}{l:List α}(h:RdS V sz ok w [v] l):∃ p cap,v=.slice p l.length cap∧l.length≤cap∧cap≤9223372036854775807∧(0<l.length→∃ b off,p=some ⟨b,off,none⟩∧b<w.heap.size∧ok b∧oh V sz ok w b off l):=by
 obtain ⟨p,cap,e,h1,h2,h3⟩:=h;injection e with e
 exact ⟨p,cap,e,h1,h2,h3⟩
theorem vg {w:World}{B sz N N' cap:Nat}{t:TypeId}{p:Option Addr}{xs:List Value}(h:w.ownsRow B t sz (.slice p N cap) N' xs)(n0:Nat)(hn:n0≤N'):w.ownsRow B t sz (.slice p n0 cap) n0 (xs.take (n0*sz)):=by
 obtain ⟨h1,h2⟩:=h;have hle:n0*sz≤N'*sz:=Nat.mul_le_mul_right _ hn;refine ⟨by rw [List.length_take,h1];omega,?_⟩;rcases h2 with ⟨e,hz⟩ | ⟨g,cap',cur,e,hb,hg,hnc,hcm,hcs,ht⟩
 ·injection e with e1 e2 e3
  subst hz;obtain rfl:n0=0:=by omega
  exact .inl ⟨by rw [e1,e3],rfl⟩
 ·injection e with e1 e2 e3
  subst e3;refine .inr ⟨g,cap,cur,by rw [e1],hb,hg,by omega,hcm,hcs,?_⟩;rw [← ht,List.take_take,Nat.min_eq_left hle]
theorem Flat.takeL {α:Type}{V:Rdr α}{sz:Nat}{ok:Nat→Prop}{w:World}{m:List α}:∀ (l:List α) (cs:List Value),Flat V sz ok w cs (l++m)→Flat V sz ok w (cs.take (l.length*sz)) l
 | [],cs,_=>by simp [Flat]
 | x :: l,cs,⟨u,r,e,h1,h2,h3,h4⟩=>by
  refine ⟨u,r.take (l.length*sz),?_,h1,h2,h3,Flat.takeL l r h4⟩;rw [e,List.length_cons,Nat.add_mul,Nat.one_mul,List.take_append,h1,List.take_of_length_le (by omega),show l.length*sz+sz - sz=l.length*sz by omega]
theorem aH.restore {X Y:Nat→Prop}{w0 w:World}{bs bb gb N n0 cap c:Nat}{p:Option Addr}{nv0 vv0 nv:Value}{g:af}{v0 vl:List ay}{next next0:List Int}(h:aH Y bs bb nv0 vv0 w0 w nv (.slice p N cap) g next)(hv:g.F9=v0++vl)(hn:v0.length=n0)
  (ho:eG w (bb+1) (.slice (some ⟨gb,0,none⟩) next0.length c) next0) (hXY:∀ k,X k→Y k) (hYg:Y gb) (hXg:¬ X gb) (hg0:w0.heap.size≤gb) :
  aH X bs bb nv0 vv0 w0 ((w.setCell ⟨bb,8,none⟩ (.slice p n0 cap)).setCell ⟨bb,10,none⟩ (.slice (some ⟨gb,0,none⟩) next0.length c)) (.slice (some ⟨gb,0,none⟩) next0.length c) (.slice p n0 cap) { g with F9:=v0 } next0:=by
 have hb:=h.bld;have hbl:=hb.Gj;have hlt:=hb.lt;generalize hw':(w.setCell ⟨bb,8,none⟩ (.slice p n0 cap)).setCell ⟨bb,10,none⟩ (.slice (some ⟨gb,0,none⟩) next0.length c)=w';have hk:∀ k,k≠bb→w'.heap[k]?=w.heap[k]?:=fun k hk=>by rw [← hw',Below.heap_setCell _ _ _ _ hk,Below.heap_setCell _ _ _ _ hk]
 have hz:w'.heap.size=w.heap.size:=by rw [← hw'];simp [World.setCell]
 have hob:∀ k,(Value.slice p n0 cap).ownBlock=some k→(Value.slice p N cap).ownBlock=some k:=fun k e=>by
  cases p with
  | none=>cases e
  | some a=>exact e
 have hgb:=hb.xlt gb hYg;have hok:∀ b,okB Y bb nv (.slice p N cap) b→okB X bb (.slice (some ⟨gb,0,none⟩) next0.length c) (.slice p n0 cap) b:=fun b ho=>⟨ho.1,fun e=>ho.2.2.2 (by injection e with e;exact e ▸ hYg),fun e=>ho.2.2.1 (hob b e),fun hx=>ho.2.2.2 (hXY b hx)⟩
 have hm:Mv (okB Y bb nv (.slice p N cap)) (okB X bb (.slice (some ⟨gb,0,none⟩) next0.length c) (.slice p n0 cap)) w w':=⟨by omega,fun b _ ho=>⟨hok b ho,hk b (by have:=ho.1;omega)⟩⟩;refine ⟨⟨hb.src.keep fun i hi=>hk i (by omega),hlt,?_,?_,?_,fun k e e'=>?_,fun k hx=>⟨(hb.xlt k (hXY k hx)).1,by rw [hz];exact (hb.xlt k (hXY k hx)).2⟩,fun k e hx=>?_,fun k e hx=>hb.xv k (hob k e) (hXY k hx)⟩,?_,fun k e=>.inr ?_,fun k e=>h.vfr k (hob k e)⟩
 ·obtain ⟨tv,dv,hv,e,h1,h2,h3⟩:=hb.blk
  refine ⟨tv,dv,hv,?_,(RdS.moves aF.moves).mv hm h1,(RdS.moves aO.moves).mv hm h2,h3⟩;rw [← hw'];exact block_setCell (cs:=#[_,_,_,_,_,_,_,_,_,_,_]) (i:=10) _ (block_setCell (cs:=#[_,_,_,_,_,_,_,_,_,_,_]) (i:=8) _ e)
 ·exact aC ho fun k e=>hk k (by injection e with e;have e':gb=k:=e;omega)
 ·obtain ⟨cs,hr,hf⟩:=hb.ownV
  rw [hv] at hr hf;refine ⟨cs.take (n0*6),?_,?_⟩
  ·show w'.ownsRow (bb+1) _ 6 (.slice p n0 cap) v0.length _
   rw [hn];refine aC (w:=w) (vg hr n0 (by rw [List.length_append];omega)) fun k e=>hk k ?_;have:=hb.vLt (hob k e);omega
  ·have:=Flat.takeL v0 cs hf
   rw [hn] at this;exact Flat.moves aN.moves hm _ _ this
 ·have e1:gb=k:=by injection e
  subst e1;exact hb.xv gb (hob gb e') hYg
 ·have e1:gb=k:=by injection e
  subst e1;exact hXg hx
 ·rw [← hw']
  exact (h.mod.setCell (p:=⟨bb,8,none⟩) (.inl (.inr (.inl rfl))) _).setCell (p:=⟨bb,10,none⟩) (.inl (.inr (.inl rfl))) _
 ·have e1:gb=k:=by injection e
  omega
theorem zi (X:Nat→Prop)(bs bb:Nat)(nv vv:Value)(g:af)(next:List Int)(w:World)(h:Bld X w bs bb nv vv g next)(hk:BOk g next)(nsv lsv:Value)(names:List ByteArray)(lengths:List Int)
  (hns:RdS aF 1 X w [nsv] names) (hls:RdS cO 1 X w [lsv] lengths) (hnl:names.length≤lengths.length) (hn8:names.length≤8) (hl8:lengths.length≤8) (hlb:∀ l∈lengths,1≤l∧l≤1000) (hvl:g.F9.length≤40) (hnx:g.next≤1000) :
  Calls Tryz.prog 94 #[.pointer (some ⟨bb,0,none⟩),nsv,lsv] w (FV X bs bb nv vv g next names lengths w):=by
 have k0:=hk.n0;have k1:=hk.n1;have k2:=hk.dk.pos;have k3:=hk.dk.le;have kl0:0<next.length:=by rw [hk.dk.len];omega
 have kl1:next.length≤8:=by rw [hk.dk.len];omega
 have c8:=h.c8;have c10:=h.c10;have hbw:=h.Gj;obtain ⟨vp,vcap,rfl,v1,v2,v3⟩:=h.vForm;obtain ⟨nb,ncap,rfl,n1,n2,n3,n4,n5⟩:=h.nForm (by omega);have HN5:=aa n5;clear n5;obtain ⟨np,nscap,rfl,a1,a2,a3⟩:=hns.form;obtain ⟨lp,lscap,rfl,b1,b2,b3⟩:=hls.form;have HA3:=aa a3;clear a3 hns;have HB3:=aa b3;clear b3 hls;have HLB:=aa hlb;clear hlb;have HV3:=aa v3;clear v3;go_enter Tryz.func94,Tryz.ntmps94;go_wp2;refine aL (fun w'=>w'.cell? ⟨bb,8,none⟩=some (.slice vp g.F9.length vcap)∧w'.cell? ⟨bb,10,none⟩=some (.slice (some ⟨nb,0,none⟩) next.length ncap)) 11 [0,1,2,3,6,7,8] (by kernel_rfl) ⟨c8,c10⟩ (fun hHeld=>?_);refine tkV 0 ?_;try simp only [ak];refine tkV 1 ?_;try simp only [ak];refine tkV 2 ?_;try simp only [ak];refine tkV 3 ?_;try simp only [ak];refine tkV 6 ?_;try simp only [ak];refine tkV 7 ?_;try simp only [ak];refine tkV 8 ?_;try simp only [ak];refine tkF 4 hHeld ?_;try simp only [ak];refine tkF 9 hHeld ?_;try simp only [ak];refine tkF 5 hHeld ?_;try simp only [ak];refine au (i:=10) rfl rfl (by kernel_rfl) (fun K hK=>?_);refine CF _ _ rfl (bb+1) next (by rfl) nb ncap (by rfl) (by omega) HN5.out (by omega) hbw (fun gb cap w1 hcp hb1 hg1 hg2 hc1 hc2=>?_);refine hK.out _ _ ⟨(hb1.cell (p:=⟨bb,8,none⟩) hbw).trans c8,(hb1.cell (p:=⟨bb,10,none⟩) hbw).trans c10⟩ ?_;clear hK K;refine aP (by kernel_rfl) rfl ?_;simp only [List.drop_succ_cons,List.drop_zero,Act.put,List.setIfInBounds_toArray];go_wp2;have hz1:=hb1.size
 have P1:aH (fD X gb) bs bb (.slice (some ⟨nb,0,none⟩) next.length ncap) (.slice vp g.F9.length vcap) w w1 (.slice (some ⟨nb,0,none⟩) next.length ncap) (.slice vp g.F9.length vcap) g next:=((aH.refl h).drewN 1).fresh hb1 (by
  rintro k (q | rfl)
  ·exact .inl q
  ·exact .inr ⟨hg1,hg2⟩)
 have HCP:=aa hcp;clear hcp;have hgw:w.heap.size≤gb:=hg1;have hXg:¬ X gb:=fun q=>by have:=(h.xlt gb q).2;omega
 go_loopw [9] (fun i wr=>∃ (k:Nat) (ps:List (ByteArray × Int × Int)) (vl:List ay) (next':List Int) (vv':Value),k≤names.length∧i=.int .i64 k∧lD g.id g.next (names.take k) (lengths.take k) ps vl∧fZ g.Gb next ps next' ∧
   aH (fD X gb) bs bb (.slice (some ⟨nb,0,none⟩) next.length ncap) (.slice vp g.F9.length vcap) w wr (.slice (some ⟨nb,0,none⟩) next.length ncap) vv' { g with next:=g.next+k,F9:=g.F9++vl } next'∧wr.heap[gb]?=w1.heap[gb]?) (fun i _=>names.length - (intOf i).toNat)
 case atStart =>
  refine ⟨0,[],[],next,.slice vp g.F9.length vcap,by omega,rfl,.nil,.nil _,?_,rfl⟩;simpa using P1
 case round =>
  obtain ⟨k,ps,vl,next',vv',hkl,rfl,hhv,htk,P,hgb⟩:=hrel;have dk:=htk.ok hk.dk;have HHV:=aa hhv;clear hhv;have HGB:=aa hgb;clear hgb;have hvlen:vl.length≤8:=by have:=HHV.out.len;rw [List.length_take] at this;omega
  have hok2:BOk { g with next:=g.next+k,F9:=g.F9++vl } next':=⟨dk,by simp;omega,by simp;omega,by simp;omega⟩
  obtain ⟨vp2,vc2,rfl,w1',w2',w3'⟩:=P.bld.vForm;have HW3:=aa w3';clear w3';have d8:=P.bld.c8;have hML:(g.F9++vl).length≤48:=by rw [List.length_append];omega
  simp only at d8 w1' P;generalize hM:(g.F9++vl).length=M at *;have HM:=aa hM;clear hM
  have hcw:eG wr (bb+1) (.slice (some ⟨gb,0,none⟩) next.length cap) next:=aC HCP.out fun q e=>by
   have e1:gb=q:=by injection e
   subst e1;exact HGB.out
  by_cases hlt:k<names.length
  ·by_cases h31:31≤M
   ·have hdd:decide ((31:Int)≤(M:Int))=true:=by simp;omega
    obtain ⟨vb,rfl⟩:∃ b,vp2=some ⟨b,0,none⟩:=HW3.out.resolve_left (fun q=>by omega);have hgv:g.F9.length≤M:=by rw [← HM.out,List.length_append];omega
    have z1:(0:Int)≤(g.F9.length:Int):=by omega
    have z2:(g.F9.length:Int)≤(vc2:Int):=by omega
    have bf8:=P.bld.bfr 8;have bf10:=P.bld.bfr 10;have bc10:=P.bld.c10;go_wp2;go_quiet (fail);go_wp2;go_ret;exact .inr ⟨k,_,_,rfl,by omega,(P.drewN nq).restore rfl rfl hcw (fun q hq=>.inl hq) (.inr rfl) hXg hgw⟩
   ·have hdd:decide ((31:Int)≤(M:Int))=false:=by simp;omega
    obtain ⟨nb1,no1,rfl,nbl,nbx,nbc⟩:=HA3.out (by omega);obtain ⟨lb1,lo1,rfl,lbl,lbx,lbc⟩:=HB3.out (by omega);obtain ⟨nm,hnm⟩:=aj names k hlt;obtain ⟨ln,hln⟩:=aj lengths k (by omega);have hlnb:=HLB.out ln (List.mem_of_getElem? hln)
    have cn1:wr.cell? ⟨nb1,no1+k,none⟩=some (.string nm):=by
     obtain ⟨u,_,hu,hc⟩:=nbc k nm hnm;have:=hc 0 (.string nm) (by rw [hu];rfl);rw [(World.cell?_of_block (w:=w) (P.mod.block nb1 nbl (h.xfp nbx)):wr.cell? ⟨nb1,no1+k,none⟩=_)];simpa using this
    have cl1:wr.cell? ⟨lb1,lo1+k,none⟩=some (.int .i64 ln):=by
     obtain ⟨u,_,hu,hc⟩:=lbc k ln hln;have:=hc 0 (.int .i64 ln) (by rw [hu];rfl);rw [(World.cell?_of_block (w:=w) (P.mod.block lb1 lbl (h.xfp lbx)):wr.cell? ⟨lb1,lo1+k,none⟩=_)];simpa using this
    clear nbc lbc;have HNM:=aa hnm;clear hnm;have HLN:=aa hln;clear hln;have z1:(0:Int)≤(k:Int):=by omega
    have z2:(k:Int)<(names.length:Int):=by omega
    have z3:(k:Int)<(lengths.length:Int):=by omega
    go_wp2
    (refine il 18 (by kernel_rfl) (by kernel_rfl) ?_;simp only [List.take_succ_cons,List.take_zero,List.drop_succ_cons,List.drop_zero];(repeat (go_big_quiet_step (fail)));(with_reducible refine wpQuiet_nil ?_);intro wq hwq;obtain ⟨nq,hwq⟩:=hwq;subst hwq)
    go_wp2_with fail
    refine (qw (fD X gb) bs bb _ _ _ next' _ (P.drewN nq).bld hok2 nm true k ln (by omega) hlnb.1 (by omega)).mono ?_;rintro e w2 (⟨rfl,R⟩ | ⟨on,s,nx,vv2,hT,rfl,R,_⟩)
    ·have R2:=(P.drewN nq).trans R
     have hc2:eG w2 (bb+1) (.slice (some ⟨gb,0,none⟩) next.length cap) next:=aC (w:=wr.drewN nq) hcw fun q e=>by
      have e1:gb=q:=by injection e
      subst e1;exact R.loc (P.drewN nq).bld (.inr rfl)
     have hgv:g.F9.length≤M:=by rw [← HM.out,List.length_append];omega
     have bf8:=R2.bld.bfr 8;have bf10:=R2.bld.bfr 10;have bc10:=R2.bld.c10;have bc8:=R2.bld.c8;clear cn1 cl1 d8 c8 c10;rcases HW3.out with ⟨rfl,hc0⟩ | ⟨vb,rfl⟩
     ·subst hc0
      have hM0:M=0:=by omega
      subst hM0;have hg0:g.F9.length=0:=by omega
      have z4:(0:Int)≤(g.F9.length:Int):=by omega
      go_wp2;go_ret;refine .inr ⟨k+1,.slice (some ⟨gb,0,none⟩) next.length cap,.slice none 0 0,rfl,by omega,?_⟩;have:=R2.restore (X:=X) (v0:=g.F9) (vl:=vl) rfl hg0 hc2 (fun q hq=>.inl hq) (.inr rfl) hXg hgw;rw [show g.next+((k+1:Nat):Int)=g.next+k+1 by omega];exact this
     ·have z4:(0:Int)≤(g.F9.length:Int):=by omega
      have z5:(g.F9.length:Int)≤(vc2:Int):=by omega
      go_wp2;go_ret;refine .inr ⟨k+1,.slice (some ⟨gb,0,none⟩) next.length cap,.slice (some ⟨vb,0,none⟩) g.F9.length vc2,rfl,by omega,?_⟩;have:=R2.restore (X:=X) (v0:=g.F9) (vl:=vl) rfl rfl hc2 (fun q hq=>.inl hq) (.inr rfl) hXg hgw;rw [show g.next+((k+1:Nat):Int)=g.next+k+1 by omega];exact this
    ·go_wp2
     go_roundw
     case rel =>
      refine ⟨k+1,ps++[(on,s,ln)],vl++[eD nm (idOf g.id (g.next+k+1)) true ln on s],nx,vv2,by omega,by go_num,?_,htk.trans hT,?_,(R.loc (P.drewN nq).bld (.inr rfl)).trans HGB.out⟩
      ·rw [take_snoc' _ _ _ HNM.out,take_snoc' _ _ _ HLN.out]
       have:=lD.snoc (nm:=nm) (on:=on) (l:=ln) (s:=s) HHV.out;rw [List.length_take,Nat.min_eq_left (by omega)] at this;exact this
      ·rw [show g.next+((k+1:Nat):Int)=g.next+k+1 by omega,← List.append_assoc]
       exact (P.drewN nq).trans R
     case measure=>simp [intOf];omega
  ·obtain rfl:k=names.length:=by omega
   go_wp2;go_ret;refine .inl ⟨ps,vl,next',_,rfl,?_,htk,P.fewer (fun q hq=>.inl hq)⟩;have:=HHV.out;rw [List.take_length] at this;exact this
end Go.Proofs.YtjdfihglehfelaaGreatDoor
