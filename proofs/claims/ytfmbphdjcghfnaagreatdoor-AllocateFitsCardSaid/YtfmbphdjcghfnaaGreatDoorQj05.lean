/- Lemmas: ModW, ModX, ModZa, ModZb, ModZc, ModY, ModZd, NeeB, NeeC, NeeD, NeeE, NeeF, ModZf, BltG, SpP, BltK, BltL, BltN, RnA, RnB. -/
import Derived.Test.YtfmbphdjcghfnaaGreatDoorQj04
import Derived.Deep.AppendLies
set_option maxRecDepth 100000
set_option maxHeartbeats 32000000
set_option linter.all false
open List renaming length→Wq,mem_cons→DQ,any_eq_true→GP,mem_append→AS,mem_singleton→AM,replicate→DE,mem_map→As,getElem?_eq_some_iff→AT,pairwise_iff_getElem→It,nil_append→GO,cons_append→IT,any_eq_false→IS,mem_flatMap→BY,all_eq_true→An,mem_filter→DS,singleton_inj→IF,nil_sublist→MY,pairwise_singleton→L7,pairwise_append→GB,filter_eq_nil_iff→NX,mem_range→DP,range→FF,isSuffixOf_iff_suffix→OK
open Option renaming isSome_iff_exists→Ly,getD_some→L2
open Go.Value renaming int→Bm,bool→Ft,string→By,slice→FG
open Go.World renaming cell?→AN,alloc→AI
open Go.Lib renaming hasSuffix→DH
open Go.IntKind renaming i64→Sj,u64→U8
open Go.Obj renaming cells→Sx
open Go.Value renaming pointer→SL,agg→Tk,tuple→Vj
open Go.Ending renaming returned→S6
open Option renaming some→Vv,none→VX
open Bool renaming false→VN,true→VR
open Decidable renaming decide→V7
namespace Go.Proofs.YtfmbphdjcghfnaaGreatDoor
variable{gt:Prop}
open Go.Proofs.Tryz
open Go.RowKit Go.Maps Go.Shelf
variable{W w w':H7}{Q:N2}{v y:zY}{c nm x:H6}{P l met:QN}{next:PI}{e i k lo s st:Int}{b bm j m n:Nat}{α β:Type}{F9:wy ay}{AL al:wy aR}{f:ay->Int}{M qs:wy (H6 × H5)}{E:wy (ay × aB)->ay->aB->Int}
section
variable {w:H7}{l:QN}{L:wy (az × Nat)}{M:wy (H6 × H5)}{d:az}
def iJ(l:QN)(nm:H6):Nat:=l.countP fun x=>V7 (x=nm)
def cntF(l:QN):zY->Option zY
 |.string s=>if iJ l s=0 then VX else Vv (Bm Sj (iJ l s))
 |_=>VX
def Dy(l:QN)(s:H6):(cntF l (By s)).getD (Bm Sj 0)=Bm Sj (iJ l s):=by
 show(if iJ l s=0 then VX else Vv (Bm Sj (iJ l s))).getD (Bm Sj 0)=_;by_cases h:iJ l s=0
 ·rw[aw h,h];rfl
 rw[bh h];rfl
def sV(l:QN)(x nm:H6):iJ (l++[x]) nm=iJ l nm+if x=nm then 1 else 0:=by
 unfold iJ;rw[List.countP_append];by_cases h:x=nm<;>simp[h]
def Bw(l:QN)(x:H6)(key:zY):cntF (l++[x]) key=upd (cntF l) (By x) (Bm Sj ((iJ l x:Int)+1)) key:=by
 by_cases h:key=By x
 ·subst h;rw[upd_same];simp[cntF,sV]
 rw[bP h];unfold cntF;split
 ·rename_i s;have:¬x=s:=fun e=>h TdN;rw[sV,bh this];rfl
 rfl
def EJ(g:af)(pool:Bool):QN:=(aA g.F9).flatMap fun p=>dD p.2 pool
def yt(g:af)(v:ay):Int:=if v.hidden then(if iJ (EJ g VR) v.name=1 then 0 else 16) else(if iJ (EJ g VN) v.name=0 then 0 else 16)
def rY(g:af):H6 × Int:=iM (yt g) g.F9
def oM:Keyed prog 9:=string_keyed underlying9
def gG(s:H6)(h:s.size<=maxLen):keyOf prog 9 (.string s)=Vv (.string s.data.toList):=by
 simp[keyOf,underlying9,mapKey,h]
def Fx(w:H7):(zeroValue 3).run prog w=.ok (Bm Sj 0) w:=by kernel_rfl
def dA(l:wy (ay × aB))(pool:Bool):QN:=l.flatMap fun p=>dD p.2 pool
def qW(l:wy (ay × aB))(v:ay)(s:aB)(pool:Bool):dA (l++[(v,s)]) pool=dA l pool++dD s pool:=by simp[dA]
def gm(w:H7)(b:Nat)(l:QN):Prop:=bi prog 9 w b l.length (cntF l)
def gm.look(h:gm w b l)(s:H6)(hs:s.size<=maxLen):(Instr.lookup 148 (.map (Vv b)) (By s) VN).run prog w=.ok (Bm Sj (iJ l s)) w:=by
 have:=(bi.look h oM underlying148 (Fx w) (key:=By s) (gG s hs)).1;rwa[Dy]at this
def gm.store(h:gm w b l)(hl:l.length<=1000000)(s:H6)(hs:s.size<=maxLen) :
  ∃w',(Instr.mapUpdate 148 (.map (Vv b)) (By s) (Bm Sj ((iJ l s:Int)+1))).run prog w=.ok () w'/\gm w' b (l++[s])/\w.grownBy w' (Vv b)/\w'.1.size=w.1.size:=by
 obtain⟨w',r,m,g,z⟩:=bi.store h oM underlying148 (rr hl YR) (key:=By s) (gG s hs) (Bm Sj ((iJ l s:Int)+1));refine⟨w',r,?_,g,z⟩;unfold gm;rw[cD];exact m.congr fun key kl _=>Bw l s key
def kK(W:H7)(L:wy (az × Nat))(M:wy (H6 × H5)):Prop:=∀p∈L,W.1[p.2]?=Vv (Sx ((bz M p.1).map Ft).toArray 4 (0,0))
structure uF(ok:LN)(W:H7)(L:wy (az × Nat))(bm:Nat):Prop where
 map:bi prog 9 W bm L.length (vG L)
 nb:(L.map (·.2)).Nodup
 nn:(L.map (·.1.name)).Nodup
 lt:∀p∈L,p.2<W.heap.size/\¬ok p.2/\p.2≠bm
 de:∀p∈L,0<=p.1.Gc/\p.1.Gc<=1000000
def Gm(L:wy (az × Nat)):Nat->Prop:=fun b=>∃p∈L,p.2=b
def ut{f:α->β}{l:wy α}(h:(l.map f).Nodup){x y:α}(hx:x∈l)(hy:y∈l)(e:f x=f y):x=y:=by
 induction l with
 |nil=>cases hx
 |cons a l ih =>
  rw[iu,List.nodup_cons]at h;rcases DQ.1 hx with hx2|hx2<;>rcases DQ.1 hy with hy2|hy2
  ·rw[hx2,hy2]
  ·exact absurd (by rw[<- hx2,e];exact List.mem_map_of_mem hy2) h.1
  ·exact absurd (by rw[<- hy2,<- e];exact List.mem_map_of_mem hx2) h.1
  exact ih h.2 hx2 hy2
def kK.below(h:kK w L M)(hb:Below w.1.size w w'):kK w' L M:=fun p hp=>(hb.block p.2 (aq (h p hp))).trans (h p hp)
def kK.bools(h:kK w L M)(hp:(d,b)∈L)(st n:Nat):Jd w b st (((bz M d).drop st).take n):=fun i x hx=>by
 have hb:=h _ hp;dsimp only at hb;rw[xF]at hx;split at hx
 ·rw[pk]at hx;simp only[AN,hb];simpa using hx
 cases hx
def kK.zero(h:kK w L M)(nm:H6)(st:Int):kK w L (M++[(nm,st,0)]):=fun p hp=>by
 rw[vQ];exact h p hp
def kK.set(h:kK w L (M++[(d.name,st,(j:Int))]))(hb:(L.map (·.2)).Nodup)(hn:(L.map (·.1.name)).Nodup)(hp:(d,b)∈L)(h0:0<=st) :
  kK (w.setCell (b,st.toNat+j) (Ft VR)) L (M++[(d.name,st,((j+1:Nat):Int))]):=fun p VM=>by
 by_cases e:p.2=b
 ·obtain rfl:p=(d,b):=ut hb VM hp e;have:=block_setCell (i:=st.toNat+j) (Ft VR) (h _ hp);rw[this,xT,<- List.map_set,xH M d st j h0]
 rw[bw _ _ _ _ e,h p VM];have hne:¬d.name=p.1.name:=fun q=>e (by rw[ut hn VM hp q.symm]);rw[lQ M p.1 hne,lQ M p.1 hne]
def E8(w:H7):(zeroValue 143).run prog w=.ok (FG VX 0 0) w:=by kernel_rfl
def laidB:laidOutB prog=VR:=by kernel_rfl
def DY:(147:TypeId)<prog.types.size:=of_decide_eq_true Yp
def EW:prog.keyTypeAt 2 147=VR:=by kernel_rfl
def Em:WideMaps.KeyLaw prog 147:=deep_law_laid laidB (m:=2) WQ DY EW (by rw[underlying147])
def EI:Keyed prog 147:=Keyed.of_law Em
def Te1(h:gt:=by have:0<prog.types.size:=of_decide_eq_true (by kernel_rfl);omega):=h
def EZ:prog.keyType 147=VR:=by
 obtain⟨n,hn⟩:∃n,prog.types.size=n+1:=⟨prog.types.size-1,Te1⟩;have hc:prog.cutTypes.any (·.2==147)=VN:=by kernel_rfl
 have hs:prog.stoodInHeld 147=VN:=by kernel_rfl
 unfold Program.keyType;rw[hn];simp[Program.keyTypeAt,underlying147,underlying9,underlying3,hc,hs]
def DX(p:H6)(d:Int)(hp:p.size<=maxLen)(hd:(Lit.int Sj d).wf=VR):∃kl,keyOf prog 147 (Tk #[p,d])=Vv kl:=by
 obtain⟨n,hn⟩:∃n,prog.types.size=n+1:=⟨prog.types.size-1,Te1⟩;have hf:(Value.agg #[p,d]).formed prog 147=VR:=by simp[Value.formed,underlying147,show prog.cellsOf 147=2 by kernel_rfl]
 have e1:prog.cellsOf 9=1:=by kernel_rfl
 have e2:prog.cellsOf 3=1:=by kernel_rfl
 have e3:prog.cellsOf 147=2:=by kernel_rfl
 have hl:prog.keyLits (n+1+1) 147 [.string p,.int Sj d]=Vv [.string p.data.toList,.int Sj d]:=by
  simp[Program.keyLits,underlying147,underlying9,underlying3,e1,e2,e3,hp,hd]
 refine⟨.string (keyBytes [.string p.data.toList,.int Sj d]),?_⟩;unfold keyOf;rw[underlying147];simp only[];rw[EZ,hf,hn];simp only[Bool.and_self,ej];rw[show(Value.agg #[p,d]).cells.toList=[.string p,.int Sj d] from lX,hl];rfl
def wY(w:H7):(zeroValue 4).run prog w=.ok (Ft VN) w:=by kernel_rfl
variable {B bm Bt:Nat}{w w':H7}{L:wy (az × Nat)}{d:az}
open Classical in
noncomputable def iV(pre:wy (ay × aB))(key:zY):Option zY:=if ∃q∈pre,q.2.kind=6/\key=Tk #[By q.2.pool,Bm Sj q.2.device] then Vv (Ft VR) else VX
def pY(pre:wy (ay × aB))(s:aB):Bool:=pre.any fun p=>V7 (p.2.kind=6)&&(V7 (p.2.pool=s.pool)&&V7 (p.2.device=s.device))
def AZ(pre:wy (ay × aB))(s:aB):(iV pre (Tk #[s.pool,Bm Sj s.device])).getD (Ft VN)=Ft (pY pre s):=by
 unfold iV;by_cases h:pY pre s=VR
 ·rw[h,aw]
  ·rfl
  obtain⟨q,hq,e⟩:=GP.1 h;simp only[eh,fk]at e;exact⟨q,hq,e.1,by rw[e.2.1,e.2.2]⟩
 rw[bh]
 ·rw[Bool.eq_false_iff.2 h];rfl
 rintro⟨q,hq,e,k⟩;simp only[Value.agg.injEq,Array.mk.injEq,rp,By.injEq,Bm.injEq,and_true,true_and]at k;exact h (GP.2 ⟨q,hq,by simp[e,k.1,k.2]⟩)
def yU(pre:wy (ay × aB))(v:ay)(s:aB)(h:s.kind=6)(key:zY):iV (pre++[(v,s)]) key=upd (iV pre) (Tk #[s.pool,Bm Sj s.device]) (Ft VR) key:=by
 by_cases hk:key=Tk #[s.pool,Bm Sj s.device]
 ·subst hk;rw[upd_same];unfold iV;rw[aw ⟨(v,s),XN,h,rfl⟩]
 rw[bP hk];unfold iV;congr 1
 refine propext ⟨?_,?_⟩
 ·rintro⟨q,hq,e,k⟩;rcases AS.1 hq with hq|hq
  ·exact⟨q,hq,e,k⟩
  obtain rfl:=AM.1 hq;exact absurd k hk
 rintro⟨q,hq,e,k⟩;exact⟨q,ju _ hq,e,k⟩
def yN(pre:wy (ay × aB))(v:ay)(s:aB)(h:¬s.kind=6)(key:zY):iV (pre++[(v,s)]) key=iV pre key:=by
 unfold iV;congr 1
 refine propext ⟨?_,?_⟩
 ·rintro⟨q,hq,e,k⟩;rcases AS.1 hq with hq|hq
  ·exact⟨q,hq,e,k⟩
  obtain rfl:=AM.1 hq;exact absurd e h
 rintro⟨q,hq,e,k⟩;exact⟨q,ju _ hq,e,k⟩
def DI:(prog.info? 4).map (fun i=>(i.zero,i.size,i.bytes))=Vv (Vv (Ft VN),1,1):=by kernel_rfl
def xR(d:az):(bz [] d).map Ft=DE d.Gc.toNat (Ft VN):=by
 refine Bk fun i=>?_;simp only[rI,List.getElem?_replicate]
 by_cases h:i<d.Gc.toNat
 ·rw[gU h,aw h];rfl
 rw[bh h,xj (by rw[gP];omega)];rfl
def AJ(d:az)(E:Nat)(hE:d.Gc.toNat=E)(h:E<=1000000)(w:H7) :
  (Instr.makeSlice 143 (Bm Sj (E:Int)) (Bm Sj (E:Int))).run prog w=.ok (FG (Vv w.1.size) E E) (w.alloc (Sx ((bz [] d).map Ft).toArray 4)):=by
 obtain⟨i0,hi,du,R0,RC⟩:=gg DI;have:=run_makeSlice w 143 4 i0 _ underlying143 hi du Sj Sj (E:Int) (E:Int) WQ WQ (by rw[R0];simp;omega) (by rw[RC];omega) WQ;rw[R0]at this;simp only[Int.toNat_natCast,fp]at this;have e:madeCells (Ft VN).cells E=(DE E (Ft VN)).toArray:=by
  unfold madeCells;refine Array.ext XN fun i h1 h2=>?_;simp[Value.cells,Nat.mod_one]
 rw[this,xR,hE,e]
structure OvL(B:Nat)(w:H7)(bm Bt:Nat)(L:wy (az × Nat)):Prop where
 m:uF (fun b=>b<B) w L bm
 t:kK w L []
 c:w.cell? Bt=Vv (.map (Vv bm))
 n:∀p∈L,p.2≠Bt
 bt:Bt<w.heap.size
def OvL.below(h:OvL B w bm Bt L)(hb:Below w.1.size w w'):OvL B w' bm Bt L :=
 ⟨⟨h.m.map.block (hb.block _ h.m.map.lt),h.m.nb,h.m.nn,fun p hp=>⟨cC (h.m.lt p hp).1 hb.size,(h.m.lt p hp).2⟩,h.m.de⟩,h.t.below hb,(hb.cell (p:=Bt) h.bt).trans h.c,h.n,cC h.bt hb.size⟩
def OvL.snoc{E:Nat}(h:OvL B w bm Bt L)(hb:Below w.1.size w W)(hB:B<=W.1.size)(hd:0<=d.Gc/\d.Gc<=1000000)(hE:d.Gc.toNat=E)(hn:∀p∈L,¬p.1.name=d.name)
  (hm:bi prog 9 w' bm (L.length+1) (upd (vG L) (By d.name) (FG (Vv W.1.size) E E))) (hg:(W.alloc (Sx ((bz [] d).map Ft).toArray 4)).grownBy w' (Vv bm)) (hz:w'.1.size=(W.alloc (Sx ((bz [] d).map Ft).toArray 4)).1.size):OvL B w' bm Bt (L++[(d,W.1.size)]):=by
 have hA:=ae W (Sx ((bz [] d).map Ft).toArray 4);have h1:=(h.below hb).below hA;have Hv:=h.m.map.lt;have a9:=cC Hv hb.size;have mA:=hb.size;have aa:=h.bt;have ab:(W.alloc (Sx ((bz [] d).map Ft).toArray 4)).1.size=W.1.size+1:=by simp
 have gh:=b9 W (Sx ((bz [] d).map Ft).toArray 4);have a7:(L++[(d,W.1.size)]).map (·.2)=L.map (·.2)++[W.1.size]:=by simp
 have a5:(L++[(d,W.1.size)]).map (·.1.name)=L.map (·.1.name)++[d.name]:=by simp
 generalize RE:AI W _=W1 at *;have hlt:∀p∈L++[(d,W.1.size)],p.2<w'.1.size/\¬p.2<B/\p.2≠bm:=fun p hp=>by
  rcases AS.1 hp with hp|hp
  ·obtain⟨a,b,c⟩:=h1.m.lt p hp;exact⟨WQ,b,c⟩
  obtain rfl:=AM.1 hp;exact⟨by show W.1.size<_;omega,by show ¬W.1.size<B;omega,by show W.1.size≠bm;omega⟩
 have sy:∀b,b<W1.1.size->b≠bm->w'.1[b]?=W1.1[b]?:=fun b hb hne=>oJ hg hb hne;have VV:=h1.bt
 have Rw:Bt≠bm:=by
  rintro rfl;exact absurd h.c (by
   obtain⟨D,⟨es,a8,e,_⟩,_⟩:=h.m.map;simp[AN,e])
 refine⟨⟨?_,?_,?_,hlt,?_⟩,?_,?_,?_,WQ⟩
 ·rw[cD];refine hm.congr fun key _ _=>?_;rw[Av L d hn key,hE]
 ·rw[a7,List.nodup_append];refine⟨h.m.nb,XN,fun a ha b hb=>?_⟩;obtain⟨p,hp,rfl⟩:=As.1 ha;obtain rfl:=AM.1 hb;have:=(h.m.lt p hp).1;omega
 ·rw[a5,List.nodup_append];refine⟨h.m.nn,XN,fun a ha b hb=>?_⟩;obtain⟨p,hp,rfl⟩:=As.1 ha;obtain rfl:=AM.1 hb;exact hn p hp
 ·intro p hp;rcases AS.1 hp with hp|hp
  ·exact h.m.de p hp
  obtain rfl:=AM.1 hp;exact hd
 ·intro p hp;rcases AS.1 hp with hp|hp
  ·have:=h1.m.lt p hp;exact(sy _ this.1 this.2.2).trans (h1.t p hp)
  obtain rfl:=AM.1 hp;exact(sy _ (by show W.1.size<_;omega) (by show W.1.size≠bm;omega)).trans gh
 ·exact(cd (a:=Bt) (sy Bt VV Rw)).trans h1.c
 intro p hp;rcases AS.1 hp with hp|hp
 ·exact h.n p hp
 obtain rfl:=AM.1 hp;show W.1.size≠Bt;omega
def uF.mod{ok:LN}(h:uF ok w L bm)(hm:cR (Gm L) w w'):uF ok w' L bm :=
 ⟨h.map.block (hm.block _ h.map.lt fun⟨p,hp,e⟩=>(h.lt p hp).2.2 e),h.nb,h.nn,fun p hp=>⟨cC (h.lt p hp).1 hm.size,(h.lt p hp).2⟩,h.de⟩
def wm(pre:wy (ay × aB))(v:ay)(s:aB):lU (pre++[(v,s)])=lU pre++dC (aX s) s.Ga:=by simp[lU]
def zn{Gb:wy az}(h:(Gb.map (·.name)).Nodup){k:Nat}(hd:Gb[k]?=Vv d)(hL:L.map (·.1)=Gb.take k):∀p∈L,¬p.1.name=d.name:=fun p hp e=>by
 have h1:p.1∈Gb.take k:=by rw[<- hL];exact List.mem_map_of_mem hp
 obtain⟨i,hi,Yv⟩:=List.mem_iff_getElem.1 h1;rw[ey]at hi;rw[List.getElem_take]at Yv;obtain⟨hk,hdk⟩:=AT.1 hd;have Ua:=It.1 h i k (by rw[fW];omega) (by rw[fW];omega) WQ;rw[List.getElem_map,List.getElem_map,Yv,hdk]at Ua;exact Ua e
def Cs(key:zY):vG [] key=VX:=by
 unfold vG;split<;>rfl
structure FL(g:af):Prop where
 nd:(g.Gb.map (·.name)).Nodup
 ns:∀d∈g.Gb,d.name.size<=maxLen
 dl:Wq g.Gb<=1000000
 sg:∀v∈g.F9,∀s∈v.Gf,wM s/\1<=aX s/\(∀a∈s.Ga,a.vol=VN->a.on.size<=maxLen/\∃d,bH g.Gb a.on=Vv d/\0<=a.start/\aX s<=d.Gc-a.start)/\s.pool.size<=maxLen/\(Lit.int Sj s.device).wf=VR
 pl:(aA g.F9).length<=1000000
attribute [local go_sem] run_makeMap_plain
end
section
variable {w:H7}{l:QN}
def gm.nil(h:bi prog 9 w b 0 (fun _=>VX)):gm w b []:=h.congr fun key _ _=>by
 unfold cntF;split
 ·simp[iJ]
 rfl
def gm.block(h:gm w b l)(hb:w'.1[b]?=w.1[b]?):gm w' b l:=bi.block h hb
def gm.lt(h:gm w b l):b<w.1.size:=bi.lt h
def Ag(l:QN)(s:H6):iJ l s<=l.length:=List.countP_le_length
def wu{pre post:wy (ay × aB)}{v:ay}{s:aB}(h:aA F9=pre++(v,s) :: post)(pool:Bool):(dA pre pool).length+(dD s pool).length<=(dA (aA F9) pool).length:=by
 rw[h];simp[dA]
attribute [local go_sem] run_makeMap_plain
end
section
def sS:∀ {l:wy ay},(iM f l).2=0->∀v∈l,f v=0
 |[],_,v,hv=>by cases hv
 |x :: l,h,v,hv=>by
  unfold iM at h;split at h
  ·rename_i hx;rcases DQ.1 hv with rfl|hv
   ·exact hx
   exact sS h v hv
  rename_i hx;exact absurd h hx
def ll{nm:α->H6}{f:Nat->α->Int}:∀ {l:wy α} {i:Nat},(gZ nm f i l).2=0->∀(j:Nat) (x:α),l[j]?=Vv x->f (i+j) x=0
 |[],_,_,j,x,hx=>by cases hx
 |y :: l,i,h,j,x,hx=>by
  unfold gZ at h;split at h
  ·rename_i hy
   match j,hx with
   |0,hx =>
    obtain rfl:y=x:=by simpa using hx
    exact hy
   |j+1,hx =>
    have:=ll h j x Td7;rwa[show i+1+j=i+(j+1) by omega]at this
  rename_i hy;exact absurd h hy
def Hd:∀ {l pre:wy (ay × aB)},(bD E pre l).2=0->∀(a b:wy (ay × aB)) (v:ay) (s:aB),l=a++(v,s) :: b->E (pre++a) v s=0
 |[],_,_,a,b,v,s,e=>by simp at e
 |(v0,s0) :: l,pre,h,a,b,v,s,e=>by
  unfold bD at h;split at h
  ·rename_i h0
   match a,e with
   |[],e =>
    simp only[GO,rp,Prod.mk.injEq]at e;obtain⟨⟨rfl,rfl⟩,_⟩:=e;rw[eM];exact h0
   |x :: a,e =>
    simp only[IT,rp]at e;obtain⟨rfl,e⟩:=e;have:=Hd h a b v s e;rwa[cV]at this
  rename_i h0;exact absurd h h0
structure GIn(g:af):Prop where
 tx:UT g
 sz:JT g
 kw:Ct g
 st:∀v∈g.F9,∀s∈v.Gf,s.log.size<=9223372036854775807/\s.pool.size<=9223372036854775807/\(∀a∈s.Ga,a.on.size<=9223372036854775807)/\(Lit.int Sj s.device).wf=VR
variable {g:af}
variable {s:aB}{v:ay}
def iT(h:(dZ g).2=0):lm g/\iR g:=by
 have h':qX g=0:=h;unfold qX at h';split at h'
 ·cases h'
 split at h'
 ·cases h'
 rename_i h1;split at h'
 ·cases h'
 rename_i h2;exact⟨Decidable.not_not.1 h1,Decidable.not_not.1 h2⟩
def nG(h:(dw g).2=0):(g.Gb.map (·.name)).Nodup/\∀d∈g.Gb,jQ g d/\jo d.name=VR:=by
 have hE:∀(j:Nat) (d:az),g.Gb[j]?=Vv d->pg g j d=0:=fun j d hd=>by
  have:=ll (i:=0) h j d hd;rwa[eJ]at this
 have hS:∀(j:Nat) (d:az),g.Gb[j]?=Vv d->(g.Gb.take j).any (dG d)=VN/\jQ g d/\jo d.name=VR:=fun j d hd=>by
  have:=hE j d hd;unfold pg at this;split at this
  ·cases this
  rename_i h0;split at this
  ·cases this
  rename_i h1;split at this
  ·cases this
  rename_i h2;exact⟨Bool.eq_false_iff.2 h1,Decidable.not_not.1 h2,TdW⟩
 constructor
 ·rw[List.nodup_iff_pairwise_ne,It];intro i j hi hj hij e;rw[fW]at hi hj;rw[List.getElem_map,List.getElem_map]at e;have h1:=(hS j g.Gb[j] (lO hj)).1;rw[IS]at h1;refine h1 g.Gb[i] (List.mem_iff_getElem.2 ⟨i,by rw[ey];omega,by rw[List.getElem_take]⟩) ?_;simp[dG,e]
 intro d hd;obtain⟨j,hj⟩:=fc hd;exact(hS j d hj).2
def oo{s:H6}(h:jo s=VR):s.size<=24:=by
 unfold jo at h;simp only[eh,fk]at h;exact h.1.2
def za(h:nE v=VR):v.name.size<=40:=by
 unfold nE at h;split at h
 ·unfold zH at h;simp only[eh,fk]at h;exact h.1.2
 have:=oo h;omega
def nH(h:(dJ g).2=0):∀v∈g.F9,nE v=VR/\v.name.size<=40/\1<=Wq v.Gf/\Wq v.Gf<=64:=fun v hv=>by
 obtain⟨j,hj⟩:=fc hv;have:=ll (i:=0) h j v hj;rw[eJ]at this;unfold yH at this;split at this
 ·cases this
 rename_i h0;split at this
 ·cases this
 split at this
 ·cases this
 rename_i h2;have a5:nE v=VR:=by simpa using h0
 exact⟨a5,za a5,Decidable.not_not.1 h2⟩
def xz{ext:Int}:∀ {l:wy aB} {st:Int},qV ext n l st=0->∀s∈l,∃a5,bJ ext s a5=VR
 |[],_,_,s,hs=>by cases hs
 |x :: l,st,h,s,hs=>by
  unfold qV at h;split at h
  ·cases h
  rename_i h0;split at h
  ·cases h
  rcases DQ.1 hs with rfl|hs
  ·exact⟨st,TdW⟩
  exact xz h s hs
def qP(h:(iP g).2=0):∀v∈g.F9,∀s∈v.Gf,∃st,bJ g.Gd s st=VR:=fun v hv s hs=>xz (sS h v hv) s hs
def CK{x:eX}(h:shapeOf k=Vv x):0<=x.least/\x.greatest<=6/\(k=2->x.least=2)/\(k=3->x.chunk=1024)/\(k=4->x.least=3)/\(k=5->x.least=2)/\(k=7->x.least=3):=by
 have hk:k=1\/k=2\/k=3\/k=4\/k=5\/k=6\/k=7\/k=8\/k=9\/k=10:=by
  refine Decidable.byContradiction fun q=>?_;simp only[not_or]at q;obtain⟨q1,q2,q3,q4,q5,q6,q7,q8,q9,a5⟩:=q;unfold shapeOf at h;rw[bh q1,bh q2,bh q3,bh q4,bh q5,bh q6,bh q7,bh q8,bh q9,bh a5]at h;cases h
 rcases hk with rfl|rfl|rfl|rfl|rfl|rfl|rfl|rfl|rfl|rfl<;>cases h<;>decide
def vT{ext:Int}(h:bJ ext s st=VR):Ah s/\1<=aX s/\(s.kind=2->2<=Wq s.Ga):=by
 cases hs:shapeOf s.kind with
 |none=>rw[jT hs]at h;cases h
 |some x =>
  have hx:=CK hs;rw[jP hs]at h;simp only[eh,fk]at h;obtain⟨⟨⟨⟨⟨⟨⟨⟨⟨⟨⟨⟨⟨⟨-,h1⟩,h2⟩,h3⟩,h4⟩,-⟩,h6⟩,-⟩,-⟩,-⟩,-⟩,-⟩,-⟩,a5⟩,-⟩:=h;obtain⟨x1,x2,x3,x4,x5,x6,x7⟩:=hx;have hk2:s.kind=2->2<=Wq s.Ga:=fun e=>by have:=x3 e;omega
  refine⟨⟨⟨h1,h2,WQ,fun e=>by have:=x6 e;omega,fun e=>by have:=x7 e;omega⟩,fun e=>?_,fun e=>by have:=x5 e;omega⟩,?_,hk2⟩
  ·have hc:=x4 e;unfold fq at h6;rw[hc]at h6;simpa using h6
  unfold aX iB;split
  ·rename_i he;have a7:s.length%(Wq s.Ga:Int)=0:=by
    cases hq:(s.kind==2)with
    |true=>rw[hq]at a5;simpa using a5
    |false=>simp[he.1]at hq
   have a8:=hk2 he.1;have:0<s.length/(Wq s.Ga:Int):=by
    refine Decidable.byContradiction fun q=>?_;have e0:=Int.emod_add_mul_ediv s.length (Wq s.Ga);have:(Wq s.Ga:Int)*(s.length/(Wq s.Ga:Int))<=0:=Int.mul_nonpos_of_nonneg_of_nonpos WQ WQ;omega
   omega
  omega
def zm(hi:GIn g)(h1:(dZ g).2=0)(h2:(dw g).2=0)(h3:(dJ g).2=0)(h4:(iP g).2=0):UQ g:=by
 obtain⟨r1,r2⟩:=iT h1;exact⟨hi.sz,fun d hd=>by have:=((nG h2).2 d hd).1;unfold jQ at this;omega,⟨r1.2.2.1,r1.2.2.2.1⟩,fun v hv=>by have:=(nH h3 v hv).2.1;omega,fun v hv s hs=>by
  obtain⟨st,h⟩:=qP h4 v hv s hs;exact(vT h).1.fm⟩
def mZ(h4:(iP g).2=0):∀v∈g.F9,∀s∈v.Gf,Ah s:=fun v hv s hs=>by
 obtain⟨st,h⟩:=qP h4 v hv s hs;exact(vT h).1
def zW:∀(l:wy aB) (n:Int),(∀s∈l,s.length<=32768)->0<=n->l.foldl (fun n s=>fF n s.length) n<=n+32768*(l.length:Int)
 |[],n,_,_=>by simp
 |s :: l,n,h,h0=>by
  have h1:=lT n s.length h0;have h2:fF n s.length<=n+32768:=by
   have:=h s (cG ..);unfold fF;omega
  have:=zW l (fF n s.length) (fun x hx=>h x (kn _ hx)) h1.1;rw[cF,cS];omega
def Cg(h3:(dJ g).2=0)(h4:(iP g).2=0):Cu g:=fun nm=>by
 unfold dO;cases hf:aM g.F9 nm with
 |none=>exact⟨YR,YR⟩
 |some v =>
  have hv:=eV hf;have h1:=uZ v.Gf 0 WQ WQ;have h2:=zW v.Gf 0 (fun s hs=>(mZ h4 v hv s hs).fm.l1) WQ;have h5:=(nH h3 v hv).2.2.2;show 0<=C8 v/\C8 v<=10000000;unfold C8;omega
def qo(hl:iR g)(h3:(dJ g).2=0):(aA g.F9).length<=2048:=by
 have:∀l:wy ay,(∀v∈l,Wq v.Gf<=64)->(aA l).length<=64*l.length:=by
  intro l;induction l with
  |nil=>intro _;simp[aA]
  |cons v l ih =>
   intro h;have h1:=ih fun x hx=>h x (kn _ hx);have h2:=h v (cG ..);unfold aA at h1 ⊢;rw[lB,cD,fW,cS];omega
 have h1:=this g.F9 fun v hv=>(nH h3 v hv).2.2.2;have:=hl.2.1;omega
def zZ(h:mM g v s=0):jw g s=VR/\s.Ga.all (fI g s)=VR/\jS v s=VR/\(s.kind=6->eZ ((aM g.F9 s.pool).getD eY)=5)/\(dD s VN).any (dh g)=VN:=by
 unfold mM at h;split at h
 ·cases h
 rename_i h1;split at h
 ·cases h
 rename_i h2;split at h
 ·cases h
 rename_i h3;split at h
 ·cases h
 rename_i h4;split at h
 ·cases h
 rename_i h5;exact⟨TdL,by simpa using h2,TdK,fun e=>Decidable.byContradiction fun q=>h4 ⟨e,q⟩,Bool.eq_false_iff.2 h5⟩
def Dh(h:(mY g).2=0):∀v∈g.F9,∀s∈v.Gf,mM g v s=0:=fun v hv s hs=>by
 have:(v,s)∈aA g.F9:=BY.2 ⟨v,hv,As.2 ⟨s,hs,rfl⟩⟩;obtain⟨a,b,e⟩:=List.append_of_mem this;exact Hd h a b v s e
def Er(hi:GIn g)(h1:(dZ g).2=0)(h2:(dw g).2=0)(h3:(dJ g).2=0)(h4:(iP g).2=0)(h5:(mY g).2=0):FL g:=by
 obtain⟨r1,r2⟩:=iT h1;refine⟨(nG h2).1,fun d hd=>?_,hi.sz.dl,fun v hv s hs=>?_,by have:=qo r2 h3;omega⟩
 ·have:=oo ((nG h2).2 d hd).2;unfold maxLen;omega
 obtain⟨st,h⟩:=qP h4 v hv s hs;obtain⟨f1,f2,f3⟩:=vT h;obtain⟨q1,q2,q3,q4,q5⟩:=zZ (Dh h5 v hv s hs);obtain⟨m1,m2,m3,m4⟩:=hi.st v hv s hs;refine⟨f1.fm,f2,fun a ha pS=>⟨by unfold maxLen;exact m3 a ha,?_⟩,by unfold maxLen;exact m2,m4⟩;unfold jw at q1;rw[eh,eL,eL]at q1;have e1:=q1.1 a ha;rw[pS,nj]at e1;obtain⟨d,hd⟩:=Ly.1 e1;have e2:=An.1 q2 a ha;unfold fI at e2;rw[pS,nj,hd]at e2;simp only[eh,fk,L2]at e2;exact⟨d,hd,e2.1.1,e2.2⟩
def yB(hi:GIn g):∀v∈g.F9,∀s∈v.Gf,∀pool,∀x∈dD s pool,x.size<=maxLen:=fun v hv s hs pool x hx=>by
 obtain⟨m1,m2,m3,m4⟩:=hi.st v hv s hs;unfold maxLen;unfold dD at hx;rcases AS.1 hx with hx|hx
 ·rcases AS.1 hx with hx|hx
  ·obtain⟨a,ha,rfl⟩:=As.1 hx;exact m3 a ((DS.1 ha).1)
  split at hx
  ·cases hx
  obtain rfl:=AM.1 hx;exact m1
 split at hx
 ·obtain rfl:=AM.1 hx;exact m2
 cases hx
def Ao(hl:iR g)(h3:(dJ g).2=0)(h4:(iP g).2=0)(pool:Bool):(dA (aA g.F9) pool).length<=1000000:=by
 have:∀l:wy (ay × aB),(∀p∈l,Wq p.2.Ga<=6)->(dA l pool).length<=8*l.length:=by
  intro l;induction l with
  |nil=>intro _;simp[dA]
  |cons p l ih =>
   intro h;have h1:=ih fun x hx=>h x (kn _ hx);have h2:=h p (cG ..)
   have h3:(dD p.2 pool).length<=Wq p.2.Ga+2:=by
    unfold dD;rw[cD,cD,fW];have:=tk (fun a:aR=>a.vol) p.2.Ga;split<;>split<;>simp<;>omega
   unfold dA at h1 ⊢;rw[lB,cD,cS];omega
 have h1:=this (aA g.F9) fun p hp=>by
  obtain⟨v,hv,hp⟩:=BY.1 hp;obtain⟨s,hs,rfl⟩:=As.1 hp;exact(mZ h4 v hv s hs).fm.ar
 have h2:=qo hl h3;omega
def oW:wy (H6 × Int)->H6 × Int
 |[]=>(⟨#[]⟩,0)
 |r :: l=>if r.2=0 then oW l else r
def mchk(g:af):H6 × Int:=oW [dZ g,dw g,dJ g,iP g,mY g,qG g,pE g,rY g]
end
section
variable {w w':H7}{B k bm:Nat}{v:ay}{l:QN}{F9:wy ay}{A:wy (ay × zY)}
def dF.ne{v:zY}{cs:Array zY}{t:TypeId}{z:Nat × Nat}(h:dF w B v l)(hb:w.1[b]?=Vv (Sx cs t z))(ht:t≠9):v.ownBlock≠Vv b:=fun e=>by
 obtain⟨-,h2⟩:=h;rcases h2 with⟨rfl,_⟩|⟨g,cap,a5,rfl,_,hg,_⟩
 ·cases e
 have:g=b:=by simpa[Value.ownBlock]using e
 subst this;rw[hb]at hg;injection hg with hg;injection hg with _ e2;exact ht e2
def ck.flatT{ok:LN}{a:Addr}{c:Nat}(h:ck aF 1 ok w [FG (Vv a) l.length c] l):∀(j:Nat) (u:zY),(l.map By)[j]?=Vv u->w.cell? (a.add j)=Vv u:=fun j u hu=>by
 rw[rI]at hu;obtain⟨x,hx,rfl⟩:=Option.map_eq_some_iff.1 hu;obtain⟨b,off,us,e,_,_,_,hv,hc⟩:=h.elem hx;obtain rfl:a=_:=gj e;obtain rfl:us=_:=hv;have:=hc 0 _ lX;rw[iz];simpa using this
def mW{ok:LN}{a8:Array Oper}{rest:wy Oper}{o:Oper}{a:Act}(a9:o.guard=VX){s x:Operand}
  (ho:o.op=.call { callee:=.builtin .append,args:=#[s,x],argTypes:=#[26,26] })
  (B:Nat) (v:zY) (l ps:QN) (hs:a.eval s=v) (a5:dF w B v l) (p:IH) (c:Nat) (hx:a.eval x=FG p ps.length c) (hr:ck aF 1 ok w [FG p ps.length c] ps)
  (hl:l.length+ps.length<=100000000) (hB:B<=w.1.size)
  (h:∀v' w',dF w' B v' (l++ps)->Below B w w'->w.grownBy w' v.ownBlock->wpList prog a8 Q rest (a.put o.dst v') w'):wpList prog a8 Q (o :: rest) a w:=by
 obtain⟨i0,hi,du,R0,RC⟩:=gg CJ;cases p with
 |none =>
  have hp:ps=[]:=by
   obtain⟨p',c',e,_,_,h3⟩:=hr;simp only[rp,FG.injEq,and_true]at e;have e1:=e.1;cases ps with
   |nil=>rfl
   |cons y ys =>
    obtain⟨b,off,e4,_⟩:=h3 XN;rw[<- e1]at e4;cases e4
  subst hp;refine wpList_plain a9 fun K hK=>?_
  have a7:(Builtin.append_ #[26,26] o.type #[v,FG VX 0 c]).run prog w=.ok v w:=by
   rcases a5.2 with⟨rfl,_⟩|⟨g,cap,ab,rfl,_,_,vr,_⟩
   ·simp[Builtin.append_,tU underlying26,sizeOf,typeInfo,hi,Builtin.lenOf,Builtin.firstCells]
   simp[Builtin.append_,tU underlying26,sizeOf,typeInfo,hi,Builtin.lenOf,Builtin.firstCells,vr,storeCells]
  unfold Oper.wp execOp;simp only[ho,resolve,invoke,builtin,Sem.run_bind,Sem.run_pure,ud,tS,iu,List.map_nil,hs,hx,ux,a7];exact hK _ _ (h v w (by rw[eM];exact a5) (bj _ _) ⟨rfl,rfl,rfl,bk _,fun _ _ _=>rfl⟩)
 |some ad =>
  refine tE w a9 s x 26 ho B 9 i0 _ 1 16 underlying26 hi du R0 RC lX YR v l.length (l.map By) hs a5 ad ps.length c (ps.map By) hx XN hr.flatT Tdj Tdh WQ hB (fun v' w' aa hg _=>?_);refine h v' w' ?_ ((bj B w).grown hg hB (fun k hk=>(fh a5 k hk).1)) hg;unfold dF;rw[gl,cD];exact aa
def je(l:wy aB):QN:=l.flatMap rQ
def BX{l:wy aB}:(je (l.take k)).length<=(je l).length:=by
 conv=>rhs;rw[<- rk k l]
 unfold je;rw[xt,cD];omega
def yT{l:wy aB}{s:aB}(h:l[k]?=Vv s):je (l.take (k+1))=je (l.take k)++(s.Ga.filter (·.vol)).map (·.on)++(if s.log.toList.isEmpty then [] else [s.log])++(if s.pool.toList.isEmpty then [] else [s.pool]):=by
 rw[take_snoc' l k s h];simp[je,rQ]
def vP(l:wy aR):QN:=(l.filter (·.vol)).map (·.on)
def Df(l:wy aR):(vP l).length<=l.length:=by
 unfold vP;rw[fW];exact tk ..
def BA{l:wy aR}{x:aR}(h:l[k]?=Vv x):vP (l.take (k+1))=vP (l.take k)++if x.vol=VR then [x.on] else []:=by
 rw[take_snoc' l k x h];unfold vP;cases hv:x.vol<;>simp[hv]
def Taw(x0:aR):Tab #[Ft x0.vol,By x0.on,Bm Sj x0.start]:=⟨⟩
def Tb5(h:gt:=by
 ·obtain rfl:k=Wq v.Gf:=by omega
  rw[cI]at HOW;go_wp2;go_ret;exact⟨_,rfl,by rw[HUV.o];exact HOW.o,HB.o⟩):=h
def Ten(h:gt:=by rw[Hk.o];exact HOW4.o):=h
def BH{ok:LN}(v:ay){u:RH}(hv:aN ok w u v)(hz:qD v)(hl:(kY v).length<=1000000):Calls prog 180 #[Tk u.toArray] w (Dx w.1.size w (kY v)):=by
 obtain⟨tv,sv,rfl,ew,gA⟩:=hv;obtain⟨tp,tc,rfl,_,_⟩:=ew.cap;obtain⟨sp,sc,rfl,am,ao⟩:=gA.cap;replace gA:=aa gA;clear ew;have GF:=hz.Gf;replace hz:=aa hz;have au:(je v.Gf).length<=1000000:=hl;clear hl;have HUV:Hid (kY v=je v.Gf):=aa lX;have HB:=aa (ae w (Sx (ZM v tp tc sp sc) 46));go_enter func180,ntmps180
 go_upto_region 3 with(fail);generalize RE:AI w _=W1 at *;clear RE;go_loopw[3,11] (fun l i wr=>∃k:Nat,k<=Wq v.Gf/\i=Bm Sj k/\dF wr w.1.size l (je (v.Gf.take k))/\Below w.1.size w wr) (fun _ i _=>Wq v.Gf-(intOf i).toNat)
 exact⟨0,cg _,rfl,dF.nil _ _,HB.o⟩;clear HB;obtain⟨k,hk,rfl,a5,hB⟩:=hrel;have HOW:=aa a5;clear a5;have HB:=aa hB;clear hB;have mA:=HB.o.size;have aF:(je (v.Gf.take k)).length<=1000000:=cA BX au;by_cases hlt:k<Wq v.Gf
 ·obtain⟨s,hs⟩:=aj v.Gf k hlt;obtain⟨b,off,us,rfl,gR,cX,ez,eE,ai⟩:=gA.o.elem hs;have ak:=ct hs;have hal:=(hz.o.seg s ak).1;obtain⟨av,Rn,rfl,o0,hst⟩:=eE;obtain⟨ap,ac,rfl,_,_⟩:=o0.cap;obtain⟨eN,eR,rfl,_,_⟩:=hst.cap;replace o0:=aa o0;clear hst;have cT:wr.1[b]?=w.1[b]?:=HB.o.block b cX;obtain⟨q0,q1,q2,q3,q4,q5,q6,q7,q8,q9,az⟩:=ak5 cT ai;have TK:=aa (yT hs);clear hs ak ai ez cT;have lj:=aa (b9 wr (Sx (ZN s ap ac eN eR) 55));have hA:=ae wr (Sx (ZN s ap ac eN eR) 55);have cm:=aa (HB.o.trans (hA.mono mA));have HOW2:=aa (HOW.o.below hA);clear hA;go_upto_region 5 with(fail);clear q0 q1 q2 q3 q4 q5 q6 q7 q8 q9 az;generalize aA:AI wr _=W2 at *;generalize aG:wr.1.size=Bs at *;clear aA HB HOW;have s3:=cr lj.o 3 _ lX;go_upto_region 6 with(fail);clear s3;go_loopw[3,18] (fun l i wi=>∃j:Nat,j<=Wq s.Ga/\i=Bm Sj j/\dF wi w.1.size l (je (v.Gf.take k)++vP (s.Ga.take j))/\wi.1[Bs]?=Vv (Sx (ZN s ap ac eN eR) 55 (0,0))/\Below w.1.size w wi) (fun _ i _=>Wq s.Ga-(intOf i).toNat)
  exact⟨0,cg _,rfl,by rw[iv];simpa[vP]using HOW2.o,lj.o,cm.o⟩;clear lj cm HOW2;obtain⟨j,hj,rfl,a5,gO,hB⟩:=hrel;have HOW:=aa a5;clear a5;have HB:=aa hB;clear hB;have lj:=aa gO;clear gO;have af:=HB.o.size;have mb:=Df (s.Ga.take j);rw[ey]at mb;by_cases hlt2:j<Wq s.Ga
  ·obtain⟨x,hx⟩:=aj s.Ga j hlt2;obtain⟨b2,off2,aB,yp,I0,C2,B5,C3,ab⟩:=o0.o.elem hx;subst yp;obtain rfl:aB=_:=C3;have AD:wr.1[b2]?=w.1[b2]?:=HB.o.block b2 C2;obtain⟨q0,q1,q2⟩:=Mn AD ab;have XU:=aa (BA hx);clear ab B5 hx AD;have ag:=aq lj.o;have hA:=ae wr (Sx (Taw x) 53);have yb:=aa (b9 wr (Sx (Taw x) 53));have cm:=aa (HB.o.trans (hA.mono af));have HOW2:=aa (HOW.o.below hA);have Hi:=aa ((hA.block _ ag).trans lj.o);clear hA;go_upto_region 8 with(fail);clear q0 q1 q2;generalize aC:AI wr _=W3 at *;generalize aH:wr.1.size=Ba at *;clear aC HB HOW lj;have a0:=cr yb.o 0 _ lX;have a1:=cr yb.o 1 _ lX
   cases I2:x.vol with
   |false =>
    rw[I2]at a0 XU;rw[bh XN,eM]at XU;have HV:=aa I2;clear I2;go_wp2;go_roundw;exact⟨j+1,WQ,Zf,by rw[XU.o];exact HOW2.o,Hi.o,cm.o⟩;exact Ti
   |true =>
    rw[I2]at a0 XU;rw[aw lX]at XU;have HV:=aa I2;clear I2;have Wa:=cm.o.size;go_wp2_with(at_builtin;refine dz lX _ _ lX w.1.size _ (je (v.Gf.take k)++vP (s.Ga.take j)) x.on lX ?c1 W3.1.size 1 lX ?c2 ?c3 ?c4 ?_)
    case c1=>exact HOW2.o.alloc _
    case c2=>exact aD lX rfl
    case c3=>rw[cD];omega
    case c4=>simp;omega
    intro v' w1 Of a8 a9;have hA:=ae W3 (Sx #[By x.on] 9);have ml:=(hA.block _ (aq Hi.o)).trans Hi.o;have eI:=aa ((cm.o.trans (hA.mono Wa)).trans a8);have Tx:=aa ((a9.block Bs (aq ml) (fun e=>(HOW2.o.below hA).ne ml YR e.symm)).trans ml);have HOW4:=aa Of;clear hA ml a8 a9 Of;go_wp2;go_roundw;exact⟨j+1,WQ,Zf,by rw[XU.o];exact HOW4.o,Tx.o,eI.o⟩;exact Ti
  obtain rfl:j=Wq s.Ga:=by omega
  rw[cI]at HOW mb;generalize ah:je (v.Gf.take k)++vP s.Ga=AL at *;have Wb:AL.length<=3000000:=by rw[<- ah,cD];omega
  have Hk:Hid (je (v.Gf.take (k+1))=AL++(if s.log.toList.isEmpty then [] else [s.log])++(if s.pool.toList.isEmpty then [] else [s.pool])):=aa (by rw[TK.o,<- ah];rfl);clear ah mb TK;have s6:=cr lj.o 6 _ lX;have s7:=cr lj.o 7 _ lX;have ag:=aq lj.o;cases Fi:s.log.toList.isEmpty with
  |true =>
   rw[Fi,aw lX,eM]at Hk;cases PY:s.pool.toList.isEmpty with
   |true =>
    rw[PY,aw lX,eM]at Hk;go_wp2;go_roundw;exact⟨k+1,WQ,Zf,by rw[Hk.o];exact HOW.o,HB.o⟩;exact Ti
   |false =>
    rw[PY,bh XN]at Hk;go_wp2_with(at_builtin;refine dz lX _ _ lX w.1.size _ AL s.pool lX ?d1 wr.1.size 1 lX ?d2 ?d3 ?d4 ?_)
    case d1=>exact HOW.o.alloc _
    case d2=>exact aD lX rfl
    case d3=>omega
    case d4=>simp;omega
    intro v' w1 Of a8 a9;have eI:=aa ((HB.o.alloc af _).trans a8);have HOW4:=aa Of;clear a8 a9 Of;go_wp2;go_roundw;exact⟨k+1,WQ,Zf,Ten,eI.o⟩;exact Ti
  |false =>
   rw[Fi,bh XN]at Hk;go_wp2_with(at_builtin;refine dz lX _ _ lX w.1.size _ AL s.log lX ?e1 wr.1.size 1 lX ?e2 ?e3 ?e4 ?_)
   case e1=>exact HOW.o.alloc _
   case e2=>exact aD lX rfl
   case e3=>omega
   case e4=>simp;omega
   intro v' w1 Of a8 a9;have hA:=ae wr (Sx #[s.log] 9);have ml:=(hA.block _ ag).trans lj.o;have eI:=aa ((HB.o.trans (hA.mono af)).trans a8);have Tx:=aa ((a9.block Bs (aq ml) (fun e=>(HOW.o.below hA).ne ml YR e.symm)).trans ml);have HOW4:=aa Of;have Wc:=eI.o.size;clear hA ml a8 a9 Of s6 s7;have s7:=cr Tx.o 7 _ lX
   cases PY:s.pool.toList.isEmpty with
   |true =>
    rw[PY,aw lX,eM]at Hk;go_wp2;go_roundw;exact⟨k+1,WQ,Zf,Ten,eI.o⟩;exact Ti
   |false =>
    rw[PY,bh XN]at Hk;go_wp2_with(at_builtin;refine dz lX _ _ lX w.1.size _ (AL++[s.log]) s.pool lX ?f1 w1.1.size 1 lX ?f2 ?f3 ?f4 ?_)
    case f1=>exact HOW4.o.alloc _
    case f2=>exact aD lX rfl
    case f3=>simp;omega
    case f4=>simp;omega
    intro v2 w2 a7 hb2 aE;have eK:=aa ((eI.o.alloc Wc _).trans hb2);replace a7:=aa a7;clear hb2 aE;go_wp2;go_roundw;exact⟨k+1,WQ,Zf,by rw[Hk.o,cV];exact a7.o,eK.o⟩;exact Ti
 exact Tb5
def rO(A:wy (ay × zY)):zY->Option zY
 |.string s=>(A.find? fun p=>V7 (p.1.name=s)).map (·.2)
 |_=>VX
def zJ(A:wy (ay × zY))(v:ay)(x:zY)(h:A.find? (fun p=>V7 (p.1.name=v.name))=VX)(key:zY):rO (A++[(v,x)]) key=upd (rO A) (By v.name) x key:=by
 by_cases hk:key=By v.name
 ·subst hk;rw[upd_same];show((A++[(v,x)]).find? fun p=>V7 (p.1.name=v.name)).map _=_;rw[tD,h];simp
 rw[bP hk];unfold rO;split
 ·rename_i s;have:¬v.name=s:=fun e=>hk TdN;rw[tD];simp[this]
 rfl
structure gQ(B:Nat)(w:H7)(bm:Nat)(F9:wy ay)(A:wy (ay × zY)):Prop where
 map:bi prog 9 w bm A.length (rO A)
 fd:∀nm,(A.find? fun p=>V7 (p.1.name=nm)).map (·.1)=aM F9 nm
 rd:∀p∈A,ck aF 1 (fun b=>B<=b) w [p.2] (kY p.1)
 le:A.length<=F9.length
def gQ.below(h:gQ B w bm F9 A)(hb:Below w.1.size w w'):gQ B w' bm F9 A :=
 ⟨h.map.block (hb.block _ h.map.lt),h.fd,fun p hp=>(ck.moves aF.moves).mv (Mv.of hb) (h.rd p hp),h.le⟩
def FM(w:H7):(zeroValue 26).run prog w=.ok (FG VX 0 0) w:=by kernel_rfl
def gQ.look(h:gQ B w bm F9 A)(nm:H6)(hn:nm.size<=maxLen) :
  ∃(p:IH) (c:Nat),(Instr.lookup 212 (.map (Vv bm)) (By nm) VR).run prog w=.ok (Vj #[FG p ((dU F9 nm).getD []).length c,Ft (aM F9 nm).isSome]) w /\
   (Instr.lookup 212 (.map (Vv bm)) (By nm) VN).run prog w=.ok (FG p ((dU F9 nm).getD []).length c) w/\ck aF 1 (fun b=>B<=b) w [FG p ((dU F9 nm).getD []).length c] ((dU F9 nm).getD []):=by
 have a5:=bi.look h.map oM underlying212 (FM w) (key:=By nm) (gG nm hn);have hf:=h.fd nm;have e0:rO A (By nm)=(A.find? fun p=>V7 (p.1.name=nm)).map (·.2):=rfl;cases ha:A.find? (fun p=>V7 (p.1.name=nm))with
 |none =>
  rw[ha]at hf e0;have a7:aM F9 nm=VX:=hf.symm;have hl:(dU F9 nm).getD []=[]:=by unfold dU;rw[a7];rfl
  rw[e0]at a5;rw[hl,a7];exact⟨VX,0,a5.2,a5.1,ck.nil⟩
 |some p =>
  rw[ha]at hf e0;have a7:aM F9 nm=Vv p.1:=hf.symm;have hl:(dU F9 nm).getD []=kY p.1:=by unfold dU;rw[a7];rfl
  rw[e0]at a5;have hr:=h.rd p (eV ha);obtain⟨q,c,e,_,_⟩:=hr.cap;rw[hl,a7];refine⟨q,c,?_⟩;rw[<- e];exact⟨a5.2,a5.1,hr⟩
def qh(h:F9[k]?=Vv v)(nm:H6):aM (F9.take (k+1)) nm=(aM (F9.take k) nm).or (if v.name=nm then Vv v else VX):=by
 unfold aM;rw[take_snoc' F9 k v h,tD];congr 1
 by_cases e:v.name=nm<;>simp[e]
def gQ.skip(h:gQ B w bm (F9.take k) A)(hv:F9[k]?=Vv v)(hs:(aM (F9.take k) v.name).isSome=VR):gQ B w bm (F9.take (k+1)) A :=
 ⟨h.map,fun nm=>by
  rw[h.fd nm,qh hv nm];by_cases e:v.name=nm
  ·subst e;obtain⟨x,hx⟩:=Ly.1 hs;rw[hx];rfl
  rw[bh e];simp,h.rd,cA h.le (by rw[ey,ey];omega)⟩
def gQ.snoc{x:zY}(h:gQ B w bm (F9.take k) A)(hv:F9[k]?=Vv v)(hs:(aM (F9.take k) v.name).isSome=VN)(hr:ck aF 1 (fun b=>B<=b) w [x] (kY v))
  (hm:bi prog 9 w' bm (A.length+1) (upd (rO A) (By v.name) x)) (hg:w.grownBy w' (Vv bm)):gQ B w' bm (F9.take (k+1)) (A++[(v,x)]):=by
 have a5:A.find? (fun p=>V7 (p.1.name=v.name))=VX:=by
  have:=h.fd v.name;cases ha:A.find? (fun p=>V7 (p.1.name=v.name))with
  |none=>rfl
  |some p=>rw[ha]at this;rw[<- this]at hs;cases hs
 have Hv:∀(b:Nat) (cs:Array zY) (t:TypeId) (z:Nat × Nat),w.1[b]?=Vv (Sx cs t z)->w'.1[b]?=w.1[b]?:=fun b cs t z hb=>oJ hg (aq hb) (fun e=>h.map.ne (e ▸ hb) lX)
 have C4:∀ {y:zY} {l:QN},ck aF 1 (fun b=>B<=b) w [y] l->ck aF 1 (fun b=>B<=b) w' [y] l:=fun {y l} hy=>by
  obtain⟨p,c,e,h1,h2,h3⟩:=hy;refine⟨p,c,e,h1,h2,fun h0=>?_⟩;obtain⟨b,off,e2,hlt,gw,hc⟩:=h3 h0;have Hh:w'.1[b]?=w.1[b]?:=by
   obtain⟨x0,a8⟩:=aj l 0 h0;obtain⟨us,ez,eE,a7⟩:=hc 0 x0 a8;obtain rfl:us=_:=eE;have:=a7 0 _ lX;unfold AN at this;cases hb:w.1[b]? with
   |none=>rw[hb]at this;simp at this
   |some o =>
    cases o with
    |cells cs t z=>exact(Hv b cs t z hb).trans hb
    |map es c=>rw[hb]at this;simp at this
    |_=>rw[hb]at this;simp at this
  exact⟨b,off,e2,cC hlt hg.size,gw,fun i x hx=>by
   obtain⟨us,ez,eE,a7⟩:=hc i x hx;exact⟨us,ez,eE,fun j z hz=>(cd (a:=⟨b,_,VX⟩) Hh).trans (a7 j z hz)⟩⟩
 refine⟨?_,fun nm=>?_,fun p hp=>?_,?_⟩
 ·rw[cD];exact hm.congr fun key _ _=>zJ A v x a5 key
 ·rw[tD,qh hv nm,<- h.fd nm]
  cases A.find? (fun p=>V7 (p.1.name=nm))with
  |none=>by_cases e:v.name=nm<;>simp[e]
  |some p=>simp
 ·rcases AS.1 hp with hp|hp
  ·exact C4 (h.rd p hp)
  obtain rfl:=AM.1 hp;exact C4 hr
 have:=h.le;have:=(AT.1 hv).1;rw[cD,ey]at *;simp only[cS,ux];omega
structure uw(g:af):Prop where
 sz:JT g
 vn:∀v∈g.F9,v.name.size<=maxLen
 ul:∀v∈g.F9,(kY v).length<=1000
 un:∀v∈g.F9,∀x∈kY v,x.size<=maxLen
 vl:Wq g.F9<=1000
def Fs(B:Nat)(F9:wy ay)(w:H7)(e:Ending)(w':H7):Prop:=∃bm A,e=S6 (.map (Vv bm))/\gQ B w' bm F9 A/\Below w.1.size w w'/\w.1.size<=bm
attribute [local go_sem] run_makeMap_plain
def AU{ok:LN}(g:af)(a:iX)(w:H7)(hr:ck aN 6 ok w [FG a.vp (Wq g.F9) a.vc] g.F9)(hu:uw g):Calls prog 166 #[Tk (Zg g a)] w (Fs w.1.size g.F9 w):=by
 have HG:=aa hr;have HU:=aa hu;have mb:=hu.vl;obtain⟨vp,vc,sT,aA,aB⟩:=hr.cap;clear hr hu;injection sT with e1 e2 e3;obtain⟨ID,ab,ag,G3,G4,Ge,Hb,Hc⟩:=a;dsimp only at e1 e2 e3;subst e1;subst e3;clear e2;have hA1:=ae w (Sx (Tap g ID ab ag G3 G4 Ge Hb Hc) 31);have hA2:=ae (w.alloc (Sx (Tap g ID ab ag G3 G4 Ge Hb Hc) 31)) (.map #[] 0);have US:=b9 w (Sx (Tap g ID ab ag G3 G4 Ge Hb Hc) 31);have a8:=bi.made prog 9 (w.alloc (Sx (Tap g ID ab ag G3 G4 Ge Hb Hc) 31));rw[cW]at a8;have ak:=aa ((hA2.block _ (aq US)).trans US);clear US;replace a8:=aa a8;have cU:=aa (hA1.trans (hA2.mono hA1.size));clear hA1 hA2;go_enter func166,ntmps166
 go_upto_region 2 with(fail);generalize RE:AI (AI w _) _=W1 at *;clear RE;have g7:=cr ak.o 7 _ lX;have a7:=aa (show gQ w.1.size W1 (w.1.size+1) (g.F9.take 0) [] from⟨a8.o.congr (fun key _ _=>by unfold rO;split<;>rfl),fun nm=>by simp[aM],fun p hp=>absurd hp XN,XN⟩);clear a8 ak;go_upto_region 3 with(fail);clear g7;go_loopw[12] (fun i wr=>∃k:Nat,k<=Wq g.F9/\i=Bm Sj k/\Below w.1.size w wr/\∃A,gQ w.1.size wr (w.1.size+1) (g.F9.take k) A) (fun i _=>Wq g.F9-(intOf i).toNat)
 exact⟨0,cg _,rfl,cU.o,_,a7.o⟩;clear cU a7;obtain⟨k,hk,rfl,hB,A,am⟩:=hrel;replace hB:=aa hB;have a7:=aa am;clear am;by_cases hlt:k<Wq g.F9
 ·obtain⟨v,hv⟩:=aj g.F9 k hlt;obtain⟨b,off,us,rfl,gR,cX,ez,eE,ao⟩:=HG.o.elem hv;have Zr:=ct hv;have au:=HU.o.vn v Zr;have av:=aa (HU.o.ul v Zr);have aw:=aa (HU.o.sz.vz v Zr);have XU:=aa eE;obtain⟨tv,sv,rfl,ew,gA⟩:=eE;obtain⟨tp,tc,rfl,_,_⟩:=ew.cap;obtain⟨sp,sc,rfl,_,_⟩:=gA.cap;have cT:wr.1[b]?=w.1[b]?:=hB.o.block b cX;have q0:=sw6 cT ao;replace hv:=aa hv;clear ao ez cT ew gA Zr;have hA:=ae wr (Sx (ZM v tp tc sp sc) 46);have zv:=aa (b9 wr (Sx (ZM v tp tc sp sc) 46));have cm:=YS hB hA;have a9:=aa (a7.o.below hA);clear hA;go_upto_region 5 with(fail);clear q0;generalize ay:AI wr _=W2 at *;generalize aC:wr.1.size=Bv at *;clear ay hB a7;have v0:=cr zv.o 0 _ lX;obtain⟨lp,lc,hl1,-,-⟩:=a9.o.look v.name au;cases hfs:(aM (g.F9.take k) v.name).isSome with
  |true =>
   rw[hfs]at hl1;have RG:=aa (a9.o.skip hv.o hfs);have YC:=aa hfs;clear hfs;go_wp2;go_roundw;exact⟨k+1,WQ,Zf,cm.o,_,RG.o⟩;exact Ti
  |false =>
   rw[hfs]at hl1;have YC:=aa hfs;clear hfs;go_upto_region 7 with(fail);clear hl1 v0;have hS:∀w':H7,Below W2.1.size W2 w'->(w'.cell? Bv=Vv (By v.name)/\w'.cell? (XM Bv 1)=Vv (Bm U8 v.id)/\w'.cell? (XM Bv 2)=Vv (Ft v.hidden)/\w'.cell? (XM Bv 3)=Vv (Ft v.ro)/\w'.cell? (XM Bv 4)=Vv (FG tp (Wq v.tags) tc)/\w'.cell? (XM Bv 5)=Vv (FG sp (Wq v.Gf) sc)):=fun w' e=>by
    have h2:=(e.block Bv (aq zv.o)).trans zv.o;exact⟨cr h2 _ _ lX,cr h2 _ _ lX,cr h2 _ _ lX,cr h2 _ _ lX,cr h2 _ _ lX,cr h2 _ _ lX⟩
   replace hS:=aa hS;refine gW (fun w'=>w'.cell? Bv=Vv (By v.name)/\w'.cell? (XM Bv 1)=Vv (Bm U8 v.id)/\w'.cell? (XM Bv 2)=Vv (Ft v.hidden)/\w'.cell? (XM Bv 3)=Vv (Ft v.ro)/\w'.cell? (XM Bv 4)=Vv (FG tp (Wq v.tags) tc)/\w'.cell? (XM Bv 5)=Vv (FG sp (Wq v.Gf) sc)) 5 [] Yp (hS.o _ (bj W2.1.size W2).drew) (fun a5=>?_);refine fS 0 a5 ?_;refine fS 1 a5 ?_;refine fS 2 a5 ?_;refine fS 3 a5 ?_;refine lR 4 fun K hK=>?_;go_simp;refine(BH (ok:=ok) v (aN.moves.mv (Mv.of (cm.o.trans ((bj W2.1.size W2).drew.mono cm.o.size))) XU.o) aw.o (by have:=av.o;omega)).mono ?_;rintro e w3 ⟨uv,rfl,ah,hb3⟩;have cJ:Hid (Below W2.1.size W2 w3):=aa ⟨hb3.os,hb3.tape,hb3.output,hb3.size,hb3.block⟩;have V6:Hid (ck aF 1 (fun b=>w.1.size<=b) w3 [uv] (kY v)):=aa (ah.rd fun b e=>cA cm.o.size (fh ah b e).1);clear ah hb3;refine hK.o _ _ (hS.o _ cJ.o) ?_;clear hK K a5 hS;refine aP Yp lX ?_;simp only[cQ,cL];have On:A.length<=1000:=by have:=a9.o.le;rw[ey]at this;omega
   obtain⟨w',hst,hm',ai,az⟩:=bi.store (a9.o.below cJ.o).map oM underlying212 (rr On YR) (gG v.name au) uv;have TK:=aa ((a9.o.below cJ.o).snoc hv.o YC.o V6.o hm' ai);have eI:Hid (Below w.1.size w w'):=aa ((cm.o.trans (cJ.o.mono cm.o.size)).trans ((cR.grown ai).below (B:=w.1.size) (cA cm.o.size cJ.o.size) (fun q e=>by omega)));clear hm' ai az;go_wp2;go_roundw;exact⟨k+1,WQ,Zf,eI.o,_,TK.o⟩;exact Ti
 obtain rfl:k=Wq g.F9:=by omega
 rw[cI]at a7;go_wp2;go_ret;exact⟨_,_,rfl,a7.o,hB.o,WQ⟩
end
section
variable {B b2 n:Nat}{k:TypeId}{f:zY->Option zY}{w w':H7}{l:QN}{g:af}
def cR.belowAt{F:LN}{a b c:H7}(h:cR F a b)(hb:Below a.1.size b c):cR F a c :=
 ⟨hb.os.trans h.os,hb.tape.trans h.tape,hb.output.trans h.output,cA h.size hb.size,fun k hk hF=>(hb.block k hk).trans (h.block k hk hF)⟩
def Eg(hy:ck aF 1 (fun b=>B<=b) w [y] l)(hm:cR (fun b=>b=b2) w w')(hb:bi prog k w b2 n f):ck aF 1 (fun b=>B<=b) w' [y] l:=by
 obtain⟨p,c,e,h1,h2,h3⟩:=hy;refine⟨p,c,e,h1,h2,fun h0=>?_⟩;obtain⟨b,off,e2,hlt,gw,hc⟩:=h3 h0;have Hh:w'.1[b]?=w.1[b]?:=by
  refine hm.block b hlt ?_;rintro rfl;obtain⟨x0,a8⟩:=aj l 0 h0;obtain⟨us,ez,eE,a5⟩:=hc 0 x0 a8;obtain rfl:us=_:=eE;have:=a5 0 _ lX;obtain⟨D,⟨es,a7,e,_⟩,_⟩:=hb;simp[AN,e]at this
 exact⟨b,off,e2,cC hlt hm.size,gw,fun i x hx=>by
  obtain⟨us,ez,eE,a5⟩:=hc i x hx;exact⟨us,ez,eE,fun j z hz=>(cd (a:=⟨b,_,VX⟩) Hh).trans (a5 j z hz)⟩⟩
def gQ.mod{A:wy (ay × zY)}(h:gQ B w bm F9 A)(hm:cR (fun b=>b=b2) w w')(hb:bi prog k w b2 n f)(hne:bm≠b2):gQ B w' bm F9 A :=
 ⟨h.map.block (hm.block _ h.map.lt hne),h.fd,fun p hp=>Eg (h.rd p hp) hm hb,h.le⟩
def ww{ok:LN}:∀(l:QN) (cs:RH),Flat aF 1 ok w cs l->cs=l.map By
 |[],cs,h=>h
 |x :: l,cs,⟨u,r,e,_,hv,_,hr⟩=>by
  obtain rfl:u=[By x]:=hv;rw[e,ww l r hr];rfl
def yG{ok:LN}(l:QN)(w:H7)(hr:ck aF 1 ok w [v] l)(On:l.length<=1000000):Calls prog 126 #[v] w (Dx w.1.size w l):=by
 by_cases h0:0<l.length
 ·obtain⟨i0,hi,du,R0,RC⟩:=gg CJ;obtain⟨p,cap,e,a9,ij,hp⟩:=hr;obtain rfl:=IF.1 e;obtain⟨b,off,rfl,cX,gR,hc⟩:=hp h0;obtain⟨cs,hf,a7⟩:=jy (fun u x h y hy=>by obtain rfl:u=_:=h;obtain rfl:=AM.1 hy;rfl) l off hc;have hl:=Flat.length l cs hf;have ab:l.length*16<=1000000*16:=ue On (bk _);refine(AnyE.slices_Clone Tryz.cloneS i0 _ 1 16 hi du R0 RC lX YR Tryz.sizeOf9 b off l.length cap cs w hl Tdh WQ a7 (qZ l cs hf)).mono ?_;rintro e w' ⟨v',rfl,ho,_,a8⟩;refine⟨v',rfl,?_,a8⟩;unfold dF;rw[<- ww l cs hf];exact ho
 obtain⟨p,c,rfl,a5⟩:=vB hr h0 (fun b=>ok b\/w.1.size<=b) w;clear hr;replace a5:=aa a5;have HN:Hid (l=[]):=aa (fX WQ);clear h0 On;cases p with
 |none =>
  refine(AnyE.slices_Clone_nil Tryz.cloneS _ _ w).mono ?_;rintro e w' ⟨rfl,rfl⟩;exact⟨_,rfl,by rw[HN.o];exact dF.nil _ _,bj _ _⟩
 |some a =>
  have ae:∀(w:H7) (a:IH) (n c n' c':Nat),(binOp .eql 26 (FG a n c) (FG VX n' c')).run prog w=.ok (Ft a.isNone) w:=fun w a n c n' c'=>Cl w _ _ a n c n' c' underlying26;go_enter func126,ntmps126;go_wp2;go_ret;exact⟨FG (Vv ⟨w.1.size,0,VX⟩) 0 0,rfl,by rw[HN.o];exact⟨rfl,.inr ⟨w.1.size,0,#[],rfl,bk _,b9 w _,bk _,Tdh,rfl,rfl⟩⟩,(RowKit.Below.refl _ _).alloc (bk _) _⟩
def dF.last(h:dF w B v (l++[x])) :
  ∃g cap,v=FG (Vv ⟨g,0,VX⟩) (l.length+1) cap/\l.length+1<=cap/\cap<=9223372036854775807/\w.cell? ⟨g,l.length,VX⟩=Vv (By x)/\dF w B (FG (Vv ⟨g,0,VX⟩) l.length cap) l:=by
 have h':w.ownsRow B 9 1 v (l.length+1) (l.map By++[By x]):=by
  unfold dF at h;rw[cD,gl]at h;exact h
 obtain⟨g,cap,hv,hB,hlt⟩:=h'.form WQ;subst hv;have hc:=h'.cells (g:=g) lX l.length (By x) (by rw[Cp XN];simp);rw[iz,eJ]at hc;have ij:l.length+1<=cap/\cap<=maxLen:=by
  rcases h'.2 with⟨e,_⟩|⟨g',a5,a7,e,_,_,h1,h2,_⟩
  ·cases e
  cases e
  exact⟨h1,h2⟩
 unfold maxLen at ij;exact⟨g,cap,rfl,ij.1,ij.2,hc,ownsRow_pop XN h'⟩
def I1(hu:uw g)(nm:H6):((dU g.F9 nm).getD []).length<=1000:=by
 unfold dU;cases hf:aM g.F9 nm with
 |none=>simp
 |some v=>exact hu.ul v (eV hf)
def rW(hu:uw g)(nm:H6):∀x∈(dU g.F9 nm).getD [],x.size<=maxLen:=by
 unfold dU;cases hf:aM g.F9 nm with
 |none=>simp
 |some v=>exact hu.un v (eV hf)
def ET(F9:wy ay)(nm:H6)(w:H7)(e:Ending)(w':H7):Prop:=∃bm met,e=S6 (.map (Vv bm))/\bi prog 9 w' bm met.length (oN met)/\(∀x,x∈met↔Reach (dU F9) ((dU F9 nm).getD []) x)/\met.length<=1000/\Below w.1.size w w'/\w.1.size<=bm
attribute [local go_sem] run_makeMap_plain
def Te2(h:gt:=by have:=lw (g.F9.map (·.name)) 1000 met init x;have:=TJ.o;omega):=h
def AY{ok:LN}(g:af)(a:iX)(nm:H6)(w:H7)(hr:ck aN 6 ok w [FG a.vp (Wq g.F9) a.vc] g.F9)(hu:uw g)(pD:nm.size<=maxLen):Calls prog 134 #[Tk (Zg g a),By nm] w (ET g.F9 nm w):=by
 replace hr:=aa hr;replace hu:=aa hu;have cU:=aa (ae w (Sx (Zg g a) 31));have US:=b9 w (Sx (Zg g a) 31);have gL:=cr US;go_enter func134,ntmps134
 go_upto_region 1 with(fail);generalize RE:AI w _=W1 at *;have g0:=xr gL;clear gL US RE;go_wp2_with fail;clear g0;refine(AU (ok:=ok) g a W1 ((ck.moves aN.moves).mv (Mv.of cU.o) hr.o) hu.o).mono ?_;rintro e w2 ⟨bl,A,rfl,a8,hb2,hbl⟩;replace a8:=aa a8;have cm:=YS cU hb2;clear hb2 hbl cU;have hA:=ae w2 (.map #[] 0);have HM:=aa (bi.made prog 9 w2);have ao:=aa (a8.o.below hA);have cJ:=YS cm hA;have hlt:=a8.o.map.lt;have mA:=cm.o.size;clear hA a8 cm;go_upto_region 3 with(fail);generalize az:AI w2 _=W3 at *;generalize Hv:w2.1.size=bm at *;clear az;obtain⟨p0,c0,-,aq,hr0⟩:=ao.o.look nm pD;replace hr0:=aa hr0;have a9:=I1 hu.o nm;have my:=aa (rW hu.o nm);generalize hl0:(dU g.F9 nm).getD []=l0 at *;replace hl0:=aa hl0;go_wp2_with fail;clear aq;refine(yG l0 W3 hr0.o WQ).mono ?_;rintro e w4 ⟨aF,rfl,ab,ai⟩;have sq:Hid (cR (fun b=>b=bm) W3 w4):=aa (cR.of_below ai);have HOW:=aa ab;clear ab;have Ql:=aa (HM.o.block (ai.block bm HM.o.lt));clear ai;have UN:Hid (nX (dU g.F9) l0 [] l0):=aa nX.start;have au:nK (g.F9.map (·.name)) 1000 [] l0<=1002000:=by
  have h1:=Ae (g.F9.map (·.name)) [];rw[fW]at h1;have h2:=hu.o.vl;have h3:(BG (g.F9.map (·.name)) [])*1001<=1000*1001:=tA _ WQ;unfold nK;unfold BG at h3;omega
 have tj:Hid (bi prog 9 w4 bm 0 (oN [])):=aa (Ql.o.congr fun key _ _=>by unfold oN;split<;>rfl);clear Ql;go_upto_region 4 with(fail);go_loopg [7] (nK (g.F9.map (·.name)) 1000 [] l0) (fun gk td wr=>∃met a5:QN,dF wr W3.1.size td a5/\cR (fun b=>b=bm) W3 wr/\bi prog 9 wr bm met.length (oN met)/\nX (dU g.F9) l0 met a5/\nK (g.F9.map (·.name)) 1000 met a5<=gk/\gk<=1002000/\met.length+BG (g.F9.map (·.name)) met<=1000/\∀x∈a5,x.size<=maxLen)
 exact⟨[],l0,HOW.o,sq.o,tj.o,UN.o,bk _,au,by have:=Ae (g.F9.map (·.name)) [];have:=hu.o.vl;rw[fW]at *;simp only[ux];omega,my.o⟩;clear HOW sq tj UN au my a9;obtain⟨met,a5,ab,Gk,C4,YD,av,aG,QM,zc⟩:=hrel;have HOW:=aa ab;clear ab;have sq:=aa Gk;clear Gk;have tj:=aa C4;clear C4;have UN:=aa YD;clear YD;have TJ:=aa av;clear av;replace QM:=aa QM;replace zc:=aa zc;have fy:Hid (Below w.1.size w wr):=aa (cJ.o.trans (sq.o.below cJ.o.size (fun b e=>by omega)));have YE:=HM.o.lt;rcases List.eq_nil_or_concat a5 with htn|⟨init,x,htn⟩
 ·subst htn;obtain⟨tp,tc,e,_,_⟩:=(HOW.o.rd (ok:=fun _=>True) (fun _ _=>trivial)).cap;subst e;go_wp2;go_ret;exact⟨bm,met,rfl,tj.o,by rw[hl0.o];exact UN.o.done,by have:=QM.o;omega,fy.o,WQ⟩
 rw[List.concat_eq_append]at htn;subst htn;obtain⟨gb,cap,e,aH,aI,aw,RI⟩:=HOW.o.last;subst e;have aJ:init.length<=1002000:=by
  have:=TJ.o;unfold nK at this;rw[cD]at this;omega
 replace RI:=aa RI;have hxs:=zc.o x XN;have aj:=aa (ao.o.mod sq.o HM.o WQ);obtain⟨lp,lc,hl1,-,-⟩:=aj.o.look x hxs;have ag:=(bi.look tj.o oM underlying110 (wY wr) (key:=By x) (gG x hxs)).1;rw[xk]at ag;have Uk:Hid ((dU g.F9 x).isSome=(aM g.F9 x).isSome):=aa (by unfold dU;simp);clear HOW;cases hf:(aM g.F9 x).isSome with
 |false =>
  rw[hf]at hl1 Uk;have HF:=aa hf;clear hf ag;have RG:=aa (UN.o.skip (.inl Uk.o));go_wp2;go_roundg (nK (g.F9.map (·.name)) 1000 met init)
  case measure=>exact cC (lw _ _ _ _ _) TJ.o
  exact⟨met,init,RI.o,sq.o,tj.o,RG.o,bk _,Te2,QM.o,fun y hy=>zc.o y (ju _ hy)⟩
 |true =>
  rw[hf]at hl1 Uk;cases hh:bI met x with
  |true =>
   rw[hh]at ag;have HF:=aa hf;clear hf;have RG:=aa (UN.o.skip (.inr (ny.1 hh)));have HH:=aa hh;clear hh;go_wp2;go_roundg (nK (g.F9.map (·.name)) 1000 met init)
   case measure=>exact cC (lw _ _ _ _ _) TJ.o
   exact⟨met,init,RI.o,sq.o,tj.o,RG.o,bk _,Te2,QM.o,fun y hy=>zc.o y (ju _ hy)⟩
  |false =>
   rw[hh]at ag;have ak:x∈g.F9.map (·.name):=by
    obtain⟨v,hv⟩:=Ly.1 hf;exact As.2 ⟨v,eV hv,by simpa using List.find?_some hv⟩
   have ay:dU g.F9 x=Vv ((dU g.F9 x).getD []):=by
    obtain⟨l,hl⟩:=Ly.1 Uk.o;rw[hl];rfl
   have am:=zz0.1 hh;have Pr:=aa (UN.o.more ay);have hll:=I1 hu.o x;have aA:=aa (rW hu.o x);have YF:=aa (Ap (g.F9.map (·.name)) 1000 met init ((dU g.F9 x).getD []) x ak am hll);have aB:=aa (Bn (g.F9.map (·.name)) met x ak am);clear ak ay am;have HF:=aa hf;clear hf;have HH:=aa hh;clear hh;obtain⟨w',hst,hm',ah,aC⟩:=bi.store tj.o oM underlying110 (by have:=QM.o;unfold maxLen;omega) (key:=By x) (gG x hxs) (Ft VR);obtain⟨qp,qc,-,aq,T9⟩:=(aj.o.mod (cR.grown ah) tj.o WQ).look x hxs;replace T9:=aa T9;have RJ:Hid (dF w' W3.1.size (FG (Vv gb) init.length cap) init):=aa (RI.o.blk fun k e=>oJ ah (fh RI.o k e).2 (by have:=(fh RI.o k e).1;omega));have LO:=aa (sq.o.trans (cR.grown ah) (fun i e=>.inl e));have aD:Hid (bi prog 9 w' bm (met.length+1) (oN (met++[x]))):=aa (hm'.congr fun key _ _=>uH met x key);have aK:=LO.o.size;clear hm' ah aC aj;generalize YG:(dU g.F9 x).getD []=lx at *;replace YG:=aa YG;go_wp2_with(at_builtin;refine mW (ok:=fun b=>W1.1.size<=b) lX lX W3.1.size _ init lx lX ?c1 qp qc lX ?c2 ?c3 ?c4 ?_)
   case c1=>exact RJ.o
   case c2=>exact T9.o
   case c3=>omega
   intro v' w5 a7 hb5 _;replace a7:=aa a7;have We:=aa (LO.o.belowAt hb5);have aE:=aa (aD.o.block (hb5.block bm (by have:=HM.o.lt;omega)));clear hb5;go_wp2;go_roundg (nK (g.F9.map (·.name)) 1000 (met++[x]) (init++lx))
   case measure=>exact cC YF.o TJ.o
   exact⟨met++[x],init++lx,a7.o,We.o,by rw[cD];exact aE.o,Pr.o,bk _,by have:=YF.o;have:=TJ.o;omega,by have:=aB.o;have:=QM.o;rw[cD];simp only[cS,ux];omega,fun y hy=>by
    rcases AS.1 hy with hy|hy
    ·exact zc.o y (ju _ hy)
    exact aA.o y hy⟩
end
section
variable {l:wy aB}{k:Nat}{s:aB}{g:af}
def Tca(h:gt:=by
 ·obtain rfl:k=l.length:=by omega
  rw[cI]at cE;go_wp2;go_ret;exact⟨⟨-1,rfl,by rw[cE.o];rfl⟩,rfl⟩):=h
def Tc1(h:gt:=by
 go_wp2;go_round;exact⟨k+1,WQ,Zf,HR.o⟩;exact Ti):=h
def yo{ok:LN}(l:QN)(x:H6)(v:zY)(w:H7)(h:ck aF 1 ok w [v] l)(hl:l.length<=1000000):Calls prog 167 #[v,By x] w fun e w'=>(∃r:Int,e=S6 (Bm Sj r)/\V7 (0<=r)=bI l x)/\w=w':=by
 obtain⟨p,cap,rfl,a9,ab⟩:=h.cap;have HH:=aa h;clear h;go_enter func167,ntmps167;go_wp2
 go_loop[8,5] (fun i _=>∃k:Nat,k<=l.length/\i=Bm Sj k/\bI (l.take k) x=VN) (fun i _=>l.length-(intOf i).toNat)
 exact⟨0,cg _,rfl,rfl⟩;obtain⟨k,hk,rfl,hall⟩:=hrel;have cE:=aa hall;clear hall;by_cases hlt:k<l.length
 ·obtain⟨y,hy⟩:=aj l k hlt;obtain⟨b,off,us,rfl,gR,cX,ez,eE,a5⟩:=HH.o.elem hy;obtain rfl:us=_:=eE;have q0:=a5 0 _ lX;rw[fp,fg]at q0;have a7:Hid (bI (l.take (k+1)) x=V7 (y=x)):=aa (by rw[take_snoc' l k y hy,fU,cE.o,nj]);have AE:Hid (y=x->bI l x=VR):=aa fun h=>ny.2 (h ▸ ct hy);clear hy cE a5 ez
  by_cases hyx:y=x
  ·have hb:(x.toList==y.toList)=VR:=by rw[hyx];simp
   have HR:=aa (AE.o hyx);have a8:=aa hyx;clear hyx;go_wp2;go_ret;exact⟨⟨k,rfl,by rw[HR.o];simp⟩,rfl⟩
  have hb:(x.toList==y.toList)=VN:=by
   rw[Bool.eq_false_iff];intro e;rw[A6,A6]at e;have e2:x.data.toList=y.data.toList:=by simpa using e
   exact hyx (by rw[bytes_eta y,bytes_eta x,e2])
  have HR:=aa (a7.o.trans (cN hyx));have a8:=aa hyx;clear hyx;exact Tc1
 exact Tca
def Tcg(h:gt:=by
 rintro e w2 ⟨⟨r,rfl,hr2⟩,rfl⟩;have HR:=aa hr2;clear hr2;go_wp2;go_ret;exact⟨ah HR.o,rfl⟩):=h
def eT{ok:LN}(l:QN)(x:H6)(w:H7)(h:ck aF 1 ok w [v] l)(hl:l.length<=1000000):Calls prog 137 #[v,By x] w fun e w'=>e=S6 (Ft (bI l x))/\w=w':=by
 go_enter func137,ntmps137
 go_wp2_with fail;refine(yo l x v w h hl).mono ?_;exact Tcg
def zt(x:H6)(Bx bm n:Nat)(met:QN)(w:H7)(hx:w.cell? Bx=Vv (.map (Vv bm)))(hm:bi prog 9 w bm n (oN met))(hs:x.size<=maxLen):Calls prog 136 #[By x,SL (Vv Bx)] w fun e w'=>e=S6 (Ft (bI met x))/\w=w':=by
 have a5:=(bi.look hm oM underlying110 (wY w) (key:=By x) (gG x hs)).1;rw[xk]at a5;clear hm;go_enter func136,ntmps136;go_wp2;go_ret;exact⟨rfl,rfl⟩
def TeS(h:gt:=by rw[sY.o];exact HOW4.o):=h
def Tem(h:gt:=by rw[sY.o];exact HOW2.o):=h
def Dw{ok:LN}(g:af)(a:iX)(Bx bm:Nat)(met:QN)(w:H7)(hr:ck aN 6 ok w [FG a.vp (Wq g.F9) a.vc] g.F9)(hu:uw g)(hx:w.cell? Bx=Vv (.map (Vv bm)))(PX:Bx<w.1.size)(hm:bi prog 9 w bm n (oN met)):Calls prog 135 #[Tk (Zg g a),.func (.func 136) #[] #[Bx]] w (Dx w.1.size w (gD ay.name (bI met) g.F9)):=by
 have HG:=aa hr;have HU:=aa hu;replace hm:=aa hm;replace hx:=aa hx;have mb:=hu.vl;obtain⟨vp,vc,sT,aq,au⟩:=hr.cap;clear hr hu;injection sT with e1 e2 e3;obtain⟨ID,a9,ab,G3,G4,Ge,Hb,Hc⟩:=a;dsimp only at e1 e2 e3;subst e1;subst e3;clear e2;have HB:=aa (ae w (Sx (Tap g ID a9 ab G3 G4 Ge Hb Hc) 31));have g7:(w.alloc (Sx (Tap g ID a9 ab G3 G4 Ge Hb Hc) 31)).cell? (XM w.1.size 7)=Vv (FG G4 (Wq g.F9) Ge):=aD lX rfl;go_enter func135,ntmps135
 go_upto_region 3 with(fail);generalize RE:AI w _=W1 at *;clear RE g7;go_loopw[5,11] (fun l i wr=>∃k:Nat,k<=Wq g.F9/\i=Bm Sj k/\dF wr w.1.size l (gD ay.name (bI met) (g.F9.take k))/\Below w.1.size w wr) (fun _ i _=>Wq g.F9-(intOf i).toNat)
 exact⟨0,cg _,rfl,dF.nil _ _,HB.o⟩;clear HB;obtain⟨k,hk,rfl,a5,hB⟩:=hrel;replace a5:=aa a5;have HB:=aa hB;clear hB;have ak:=lq ay.name (bI met) (g.F9.take k);rw[ey]at ak;by_cases hlt:k<Wq g.F9
 ·obtain⟨v,hv⟩:=aj g.F9 k hlt;obtain⟨b,off,us,rfl,gR,cX,ez,eE,ag⟩:=HG.o.elem hv;have am:=HU.o.vn v (ct hv);obtain⟨tv,sv,rfl,ew,gA⟩:=eE;obtain⟨tp,tc,rfl,_,_⟩:=ew.cap;obtain⟨sp,sc,rfl,_,_⟩:=gA.cap;have cT:wr.1[b]?=w.1[b]?:=HB.o.block b cX;have q0:=sw6 cT ag;have sY:=aa (rJ ay.name (bI met) hv);clear hv ag ez cT ew gA;have hA:=ae wr (Sx (ZM v tp tc sp sc) 46);have zv:=aa (b9 wr (Sx (ZM v tp tc sp sc) 46));have cm:=YS HB hA;have HOW2:=aa (a5.o.below hA);clear hA;go_upto_region 5 with(fail);clear q0;generalize ao:AI wr _=W2 at *;generalize av:wr.1.size=Bv at *;clear ao HB a5;have v0:=cr zv.o 0 _ lX;have mA:=cm.o.size;have a7:=aa (zt v.name Bx bm n met W2 ((cm.o.cell (p:=Bx) PX).trans hx.o) (hm.o.block (cm.o.block bm hm.o.lt)) am);obtain⟨lp,lc,e,_,_⟩:=(HOW2.o.rd (ok:=fun _=>True) (fun _ _=>trivial)).cap;subst e;have a8:=aa (eT (ok:=fun _=>True) _ v.name W2 (HOW2.o.rd (ok:=fun _=>True) (fun _ _=>trivial)) WQ);generalize ah:gD ay.name (bI met) (g.F9.take k)=pl at *;replace ah:=aa ah;cases hh:bI met v.name with
  |false =>
   rw[hh]at a7 sY;rw[Bool.false_and,bh XN]at sY;have HH:=aa hh;clear hh;clear a8;go_wp2_with(refine a7.o.mono ?_;rintro e w3 ⟨rfl,rfl⟩)
   go_roundw;exact⟨k+1,WQ,Zf,Tem,cm.o⟩;exact Ti
  |true =>
   rw[hh]at a7 sY;rw[Bool.true_and]at sY;have HH:=aa hh;clear hh;cases hc:bI pl v.name with
   |true =>
    rw[hc]at a8 sY;rw[bh XN]at sY;have HC:=aa hc;clear hc;go_wp2_with(first|(refine a7.o.mono ?_;rintro e w3 ⟨rfl,rfl⟩)|(refine a8.o.mono ?_;rintro e w3 ⟨rfl,rfl⟩))
    go_roundw;exact⟨k+1,WQ,Zf,Tem,cm.o⟩;exact Ti
   |false =>
    rw[hc]at a8 sY;rw[aw XN]at sY;have HC:=aa hc;clear hc;go_wp2_with(first|(refine a7.o.mono ?_;rintro e w3 ⟨rfl,rfl⟩)|(refine a8.o.mono ?_;rintro e w3 ⟨rfl,rfl⟩)|(at_builtin;refine dz lX _ _ lX w.1.size _ pl v.name lX ?c1 W2.1.size 1 lX ?c2 ?c3 ?c4 ?_))
    case c1=>exact HOW2.o.alloc _
    case c2=>exact aD lX rfl
    case c3=>omega
    case c4=>simp;omega
    intro v' w1 Of ai _;have eI:=aa ((cm.o.alloc mA _).trans ai);have HOW4:=aa Of;clear ai Of;go_wp2;go_roundw;exact⟨k+1,WQ,Zf,TeS,eI.o⟩;exact Ti
 obtain rfl:k=Wq g.F9:=by omega
 rw[cI]at a5;go_wp2;go_ret;exact⟨_,rfl,a5.o,HB.o⟩
def onB(AL:wy aR)(d:H6):Bool:=AL.any fun a=>V7 (a.on=d)&&!a.vol
def onF(AL:wy aR):zY->Option zY
 |.string s=>if(AL.any fun a=>V7 (a.on=s))=VR then Vv (Ft (onB AL s)) else VX
 |_=>VX
def Al(AL:wy aR)(s:H6):(onF AL (By s)).getD (Ft VN)=Ft (onB AL s):=by
 show(if(AL.any fun a=>V7 (a.on=s))=VR then Vv (Ft (onB AL s)) else VX).getD (Ft VN)=_;by_cases h:(AL.any fun a=>V7 (a.on=s))=VR
 ·rw[aw h];rfl
 rw[bh h];have:onB AL s=VN:=by
  unfold onB;rw[IS];intro a ha e;simp only[eh]at e;exact h (GP.2 ⟨a,ha,e.1⟩)
 rw[this];rfl
def wZ(AL:wy aR)(a:aR)(s:H6):onB (AL++[a]) s=(onB AL s||(V7 (a.on=s)&&!a.vol)):=by
 unfold onB;rw[rj];simp
def DJ(a:aR)(key:zY):onF (AL++[a]) key=upd (onF AL) (By a.on) (Ft (onB AL a.on||!a.vol)) key:=by
 by_cases h:key=By a.on
 ·subst h;rw[upd_same];simp[onF,wZ]
 rw[bP h];unfold onF;split
 ·rename_i s;have:¬a.on=s:=fun e=>h TdN;rw[wZ,rj];simp[this]
 rfl
def jK(l:wy aB):wy aR:=l.flatMap (·.Ga)
def dB(F9:wy ay)(P:QN):wy aR:=P.flatMap fun x=>jK ((aM F9 x).getD eY).Gf
def o9(h:l[k]?=Vv s):jK (l.take (k+1))=jK (l.take k)++s.Ga:=by
 rw[take_snoc' l k s h];simp[jK]
def A8(h:l[k]?=Vv s):(jK (l.take k)).length+Wq s.Ga<=(jK l).length:=by
 have:(jK l).length=(jK (l.take (k+1))).length+(jK (l.drop (k+1))).length:=by
  conv=>lhs;rw[<- rk (k+1) l]
  unfold jK;rw[xt,cD]
 rw[this,o9 h,cD];omega
def xN(F9:wy ay){l:QN}(h:l[k]?=Vv x):dB F9 (l.take (k+1))=dB F9 (l.take k)++jK ((aM F9 x).getD eY).Gf:=by
 rw[take_snoc' l k x h];simp[dB]
def FI(F9:wy ay)(d:H6):onB (dB F9 P) d=P.any (XZ F9 d):=by
 unfold onB dB;rw[List.any_flatMap];congr 1
 funext x
 unfold XZ jK;rw[List.any_flatMap];rfl
structure rT(g:af):Prop where
 us:uw g
 dn:∀d∈g.Gb,d.name.size<=maxLen
 dl:Wq g.Gb<=1000
 ar:∀v∈g.F9,(jK v.Gf).length<=1000
 an:∀v∈g.F9,∀s∈v.Gf,∀a∈s.Ga,a.on.size<=maxLen
def rV(h:rT g)(x:H6):(jK ((aM g.F9 x).getD eY).Gf).length<=1000:=by
 cases hf:aM g.F9 x with
 |none=>simp[eY,jK]
 |some v=>exact h.ar v (eV hf)
def rX(h:rT g):∀P:QN,(dB g.F9 P).length<=1000*P.length
 |[]=>by simp[dB]
 |x :: P=>by
  have h1:=rV h x;have h2:=rX h P;unfold dB at h2 ⊢;rw[lB,cD,cS];omega
def Kc(h:rT g)(x:H6):∀s∈((aM g.F9 x).getD eY).Gf,∀a∈s.Ga,a.on.size<=maxLen:=by
 cases hf:aM g.F9 x with
 |none=>simp[eY]
 |some v=>exact h.an v (eV hf)
open Classical in
def Cx(h:∀x,x∈met↔Reach (dU F9) ((dU F9 nm).getD []) x)(x:H6):bI (met++[nm]) x=Fj F9 nm x:=by
 unfold Fj;rw[mN,ny,fk,oT,AM,h x];exact Or.comm
def o8{nm:α->H6}{p q:H6->Bool}(h:∀x,p x=q x){l:wy α}:gD nm p l=gD nm q l:=by
 rw[show p=q from funext h]
attribute [local go_sem] run_makeMap_plain
theorem Cf{ok:LN}(g:af)(a:iX)(nm:H6)(w:H7)(hr:ck aN 6 ok w [FG a.vp (Wq g.F9) a.vc] g.F9)(hd:ck aO 7 ok w [FG a.dp (Wq g.Gb) a.dc] g.Gb)(hz:rT g)(pD:nm.size<=maxLen):Calls prog 87 #[Tk (Zg g a),By nm] w (Dx w.1.size w (sP g nm)):=by
 replace hr:=aa hr;have HD:=aa hd;have HZ:=aa hz;have CD:=hz.dl;clear hz;obtain⟨dp,dc,RM,Wf,Wh⟩:=hd.cap;clear hd;have aB:Wq g.Gb<=a.dc/\a.dc<=9223372036854775807:=by
  injection RM with e1 e2 e3;omega
 clear RM Wf Wh dp dc;have hA1:=ae w (Sx (Zg g a) 31);replace hA1:=aa hA1;have CN:=aa (b9 w (Sx (Zg g a) 31));have gL:=cr CN.o;go_enter func87,ntmps87
 go_upto_region 1 with(fail);generalize RE:AI w _=W1 at *;obtain⟨g0,g1,g2,g3,g4,g5,g6,g7,g8⟩:=xr gL;clear gL RE;go_wp2_with fail;clear g0 g1 g2 g3 g4 g5 g6 g7 g8;refine(AY (ok:=ok) g a nm W1 ((ck.moves aN.moves).mv (Mv.of hA1.o) hr.o) HZ.o.us pD).mono ?_;rintro e w2 ⟨bm,met,rfl,C4,ak,bF,hb2,Hv⟩;replace ak:=aa ak;have tj:=aa C4;clear C4;have cm:=YS hA1 hb2;have pH:=Zl hb2 CN;have bG:=aq CN.o;clear hb2 hA1 CN;have hA:=ae w2 (Sx #[.map (Vv bm)] 110);have Ul:=aa (b9 w2 (Sx #[.map (Vv bm)] 110));have LR:=aa (tj.o.block (hA.block _ tj.o.lt));have cJ:=YS cm hA;have LS:=Zl hA pH;have bH:=cm.o.size;have bJ:=tj.o.lt;clear hA tj pH cm;go_upto_region 2 with(fail);generalize ba:AI w2 _=W3 at *;generalize hBx:w2.1.size=Bx at *;clear ba;have x0:=cr Ul.o 0 _ lX;obtain⟨w4,hst,hm',a7,aT⟩:=bi.store LR.o oM underlying110 Tdh (key:=By nm) (gG nm pD) (Ft VR);have Pu:Hid (bi prog 9 w4 bm (met.length+1) (oN (met++[nm]))):=aa (hm'.congr fun key _ _=>uH met nm key);have eI:Hid (Below w.1.size w w4):=aa (cJ.o.trans ((cR.grown a7).below (B:=w.1.size) cJ.o.size (fun q e=>by omega)));have aU:=aa (((cR.grown a7).block Bx (aq Ul.o) WQ).trans Ul.o);have aC:=aa (((cR.grown a7).block w.1.size (aq LS.o) WQ).trans LS.o);clear hm' a7 aT LR Ul LS cJ;go_upto_region 3 with(fail);clear hst x0;have hA:=ae w4 (.map #[] 0);have Pr:=aa (bi.made prog 9 w4);have aV:=aa (Pu.o.block (hA.block _ Pu.o.lt));have eK:=YS eI hA;have aE:=Zl hA aU;have aG:=Zl hA aC;have hbz:=aq aC.o;clear hA Pu aU aC eI;go_upto_region 4 with(fail);generalize bd:AI w4 _=W5 at *;generalize hbo:w4.1.size=bo at *;clear bd;obtain⟨g0,g1,g2,g3,g4,g5,g6,g7,g8⟩:=xr (cr aG.o);go_wp2_with fail;clear g0 g1 g2 g3 g4 g5 g6 g7 g8;refine(Dw (ok:=ok) g a Bx bm (met++[nm]) W5 ((ck.moves aN.moves).mv (Mv.of eK.o) hr.o) HZ.o.us (by simp[AN,aE.o]) (aq aE.o) aV.o).mono ?_;rintro e w6 ⟨pv,rfl,am,sh⟩;have HPE:Hid (gD ay.name (bI (met++[nm])) g.F9=mR g.F9 nm):=aa (o8 (Cx ak.o));rw[HPE.o]at am;have bK:(mR g.F9 nm).length<=1000:=cA (lq _ _ _) HZ.o.us.vl;have be:=Pr.o.lt;have aH:Hid (ck aF 1 (fun b=>b≠bo) w6 [pv] (mR g.F9 nm)):=aa (am.rd fun b e=>by have:=(fh am b e).1;show b≠bo;omega);have bf:Hid (sP g nm=gD az.name (onB (dB g.F9 (mR g.F9 nm))) g.Gb):=aa (o8 (fun d=>(FI g.F9 d).symm));clear am HPE ak;have aI:=aa (Pr.o.block (sh.block bo be));have Tq:=YS eK sh;have RN:=Zl sh aG;have YH:Hid (∀i,(dB g.F9 ((mR g.F9 nm).take i)).length<=1000000):=aa fun i=>by
  have h1:=rX HZ.o ((mR g.F9 nm).take i);rw[ey]at h1;have:1000*min i (mR g.F9 nm).length<=1000*1000:=Nat.mul_le_mul_left _ WQ;omega
 have C5:=aI.o.lt;clear sh Pr aV aE aG eK;generalize hP:mR g.F9 nm=P at *;replace hP:=aa hP;obtain⟨pp,pc,e,Wl,Wm⟩:=aH.o.cap;subst e;have YI:Hid (bi prog 9 w6 bo 0 (onF [])):=aa (aI.o.congr fun key _ _=>by unfold onF;split<;>rfl);clear aI;go_upto_region 5 with(fail);go_loopw[28] (fun i wr=>∃k:Nat,k<=P.length/\i=Bm Sj k/\cR (fun b=>b=bo) w6 wr/\bi prog 9 wr bo (dB g.F9 (P.take k)).length (onF (dB g.F9 (P.take k)))) (fun i _=>P.length-(intOf i).toNat)
 exact⟨0,cg _,rfl,cR.refl _ _,YI.o⟩;clear YI;obtain⟨k,hk,rfl,Gk,C4⟩:=hrel;have sq:=aa Gk;clear Gk;have tj:=aa C4;clear C4;have fy:Hid (Below w.1.size w wr):=aa (Tq.o.trans (sq.o.below Tq.o.size (fun b e=>by omega)));have aJ:=aa ((sq.o.block _ (aq RN.o) WQ).trans RN.o);by_cases hlt:k<P.length
 ·obtain⟨x,hx⟩:=aj P k hlt;obtain⟨b,off,us,rfl,gR,cX,ez,eE,a8⟩:=aH.o.elem hx;obtain rfl:us=_:=eE;have q0:=(sq.o.cell (p:=⟨b,off+k*1+0,VX⟩) cX gR).trans (a8 0 _ lX);rw[fp,fg]at q0;have bg:=aa (xN g.F9 hx);clear hx a8 ez;obtain⟨g0,g1,g2,g3,g4,g5,g6,g7,g8⟩:=xr (cr aJ.o);have HCV:=aa (fA (ok:=fun b=>ok b/\b<w.1.size) g a x wr ((ck.moves aN.moves).mv ⟨fy.o.size,fun b hb ho=>⟨⟨ho,hb⟩,fy.o.block b hb⟩⟩ hr.o) HZ.o.us.sz.vl HZ.o.us.sz.vz);go_wp2_with fail;clear g0 g1 g2 g3 g4 g5 g6 g7 g8 q0;refine HCV.o.mono ?_;clear HCV;rintro e w7 ⟨u,rfl,sA,rn⟩;have Qb:=aa (rV HZ.o x);have bl:=aa (Kc HZ.o x);generalize hv:(aM g.F9 x).getD eY=v at *;replace hv:=aa hv;have bL:=sq.o.size;replace sA:=aN.moves.mv (ok':=fun b=>b≠bo) ⟨bk _,fun b _ ho=>⟨by show b≠bo;rcases ho with ho|ho<;>omega,rfl⟩⟩ sA;obtain⟨tv,sv,rfl,ew,gA⟩:=sA;obtain⟨tp,tc,rfl,_,_⟩:=ew.cap;obtain⟨sp,sc,rfl,bp,bs⟩:=gA.cap;have RO:=aa (sq.o.trans (cR.of_below (F:=fun _=>False) rn) (fun _ f=>f.elim));have Px:=aa (tj.o.block (rn.block bo tj.o.lt));clear ew rn tj sq fy aJ;have hA:=ae w7 (Sx (ZM v tp tc sp sc) 46);have zv:=aa (b9 w7 (Sx (ZM v tp tc sp sc) 46));have Wn:=aa (RO.o.trans (cR.of_below (F:=fun _=>False) hA) (fun _ f=>f.elim));have RP:=aa (Px.o.block (hA.block bo Px.o.lt));have Zv:=aa ((ck.moves bC.moves).mv (Mv.of hA) gA);clear gA hA RO Px;go_upto_region 8 with(fail);generalize bu:AI w7 _=W8 at *;generalize bM:w7.1.size=Bv at *;clear bu;have v5:=cr zv.o 5 _ lX;go_upto_region 9 with(fail);clear v5 zv;have Ug:Hid (∀j,(dB g.F9 (P.take k)++jK (v.Gf.take j)).length<=2000000):=aa fun j=>by
   have h1:=YH.o k;have h2:(jK (v.Gf.take j)).length<=(jK v.Gf).length:=by
    conv=>rhs;rw[<- rk j v.Gf]
    unfold jK;rw[xt,cD];omega
   have h3:=Qb.o;rw[cD];omega
  have RQ:Hid (bi prog 9 W8 bo (dB g.F9 (P.take k)++jK (v.Gf.take 0)).length (onF (dB g.F9 (P.take k)++jK (v.Gf.take 0)))):=aa (by rw[iv,show jK []=[] from lX,eM];exact RP.o);clear RP;go_loopw[41] (fun i wi=>∃j:Nat,j<=Wq v.Gf/\i=Bm Sj j/\cR (fun b=>b=bo) W8 wi/\bi prog 9 wi bo (dB g.F9 (P.take k)++jK (v.Gf.take j)).length (onF (dB g.F9 (P.take k)++jK (v.Gf.take j)))) (fun i _=>Wq v.Gf-(intOf i).toNat)
  exact⟨0,cg _,rfl,cR.refl _ _,RQ.o⟩;clear RQ;obtain⟨j,hj,rfl,Gk,C4⟩:=hrel;have sq:=aa Gk;clear Gk;have tj:=aa C4;clear C4;by_cases hlt2:j<Wq v.Gf
  ·obtain⟨s,hs⟩:=aj v.Gf j hlt2;obtain⟨b2,off2,bO,yp,I0,C2,B5,C3,a9⟩:=Zv.o.elem hs;subst yp;obtain⟨av,Rn,rfl,o0,ab⟩:=C3;obtain⟨ap,ac,rfl,_,_⟩:=o0.cap;obtain⟨eN,eR,rfl,_,_⟩:=ab.cap;have AD:wr.1[b2]?=W8.1[b2]?:=sq.o.block b2 C2 I0;obtain⟨q0,q1,q2,q3,q4,q5,q6,q7,q8,q9,bw⟩:=ak5 AD a9;have Wo:=aa (o9 hs);have Wp:=aa (bl.o s (ct hs));have bP:Wq s.Ga<=1000:=by have:=A8 hs;have:=Qb.o;omega
   clear hs a9 B5 AD ab;have hA:=ae wr (Sx (ZN s ap ac eN eR) 55);have lj:=aa (b9 wr (Sx (ZN s ap ac eN eR) 55));have LO:=aa (sq.o.trans (cR.of_below (F:=fun _=>False) hA) (fun _ f=>f.elim));have aW:=aa (tj.o.block (hA.block bo tj.o.lt));have ya:=aa ((ck.moves aQ.moves).mv (Mv.mod LO.o (fun b e ho=>ho e)) o0);clear o0 hA sq tj;go_upto_region 11 with(fail);clear q0 q1 q2 q3 q4 q5 q6 q7 q8 q9 bw;generalize bz:AI wr _=W9 at *;generalize bQ:wr.1.size=Bs at *;clear bz;have s3:=cr lj.o 3 _ lX;go_upto_region 12 with(fail);clear s3 lj;generalize ao:dB g.F9 (P.take k)++jK (v.Gf.take j)=AL at *;have Wb:AL.length<=2000000:=by have:=Ug.o j;rw[ao]at this;exact this
   replace ao:=aa ao;have aX:Hid (bi prog 9 W9 bo (AL++s.Ga.take 0).length (onF (AL++s.Ga.take 0))):=aa (by rw[iv,eM];exact aW.o);clear aW;go_loopw[48] (fun i wi=>∃m:Nat,m<=Wq s.Ga/\i=Bm Sj m/\cR (fun b=>b=bo) W9 wi/\bi prog 9 wi bo (AL++s.Ga.take m).length (onF (AL++s.Ga.take m))) (fun i _=>Wq s.Ga-(intOf i).toNat)
   exact⟨0,cg _,rfl,cR.refl _ _,aX.o⟩;clear aX;obtain⟨m,hm,rfl,Gk,C4⟩:=hrel;have sq:=aa Gk;clear Gk;have tj:=aa C4;clear C4;by_cases hlt3:m<Wq s.Ga
   ·obtain⟨r,hr⟩:=aj s.Ga m hlt3;obtain⟨b3,off3,bD,aK,B7,PV,pT,Tr,ag⟩:=ya.o.elem hr;subst aK;obtain rfl:bD=_:=Tr;have Tl:wr.1[b3]?=W9.1[b3]?:=sq.o.block b3 PV B7;obtain⟨q0,q1,q2⟩:=Mn Tl ag;have HTS:=aa (take_snoc' s.Ga m r hr);have au:=Wp.o r (ct hr);clear hr ag pT Tl;have hA:=ae wr (Sx (Taw r) 53);have yb:=aa (b9 wr (Sx (Taw r) 53));have Ws:=aa (sq.o.trans (cR.of_below (F:=fun _=>False) hA) (fun _ f=>f.elim));have LR:=aa (tj.o.block (hA.block bo tj.o.lt));have hll:(AL++s.Ga.take m).length<=3000000:=by rw[cD,ey];omega
    clear hA sq tj;go_upto_region 14 with(fail);clear q0 q1 q2;generalize aL:AI wr _=W10 at *;generalize bR:wr.1.size=Ba at *;clear aL;have a0:=cr yb.o 0 _ lX;have a1:=cr yb.o 1 _ lX;have ah:=(bi.look LR.o oM underlying110 (wY W10) (key:=By r.on) (gG r.on au)).1;rw[Al]at ah;have aA:∀z:Bool,z=(onB (AL++s.Ga.take m) r.on||!r.vol)->∃w',(Instr.mapUpdate 110 (.map (Vv bo)) (By r.on) (Ft z)).run prog W10=.ok () w'/\bi prog 9 w' bo (AL++s.Ga.take (m+1)).length (onF (AL++s.Ga.take (m+1)))/\cR (fun b=>b=bo) W9 w':=fun z hz=>by
     obtain⟨w',hst,hm',a7,aT⟩:=bi.store LR.o oM underlying110 Tdh (key:=By r.on) (gG r.on au) (Ft z);refine⟨w',hst,?_,Ws.o.trans (cR.grown a7) (fun i e=>.inl e)⟩;rw[HTS.o,<- cV,cD];subst hz;exact hm'.congr fun key _ _=>DJ r key
    replace aA:=aa aA;generalize aY:onB (AL++s.Ga.take m) r.on=ob at *;replace aY:=aa aY;cases ob with
    |true =>
     obtain⟨w',hst,hm',oY⟩:=aA.o VR XN;have aP:=aa hm';clear hm';have xd:=aa oY;clear oY;go_wp2;go_roundw;exact⟨m+1,WQ,Zf,xd.o,aP.o⟩;exact Ti
    |false =>
     obtain⟨w',hst,hm',oY⟩:=aA.o (!r.vol) XN;have aP:=aa hm';clear hm';have xd:=aa oY;clear oY;go_wp2;go_roundw;exact⟨m+1,WQ,Zf,xd.o,aP.o⟩;exact Ti
   obtain rfl:m=Wq s.Ga:=by omega
   rw[cI]at tj;have Py:Hid (bi prog 9 wr bo (dB g.F9 (P.take k)++jK (v.Gf.take (j+1))).length (onF (dB g.F9 (P.take k)++jK (v.Gf.take (j+1))))):=aa (by rw[Wo.o,<- cV,ao.o];exact tj.o);have Pz:=aa (LO.o.trans sq.o (fun i e=>.inl e));clear tj sq;go_wp2;go_roundw;exact⟨j+1,WQ,Zf,Pz.o,Py.o⟩;exact Ti
  obtain rfl:j=Wq v.Gf:=by omega
  rw[cI]at tj;have Py:Hid (bi prog 9 wr bo (dB g.F9 (P.take (k+1))).length (onF (dB g.F9 (P.take (k+1))))):=aa (by rw[bg.o];exact tj.o);have Pz:=aa (Wn.o.trans sq.o (fun i e=>.inl e));clear tj sq;go_wp2;go_roundw;exact⟨k+1,WQ,Zf,Pz.o,Py.o⟩;exact Ti
 obtain rfl:k=P.length:=by omega
 rw[cI]at tj;generalize dB g.F9 P=AL at *;clear aH hP YH;have Wt:=aa ((ck.moves aO.moves).mv (ok':=fun b=>ok b/\b<w.1.size) ⟨fy.o.size,fun b hb ho=>⟨⟨ho,hb⟩,fy.o.block b hb⟩⟩ HD.o);have g6:=cr aJ.o 6 _ lX;go_upto_region 20 with(fail);clear g6;obtain⟨W11,aR⟩:∃W,W=wr:=⟨_,rfl⟩;subst aR;have YJ:=aB.1;have YK:=aB.2;clear aB;generalize Wu:a.dp=dpx at *;generalize Wv:a.dc=dcx at *;clear Wu Wv;have RX:=fy.o.size
 go_loopw[15,70] (fun l i wi=>∃m:Nat,m<=Wq g.Gb/\i=Bm Sj m/\dF wi W11.1.size l (gD az.name (onB AL) (g.Gb.take m))/\Below W11.1.size W11 wi) (fun _ i _=>Wq g.Gb-(intOf i).toNat)
 exact⟨0,cg _,rfl,dF.nil _ _,bj _ _⟩;obtain⟨m,hm,rfl,a5,hB⟩:=hrel;replace a5:=aa a5;replace hB:=aa hB;have bE:=lq az.name (onB AL) (g.Gb.take m);rw[ey]at bE;by_cases hlt4:m<Wq g.Gb
 ·obtain⟨d,hd⟩:=aj g.Gb m hlt4;obtain⟨b,off,us,yp,gR,cX,ez,eE,a8⟩:=Wt.o.elem hd;have au:=HZ.o.dn d (ct hd);obtain⟨tv,rfl,ew⟩:=eE;obtain⟨tp,tc,rfl,_,_⟩:=ew.cap;subst yp;have cT:wr.1[b]?=W11.1[b]?:=hB.o.block b cX;obtain⟨q0,q1,q2,q3,q4,q5,q6⟩:=sw7 cT a8;have sY:=aa (rJ az.name (onB AL) hd);clear hd a8 ez cT ew;have hA:=ae wr (Sx (u0 d tp tc) 69);have sX:=aa (b9 wr (Sx (u0 d tp tc) 69));have cm:=YS hB hA;have HOW2:=aa (a5.o.below hA);clear hA;go_upto_region 22 with(fail);clear q0 q1 q2 q3 q4 q5 q6;generalize aS:AI wr _=W12 at *;generalize bS:wr.1.size=Bd at *;clear aS hB a5;have d0:=cr sX.o 0 _ lX;have RY:=cm.o.size;have ah:=(bi.look (tj.o.block (cm.o.block bo tj.o.lt)) oM underlying110 (wY W12) (key:=By d.name) (gG d.name au)).1;rw[Al]at ah;obtain⟨lp,lc,e,_,_⟩:=(HOW2.o.rd (ok:=fun _=>True) (fun _ _=>trivial)).cap;subst e;have ai:=aa (eT (ok:=fun _=>True) _ d.name W12 (HOW2.o.rd (ok:=fun _=>True) (fun _ _=>trivial)) WQ);generalize aZ:gD az.name (onB AL) (g.Gb.take m)=pl at *;replace aZ:=aa aZ;cases hh:onB AL d.name with
  |false =>
   rw[hh]at ah sY;rw[Bool.false_and,bh XN]at sY;have HH:=aa hh;clear hh;clear ai;go_wp2;go_roundw;exact⟨m+1,WQ,Zf,Tem,cm.o⟩;exact Ti
  |true =>
   rw[hh]at ah sY;rw[Bool.true_and]at sY;have HH:=aa hh;clear hh;cases hc:bI pl d.name with
   |true =>
    rw[hc]at ai sY;rw[bh XN]at sY;have HC:=aa hc;clear hc;go_wp2_with(refine ai.o.mono ?_;rintro e w3 ⟨rfl,rfl⟩)
    go_roundw;exact⟨m+1,WQ,Zf,Tem,cm.o⟩;exact Ti
   |false =>
    rw[hc]at ai sY;rw[aw XN]at sY;have HC:=aa hc;clear hc;go_wp2_with(first|(refine ai.o.mono ?_;rintro e w3 ⟨rfl,rfl⟩)|(at_builtin;refine dz lX _ _ lX W11.1.size _ pl d.name lX ?c1 W12.1.size 1 lX ?c2 ?c3 ?c4 ?_))
    case c1=>exact HOW2.o.alloc _
    case c2=>exact aD lX rfl
    case c3=>omega
    case c4=>simp;omega
    intro v' bT Of b8 _;have eI:=aa ((cm.o.alloc RY _).trans b8);have HOW4:=aa Of;clear b8 Of;go_wp2;go_roundw;exact⟨m+1,WQ,Zf,TeS,eI.o⟩;exact Ti
 obtain rfl:m=Wq g.Gb:=by omega
 rw[cI]at a5;have B3:Hid (Below w.1.size w wr):=aa (fy.o.trans (hB.o.mono RX));go_wp2;go_ret;exact⟨_,rfl,by rw[bf.o];exact a5.o.mono RX,B3.o⟩
end
section
def wK:∀ {l:wy (H6 × Int)},(oW l).2=0->∀x∈l,x.2=0
 |[],_,x,hx=>by cases hx
 |r :: l,h,x,hx=>by
  unfold oW at h;split at h
  ·rename_i hr;rcases DQ.1 hx with rfl|hx
   ·exact hr
   exact wK h x hx
  rename_i hr;exact absurd h hr
variable {g:af}
def Dg(h:(mchk g).2=0):(dZ g).2=0/\(dw g).2=0/\(dJ g).2=0/\(iP g).2=0/\(mY g).2=0/\(qG g).2=0/\(pE g).2=0/\(rY g).2=0:=by
 have:=wK h;exact⟨this _ XN,this _ XN,this _ XN,this _ XN,this _ XN,this _ XN,this _ XN,this _ XN⟩
def Au(h:eP l=0):l.length<=8:=by
 unfold eP at h;split at h
 ·cases h
 omega
def zy(h:(dw g).2=0):∀d∈g.Gb,Wq d.tags<=8:=fun d hd=>by
 obtain⟨j,hj⟩:=fc hd;have:=ll (i:=0) h j d hj;rw[eJ]at this;unfold pg at this;split at this
 ·cases this
 split at this
 ·cases this
 split at this
 ·cases this
 exact Au this
def qQ{ext:Int}{s:aB}(h:bJ ext s st=VR):fP s->∀a∈s.Ga,a.vol=VN:=by
 intro ho a ha;cases hs:shapeOf s.kind with
 |none=>rw[jT hs]at h;cases h
 |some x =>
  have hx:x.F9=VN:=by
   rcases ho with q|q|q<;>(rw[q]at hs;cases hs;rfl)
  rw[jP hs]at h;simp only[eh,fk]at h;have h5:=h.1.1.1.1.1.1.1.1.1.2;have:=An.1 h5 a ha;unfold bT at this;rw[hx]at this;simp only[eh]at this;simpa using this.1
def lY(f:α->wy β)(m:Nat):∀l:wy α,(∀x∈l,(f x).length<=m)->(l.flatMap f).length<=l.length*m
 |[],_=>by simp
 |x :: l,h=>by
  have h1:=h x (cG ..);have h2:=lY f m l fun y hy=>h y (kn _ hy);rw[lB,cD,cS,P7];omega
def Cb(s:aB):(rQ s).length<=Wq s.Ga+2:=by
 unfold rQ;rw[cD,cD,fW];have:=tk (fun a:aR=>a.vol) s.Ga;split<;>split<;>simp<;>omega
def rP:∀ {l:wy az} {i:Nat} {D:az},(l.map (·.name)).Nodup->l[i]?=Vv D->bH l D.name=Vv D
 |[],_,_,_,h=>by cases h
 |x :: l,i,D,hn,h=>by
  rw[iu,List.nodup_cons]at hn;unfold bH;rw[List.find?_cons]
  match i,h with
  |0,h =>
   obtain rfl:x=D:=by simpa using h
   simp
  |i+1,h =>
   have h':l[i]?=Vv D:=by simpa using h
   have:¬x.name=D.name:=fun e=>hn.1 (e ▸ As.2 ⟨D,ct h',rfl⟩);rw[cN this];exact rP hn.2 h'
structure E9(g:af):Prop where
 nd:rT g
 dl:Wq g.Gb<=8
 dt:∀d∈g.Gb,Wq d.tags<=8
 de:∀d∈g.Gb,0<=d.Gc/\d.Gc<=4096
 df:∀(i:Nat) (D:az),g.Gb[i]?=Vv D->bH g.Gb D.name=Vv D
 vl:Wq g.F9<=32
 tm:qx g.F9
 ps:∀p∈pieces g.F9,0<=p.start/\p.start<=4096
 pn:(pieces g.F9).length<=12288
 a6:∀v∈g.F9,∀s∈v.Gf,Wq s.Ga<=6
def Fb(hi:GIn g)(h:(mchk g).2=0):E9 g:=by
 obtain⟨h1,h2,h3,h4,h5,-,-,-⟩:=Dg h;obtain⟨r1,r2⟩:=iT h1;have hs:=mZ h4;have hv:=nH h3;have hd:=nG h2;have vu:∀d∈g.Gb,0<=d.Gc/\d.Gc<=4096:=fun d hd'=>by
  have:=(hd.2 d hd').1;unfold jQ at this;omega
 have yq:∀v∈g.F9,∀s∈v.Gf,Wq s.Ga<=6:=fun v a5 s a7=>(hs v a5 s a7).fm.ar
 have a8:∀v∈g.F9,(aW v).length<=384:=fun v a5=>by
  have h0:=(hv v a5).2.2.2;have h6:=lY (aK v.name) 6 v.Gf fun s a7=>by
   have:=yq v a5 s a7;unfold aK;split
   ·rw[fW];exact this
   simp
  have:Wq v.Gf*6<=64*6:=tA _ h0;unfold aW;omega
 refine⟨⟨⟨hi.sz,fun v a5=>by have:=(hv v a5).2.1;unfold maxLen;omega,fun v a5=>?_,fun v a5 x hx=>?_,by have:=r2.2.1;omega⟩,fun d hd'=>?_,by have:=r2.1;omega,fun v a5=>?_,fun v a5 s a7 a ha=>?_⟩,r2.1,zy h2,vu,fun i D hD=>rP hd.1 hD,r2.2.1,fun v a5=>⟨by have:=(hv v a5).2.2.2;omega,fun s a7=>?_⟩,fun p hp=>?_,?_,yq⟩
 ·have h0:=(hv v a5).2.2.2;have h6:=lY rQ 8 v.Gf fun s a7=>by have:=yq v a5 s a7;have:=Cb s;omega
  have:Wq v.Gf*8<=64*8:=tA _ h0;unfold kY;omega
 ·obtain⟨s,a7,hx⟩:=BY.1 hx;obtain⟨m1,m2,m3,m4⟩:=hi.st v a5 s a7;unfold maxLen;unfold rQ at hx;rcases AS.1 hx with hx|hx
  ·rcases AS.1 hx with hx|hx
   ·obtain⟨a,ha,rfl⟩:=As.1 hx;exact m3 a ((DS.1 ha).1)
   split at hx
   ·cases hx
   obtain rfl:=AM.1 hx;exact m1
  split at hx
  ·cases hx
  obtain rfl:=AM.1 hx;exact m2
 ·have:=oo ((hd.2 d hd').2);unfold maxLen;omega
 ·have h0:=(hv v a5).2.2.2;have h6:=lY (fun s:aB=>s.Ga) 6 v.Gf fun s a7=>yq v a5 s a7;have:Wq v.Gf*6<=64*6:=tA _ h0;unfold jK;omega
 ·unfold maxLen;exact(hi.st v a5 s a7).2.2.1 a ha
 ·have hf:=(hs v a5 s a7).fm;have a1:=hf.l0;have a2:=hf.l1;have a3:=hf.ar;obtain⟨st,hst⟩:=qP h4 v a5 s a7;exact⟨WQ,WQ,qQ hst⟩
 ·obtain⟨v,a5,hp⟩:=BY.1 hp;obtain⟨s,a7,hp⟩:=BY.1 hp;obtain⟨st,hst⟩:=qP h4 v a5 s a7;have hr:=zZ (Dh h5 v a5 s a7);unfold aK at hp;split at hp
  ·rename_i ho;obtain⟨a,ha,rfl⟩:=As.1 hp;have pS:=qQ hst ho a ha;have e2:=An.1 hr.2.1 a ha;unfold fI at e2;have e1:=hr.1;unfold jw at e1;rw[eh,eL]at e1;have e3:=e1.1 a ha;rw[pS,nj]at e2 e3;obtain⟨d,hd'⟩:=Ly.1 e3;rw[hd']at e2;simp only[eh,fk,L2]at e2;have:=vu d (eV hd');simp only[aJ];omega
  cases hp
 have h6:=lY aW 384 g.F9 a8;have:=r2.2.1;have:Wq g.F9*384<=32*384:=tA _ WQ;unfold pieces;omega
end
section
open Go.RowKit
variable {Gb:wy az}{a ls lengths next' n0:PI}{ps:wy (H6 × H5)}{n id c m e kind:Int}{s x:aB}{name:H6}{hd:Bool}{l:wy aB}{ns:QN}{vl tl vs L L':wy ay}{k j i:Nat}{g g' g0:af}{v:ay}{α:Type}
def iq:es.size<=100:=by decide
structure XX(s:aB):Prop where
 ar:Wq s.Ga<=8
 st:Wq s.stale<=8
 kd:0<=s.kind/\s.kind<=10
 lg:s.log.size<=100
 pl:s.pool.size<=100
 on:∀a∈s.Ga,a.on.size<=100
 dv:0<=s.device/\s.device<=10
structure QC(v:ay):Prop where
 nm:v.name.size<=100
 tg:List.Sublist v.tags iQ
 sl:Wq v.Gf<=8
 sg:∀s∈v.Gf,XX s
def fZ.on{b:PI}(h:fZ Gb a ps b):∀q∈ps,∃D∈Gb,q.1=D.name:=by
 induction h with
 |nil=>intro q hq;cases hq
 |snoc h hd hm h1 h2 h3 ih =>
  intro q hq;rcases AS.1 hq with q1|q1
  ·exact ih q q1
  obtain rfl:=AM.1 q1;exact⟨_,ct hd,rfl⟩
def Eo{s:Int}{on:H6}(h:on.size<=100):XX (dE n on s) :=
 ⟨Td0,Td0,Td6,iq,iq,fun a ha=>by
  obtain rfl:a=⟨VN,on,s⟩:=by simpa[dE]using ha
  exact h,Td6⟩
theorem Ed{s:Int}{on:H6}(hn:name.size<=100)(h:on.size<=100):QC (eD name id hd n on s) :=
 ⟨hn,MY _,by simp[eD],fun x hx=>by
  obtain rfl:x=dE n on s:=by simpa[eD]using hx
  exact Eo h⟩
structure FB(s:aB):Prop where
 ar:Wq s.Ga<=8
 st:s.stale=[]
 kd:0<=s.kind/\s.kind<=10
 lg:s.log=es
 pl:s.pool=es
 dv:s.device=0
 on:(s.kind=1\/s.kind=8)\/s.Ga=[]
def fB.pre{l':wy aB}(h:fB l l')(hl:∀s∈l,FB s):∀s∈l',FB s:=by
 induction h with
 |nil=>exact hl
 |void _ hn hk ih =>
  intro s hs;rcases AS.1 hs with q|q
  ·exact ih s q
  obtain rfl:=AM.1 q;exact⟨Tdp,rfl,TdA,rfl,rfl,rfl,.inr lX⟩
 |lin _ hn ih =>
  intro s hs;rcases AS.1 hs with q|q
  ·exact ih s q
  obtain rfl:=AM.1 q;exact⟨Tdp,rfl,TdA,rfl,rfl,rfl,.inl (.inl lX)⟩
 |move _ hn _ ih =>
  intro s hs;rcases AS.1 hs with q|q
  ·exact ih s q
  obtain rfl:=AM.1 q;exact⟨Tdp,rfl,TdA,rfl,rfl,rfl,.inl (.inr lX)⟩
theorem lD.vin(h:lD id c ns ls ps vl)(hn:∀n∈ns,n.size<=100)(hp:∀q∈ps,q.1.size<=100):∀v∈vl,QC v:=by
 induction h with
 |nil=>intro v hv;cases hv
 |snoc h ih =>
  intro v hv;rcases AS.1 hv with q|q
  ·exact ih (fun n hn'=>hn n (ju _ hn')) (fun n hn'=>hp n (ju _ hn')) v q
  obtain rfl:=AM.1 q;exact Ed (hn _ (P9 _ (AM.2 lX))) (hp _ (P9 _ (AM.2 lX)))
theorem iO.vin(h:iO id name k c j tl)(hn:name.size<=90)(hk:k<=2):∀v∈tl,QC v:=by
 induction h with
 |nil=>intro v hv;cases hv
 |snoc h hl ih =>
  intro v hv;rcases AS.1 hv with q|q
  ·exact ih v q
  obtain rfl:=AM.1 q;have:=h.len;refine⟨?_,MY _,by simp[jY],fun s hs=>?_⟩
  ·show((name++tT)++digit _).size<=100;rw[CA,CA];have e1:tT.size=1:=rfl;have e2:∀i,(digit i).size=1:=fun _=>rfl;rw[e2];omega
  obtain rfl:=AM.1 hs;exact⟨XN,XN,Tdf,iq,Tdf,fun a ha=>by simp at ha,Tdf⟩
def BM(name:H6)(i:Nat):(Ex name i).size=name.size+5:=by
 unfold Ex;rw[CA,CA];rfl
def gN :∀n∈aI name k,n.size<=name.size+5:=fun n hn=>by
 obtain⟨i,_,rfl⟩:=As.1 hn;rw[BM];omega
def vN{l:QN}{m:Nat}(h:∀n∈l,n.size<=m):∀a∈gB l,a.on.size<=m:=fun a ha=>by
 obtain⟨n,hn,rfl⟩:=As.1 ha;exact h n hn
def mX(name:H6){s:H6}(h:s.size<=5):(name++s).size<=name.size+5:=by
 rw[CA];omega
def lZ.names{names:QN}(h:lZ e n name kind names lengths x):∀m∈names,m.size<=name.size+5:=by
 cases h with
 |mirror k hk c hc st hst=>exact gN
 |mirrorLog k hk c hc st hst =>
  intro m hm;rcases AS.1 hm with q|q
  ·exact gN m q
  obtain rfl:=AM.1 q;exact mX _ YR
 |parity k hk c hc=>exact gN
 |pool l c hl hc =>
  intro m hm;simp only[dr,cY,dg]at hm;rcases hm with rfl|rfl<;>exact mX _ YR
 |cache l m c hl hm hc =>
  intro m hm;simp only[dr,cY,dg]at hm;rcases hm with rfl|rfl|rfl<;>exact mX _ YR
def lZ.sin{names:QN}(h:lZ e n name kind names lengths x)(hn:name.size<=90):XX x:=by
 have hm:=h.names;have hst:∀ {st:PI} {k:Nat},(st=[]\/∃i:Int,0<=i/\i<k/\st=[i])->st.length<=8:=fun h=>by
  rcases h with rfl|⟨_,_,_,rfl⟩<;>simp
 have hl:∀k:Nat,∀a∈gB (aI name k),a.on.size<=100:=fun k=>vN fun n hn'=>by have:=gN n hn';omega
 cases h with
 |mirror k hk c hc st hs=>exact⟨TdB,hst hs,Tdf,iq,iq,hl k,Tdf⟩
 |mirrorLog k hk c hc st hs =>
  have:=mX name (s:=qm) YR;exact⟨TdB,hst hs,Tdf,Tdf,iq,hl k,Tdf⟩
 |parity k hk c hc=>exact⟨TdB,XN,Tdf,iq,iq,hl k,Tdf⟩
 |pool l c hl hc=>exact⟨by simp[gB],XN,Tdf,iq,iq,vN fun n hn'=>by have:=hm n hn';omega,Tdf⟩
 |cache l m c hl hm' hc=>exact⟨by simp[gB],XN,Tdf,iq,iq,vN fun n hn'=>by have:=hm n hn';omega,Tdf⟩
def iy.vin(h:iy name g next g' next')(hn:name.size<=10)(hd:∀D∈g.Gb,D.name.size<=100)(hv:∀v∈g.F9,QC v):∀v∈g'.F9,QC v:=by
 cases h with
 |linF=>exact hv
 |@lin n s on next1 next' Gf ps hn' h1 hm hl h2 hs =>
  intro v a5;rcases AS.1 a5 with q|q
  ·exact hv v q
  obtain rfl:=AM.1 q;obtain⟨r,e,hr⟩:=hm.tail;have hp:=hm.pre fun s hs=>by
   obtain rfl:=AM.1 hs;exact⟨Td0,rfl,Td6,rfl,rfl,rfl,.inl (.inl lX)⟩
  subst e;refine⟨Tdf,MY _,Tdf,fun x hx=>?_⟩;obtain⟨p1,p2,p3,p4,p5,p6,p7⟩:=hp x hx;refine⟨p1,by rw[p2];simp,p3,by rw[p4];exact iq,by rw[p5];exact iq,fun a ha=>?_,by rw[p6];omega⟩;rcases AS.1 hx with hx|hx
  ·obtain rfl:=AM.1 hx;obtain rfl:=AM.1 ha;obtain⟨D,hD,e⟩:=h1.on _ (AM.2 lX);show on.size<=100;rw[show on=D.name from e];exact hd D hD
  rcases p7 with hk|hk
  ·have:(a.on,a.start,x.length)∈ps:=hs.subset (BY.2 ⟨x,Td7,by
    unfold iG;rw[aw hk];exact As.2 ⟨a,ha,rfl⟩⟩)
   obtain⟨D,hD,e⟩:=h2.on _ this;rw[show a.on=D.name from e];exact hd D hD
  rw[hk]at ha
  cases ha
 |strF h=>exact hv
 |@str k n al next' hk hn' hl ha h =>
  intro v a5;rcases AS.1 a5 with q|q
  ·exact hv v q
  obtain rfl:=AM.1 q;refine⟨by simp only[tC];omega,MY _,by simp[tC],fun s hs=>?_⟩;obtain rfl:=AM.1 hs;refine⟨Teo,by simp[ic],Teo,iq,iq,fun a a7=>?_,Teo⟩;obtain⟨D,hD,e⟩:=h.on (a.on,a.start,n) (As.2 ⟨a,by simpa[ic]using a7,rfl⟩);rw[show a.on=D.name from e];exact hd D hD
 |compF h=>exact hv
 |comp AK hn' hR hH hT ht hk hk5 hth =>
  intro v a5;rcases AS.1 a5 with q|q
  ·rcases AS.1 q with q|q
   ·rcases AS.1 q with q|q
    ·exact hv v q
    exact hH.vin (fun m hm=>by have:=hR.names m hm;omega) (fun q hq=>by
     obtain⟨D,hD,e⟩:=hT.on q hq;rw[e];exact hd D hD) v q
   obtain rfl:=AM.1 q;exact⟨Tdf,ht,XN,fun s hs=>by obtain rfl:=AM.1 hs;exact hR.sin WQ⟩
  exact hth.vin WQ hk v q
def bZ.vin{c:Nat}(h0:g0.F9=[]/\g0.next=0)(he:1<=g0.Gd/\g0.Gd<=16)(hd:DOk g0.Gb n0)(Pc:∀D∈g0.Gb,D.name.size<=100)(h:bZ c g0 n0 i g next):∀v∈g.F9,QC v:=by
 induction h with
 |nil=>rw[h0.1];intro v hv;cases hv
 |@step i g g' next next' h hs ih =>
  have b:=bZ.bd h0 he hd h;exact hs.vin (by show 1<=10;omega) (by rw[b.same.2.2.2.2.2.1];exact Pc) ih
def pX{l:QN}(h:List.Sublist l iQ):TI l:=⟨by have:=h.length_le;have e:iQ.length=4:=rfl;omega,fun s hs=>by
 have:=h.subset hs;simp only[iQ,dr,cY,dg]at this;rcases this with rfl|rfl|rfl|rfl<;>decide⟩
def xq{k:Int}(h:0<=k/\k<=10):(Lit.int Sj k).wf=VR:=by
 rcases(show k=0\/k=1\/k=2\/k=3\/k=4\/k=5\/k=6\/k=7\/k=8\/k=9\/k=10 by omega)with rfl|rfl|rfl|rfl|rfl|rfl|rfl|rfl|rfl|rfl|rfl<;>rfl
def sU.gin(h:sU g):GIn g:=by
 obtain⟨c,g0,g1,next,hc,a5,_,_,aa,a7,S9,hv0,_,CD,hdk,ye,hg,hh1,Zj⟩:=h.ex;have a8:1<=g0.Gd/\g0.Gd<=16:=by
  simp only[dr,cY,dg]at aa;omega
 have vu:∀D∈g0.Gb,0<=D.Gc/\D.Gc<=60:=fun D hD=>by
  exact TcE
 have Pc:∀D∈g0.Gb,D.name.size<=100:=fun D hD=>by
  obtain⟨k,hk⟩:=fc hD;rw[(hdk k D hk).name,CA];have e1:pvT.size=2:=rfl;have e2:(digit k).size=1:=rfl;omega
 have a9:DOk g0.Gb (DE (Wq g0.Gb) 0):=⟨XN,WQ,WQ,fun D hD=>by have:=vu D hD;omega,fun d m hm=>by
  have:=ct hm;rw[tM]at this;omega⟩
 have b:=bZ.bd ⟨hv0,a7⟩ a8 a9 ye;have vi:=bZ.vin ⟨hv0,a7⟩ a8 a9 Pc ye;have ed:g.Gb=g0.Gb:=by rw[hg];exact b.same.2.2.2.2.2.1
 have ev:g.F9=g1.F9:=by rw[hg]
 have en:g.name=vgT:=by rw[hg];exact b.same.1.trans a5
 have et:g.tags=g0.tags:=by rw[hg];exact b.same.2.2.2.2.1
 have mb:=b.F9;have S8:Wq g1.F9<=44:=by omega
 have Zn:∀d∈g.Gb,TI d.tags:=fun d hd=>by
  rw[ed]at hd;obtain⟨k,hk⟩:=fc hd;exact pX (hdk k d hk).tags
 refine⟨⟨by rw[en];decide,by rw[et];exact pX S9,by rw[ed];omega,by rw[ev];omega,WQ,fun d hd=>⟨by rw[ed]at hd;have:=Pc d hd;omega,Zn d hd⟩,fun v hv=>?_,fun x hx=>?_⟩,⟨by rw[ed];omega,fun d hd=>(Zn d hd).1,by rw[ev];omega,fun v hv=>?_⟩,fun v hv s hs=>?_,fun v hv s hs=>?_⟩
 ·rw[ev]at hv;have q:=vi v hv;exact⟨by have:=q.nm;omega,pX q.tg⟩
 ·obtain⟨i,_,_,rfl⟩:=Zj x hx;show BQ.size<=_;decide
 ·rw[ev]at hv;have q:=vi v hv;exact⟨(pX q.tg).1,by have:=q.sl;omega,fun s hs=>⟨by have:=(q.sg s hs).ar;omega,by have:=(q.sg s hs).st;omega⟩⟩
 ·rw[ev]at hv;exact xq ((vi v hv).sg s hs).kd
 rw[ev]at hv;have q:=(vi v hv).sg s hs;exact⟨by have:=q.lg;omega,by have:=q.pl;omega,fun a ha=>by have:=q.on a ha;omega,xq q.dv⟩
def zz1{ext:Int}{ps:wy gy}{q:H5}:q∈fM nm ext ps↔∃x∈ps,(x.disk=nm/\0<=x.start/\x.start<ext/\0<x.len)/\q=(x.start,min x.len (ext-x.start)):=by
 unfold fM;rw[List.mem_filterMap];constructor
 ·rintro⟨x,hx,h⟩;by_cases c:x.disk=nm/\0<=x.start/\x.start<ext/\0<x.len
  ·rw[aw c]at h;injection h with h;exact⟨x,hx,c,h.symm⟩
  rw[bh c]at h
  cases h
 rintro⟨x,hx,c,rfl⟩;exact⟨x,hx,aw c⟩
def af7(p:gy):H6 × H5:=(p.disk,p.start,p.len)
def triples(vs:wy ay):wy (H6 × H5):=(pieces vs).map af7
def Pi(a b:wy ay):triples (a++b)=triples a++triples b:=by simp[triples,pieces,xt]
def af2(v:ay):triples [v]=v.Gf.flatMap fun s=>(aK v.name s).map af7:=by
 simp only[triples,pieces,lB,List.flatMap_nil,eM,aW,List.map_flatMap]
def af0(h:¬fP s):(aK name s).map af7=[]:=by
 unfold aK;rw[bh h];rfl
def ag6(h:fP s):(aK name s).map af7=s.Ga.map fun a=>(a.on,a.start,iB s.kind s.length (Wq s.Ga)):=by
 unfold aK;rw[aw h,List.map_map];rfl
def af3(h:s.kind≠2):(aK name s).map af7=iG s:=by
 unfold iG;by_cases c:s.kind=1\/s.kind=8
 ·rw[ag6 (c.elim (fun q=>.inl q) fun q=>.inr (.inr q)),aw c];have:iB s.kind s.length (Wq s.Ga)=s.length:=by
   unfold iB;rw[bh fun q=>h q.1]
  rw[this]
 rw[af0 (fun q=>q.elim (fun q=>c (.inl q)) fun q=>q.elim h fun q=>c (.inr q)),bh c]
def ah4(h:∀v∈vs,∀s∈v.Gf,¬fP s):triples vs=[]:=by
 refine List.eq_nil_iff_forall_not_mem.2 fun t ht=>?_;obtain⟨p,hp,rfl⟩:=As.1 ht;obtain⟨v,hv,hp⟩:=BY.1 hp;obtain⟨s,hs,hp⟩:=BY.1 hp;exact h v hv s hs (gK hp).1
theorem lD.triples(h:lD id c ns ls ps vl):triples vl=ps:=by
 induction h with
 |nil=>rfl
 |snoc h ih =>
  rw[Pi,ih,af2];simp only[eD,lB,List.flatMap_nil,eM];rw[af3 Td0];simp[iG,dE]
theorem iO.off(h:iO id name k c j tl):∀v∈tl,∀s∈v.Gf,¬fP s:=by
 induction h with
 |nil=>intro v hv;cases hv
 |snoc h hl ih =>
  intro v hv s hs;rcases AS.1 hv with q|q
  ·exact ih v q s hs
  obtain rfl:=AM.1 q;obtain rfl:=AM.1 hs;rintro(q|q|q)<;>simp at q
def lZ.off{names:QN}(h:lZ e n name kind names lengths x):¬fP x:=by
 cases h<;>(rintro(q|q|q)<;>simp at q)
def iy.took(h:iy name g next g' next'):∃ps vl,fZ g.Gb next ps next'/\g'.F9=g.F9++vl/\(triples vl).Sublist ps:=by
 cases h with
 |linF=>exact⟨[],[],.nil _,XN,List.Sublist.refl _⟩
 |@lin n s on next1 next' Gf ps hn h1 hm hl h2 hs =>
  refine⟨_,_,h1.trans h2,rfl,?_⟩;obtain⟨r,rfl,hr⟩:=hm.tail;rw[af2];simp only[xt,lB,List.flatMap_nil,eM];have e1:(aK name (dE n on s)).map af7=[(on,s,n)]:=by
   rw[af3 Td0];simp[iG,dE]
  rw[e1];refine List.Sublist.append (List.Sublist.refl _) (List.Sublist.trans ?_ hs);have e2:∀l:wy aB,(∀x∈l,x.kind≠2)->l.flatMap (fun s=>(aK name s).map af7)=l.flatMap iG:=by
   intro l hl;induction l with
   |nil=>rfl
   |cons x l ih=>rw[lB,lB,af3 (hl x (cG ..)),ih fun y hy=>hl y (kn _ hy)]
  rw[e2 r fun x hx=>(hr x hx).1];simp
 |strF h=>exact⟨_,[],h,XN,by simp[triples,pieces]⟩
 |@str k n al next' hk hn hl ha h =>
  refine⟨_,_,h,rfl,?_⟩;rw[af2];simp only[tC,lB,List.flatMap_nil,eM];rw[ag6 (.inr (.inl lX))];have:iB (ic k n al).kind (ic k n al).length (ic k n al).Ga.length=n:=by
   show(if(2:Int)=2/\0<al.length then k*n/(al.length:Int) else k*n)=n;rw[aw ⟨rfl,WQ⟩,hl,Int.mul_ediv_cancel_left _ WQ]
  rw[this];exact List.Sublist.refl _
 |compF h=>exact⟨[],[],.nil _,XN,List.Sublist.refl _⟩
 |@comp kind n names lengths x ps vl tl ro tags k j next' AK hn hR hH hT ht hk hk5 hth =>
  refine⟨ps,vl++[⟨name,oX g.id (g.next+names.length+1),VN,ro,tags,[x]⟩]++tl,hT,XN,?_⟩;rw[Pi,Pi,hH.triples,ah4 hth.off,ah4 (vs:=[_]) (fun v hv s hs=>by
   obtain rfl:=AM.1 hv;obtain rfl:=AM.1 hs;exact hR.off)]
  simp
def bZ.took{c:Nat}(h0:g0.F9=[])(h:bZ c g0 n0 i g next):g.Gb=g0.Gb/\∃ps,fZ g0.Gb n0 ps next/\(triples g.F9).Sublist ps:=by
 induction h with
 |nil=>exact⟨rfl,[],.nil _,by rw[h0];exact List.Sublist.refl _⟩
 |@step i g g' next next' h hs ih =>
  obtain⟨e,ps,h1,h2⟩:=ih;obtain⟨qs,vl,h3,h4,h5⟩:=hs.took;refine⟨?_,ps++qs,h1.trans (e ▸ h3),?_⟩
  ·rw[<- e]
   cases hs<;>rfl
  rw[h4,Pi];exact h2.append h5
structure Apart(Gb:wy az)(ps:wy (H6 × H5)):Prop where
 on:∀q∈ps,∃D∈Gb,D.name=q.1/\0<=q.2.1/\1<=q.2.2/\q.2.1+q.2.2<=D.Gc
 row:ps.Pairwise fun p q=>p.1=q.1->p.2.1+p.2.2<=q.2.1
def Apart.sub(h:Apart Gb ps)(hs:qs.Sublist ps):Apart Gb qs:=⟨fun q hq=>h.on q (hs.subset hq),h.row.sublist hs⟩
def fZ.apart{b:PI}(h:fZ Gb a ps b)(hn:∀(i j:Nat) (D E:az),Gb[i]?=Vv D->Gb[j]?=Vv E->D.name=E.name->i=j)(ha:∀m∈a,0<=m) :
  Apart Gb ps/\(∀m∈b,0<=m)/\∀q∈ps,∀(d:Nat) (D:az) (m:Int),Gb[d]?=Vv D->D.name=q.1->b[d]?=Vv m->q.2.1+q.2.2<=m:=by
 induction h with
 |nil=>exact⟨⟨fun q hq=>by(cases hq),List.Pairwise.nil⟩,ha,fun q hq=>by(cases hq)⟩
 |@snoc next1 ps d D m s n h hd hm h1 h2 h3 ih =>
  obtain⟨i1,i2,i3⟩:=ih;have a5:=i2 m (ct hm);refine⟨⟨fun q hq=>?_,?_⟩,fun x hx=>?_,fun q hq d' D' m' hd' e' hm'=>?_⟩
  ·rcases AS.1 hq with q1|q1
   ·exact i1.on q q1
   obtain rfl:=AM.1 q1;exact⟨D,ct hd,rfl,Tdf,h3,h2⟩
  ·rw[tP];refine⟨i1.row,L7 ..,fun p hp q hq e=>?_⟩;obtain rfl:=AM.1 hq;have:=i3 p hp d D m hd e.symm hm;dsimp only;omega
  ·rcases List.mem_or_eq_of_mem_set hx with q|rfl
   ·exact i2 x q
   omega
  by_cases c:d=d'
  ·subst c;rw[hd]at hd';injection hd' with hd';subst hd';rw[List.getElem?_set_self (AT.1 hm).1]at hm';injection hm' with hm';rcases AS.1 hq with q1|q1
   ·have:=i3 q q1 d D m hd e' hm;omega
   obtain rfl:=AM.1 q1;dsimp only;omega
  rw[List.getElem?_set_ne c]at hm';rcases AS.1 hq with q1|q1
  ·exact i3 q q1 d' D' m' hd' e' hm'
  obtain rfl:=AM.1 q1;exact absurd (hn d d' D D' hd hd' e'.symm) c
def sU.apart(h:sU g):Apart g.Gb (triples g.F9)/\∀(i j:Nat) (D E:az),g.Gb[i]?=Vv D->g.Gb[j]?=Vv E->D.name=E.name->i=j:=by
 obtain⟨c,g0,g1,next,hc,_,_,_,a7,a8,_,hv0,_,CD,hdk,ye,hg,_,_⟩:=h.ex;have pD:∀(i j:Nat) (D E:az),g0.Gb[i]?=Vv D->g0.Gb[j]?=Vv E->D.name=E.name->i=j:=fun i j D E hi hj e=>by
  have h1:=(AT.1 hi).1;have h2:=(AT.1 hj).1;rw[(hdk i D hi).name,(hdk j E hj).name]at e;exact Fq WQ WQ e
 obtain⟨ed,ps,h1,h2⟩:=ye.took hv0;have ha:=(h1.apart pD (fun m hm=>by rw[tM]at hm;omega)).1;have a5:g.Gb=g0.Gb:=by rw[hg];exact ed
 have ev:g.F9=g1.F9:=by rw[hg]
 rw[a5,ev];exact⟨ha.sub h2,pD⟩
def LK(L:wy ay)(nm:H6)(l:Int):Prop:=∃u∈L,u.name=nm/\eZ u=1/\C8 u=l
structure af6(s:aB):Prop where
 hk:fP s\/s.kind=9\/s.kind=10
 ha:∀a∈s.Ga,a.vol=VN
 h0:¬fP s->s.Ga=[]
 hl:s.log=es
inductive ah0 (ext:Int)(L:wy ay)(v:ay)(s:aB):Prop
 |plain (h:af6 s):ah0 ext L v s
 |thin (hk:s.kind=6) (ha:s.Ga=[]) (hl:s.log=es) (hv:v.Gf=[s]) (j:Nat) (hd:s.device=j) (hn:v.name=(s.pool++tT)++digit j) (hp:∃u∈L,u.name=s.pool/\eZ u=5):ah0 ext L v s
 |comp {kind n:Int} {names:QN} {lengths:PI} (hk:kind=3\/kind=4\/kind=5\/kind=7) (hR:lZ ext n v.name kind names lengths s) (hn:1<=n/\n<=3) (i:Nat) (hi:1<=i/\i<=4) (hvn:v.name=letter i)
   (lk:∀(j:Nat) (nm:H6) (l:Int),names[j]?=Vv nm->lengths[j]?=Vv l->LK L nm l):ah0 ext L v s
def LK.mono(hs:∀u∈L,u∈L'){l:Int}(h:LK L nm l):LK L' nm l:=by
 obtain⟨u,hu,r⟩:=h;exact⟨u,hs u hu,r⟩
def ah0.mono{ext:Int}(hs:∀u∈L,u∈L')(h:ah0 ext L v s):ah0 ext L' v s:=by
 cases h with
 |plain h=>exact .plain h
 |thin hk ha hl hv j hd hn hp =>
  obtain⟨u,hu,r⟩:=hp;exact .thin hk ha hl hv j hd hn ⟨u,hs u hu,r⟩
 |comp hk hR hn i hi hvn lk=>exact .comp hk hR hn i hi hvn fun j nm l a b=>(lk j nm l a b).mono hs
structure ak6(ext:Int)(L:wy ay)(v:ay):Prop where
 nm:nE v=VR
 tg:eP v.tags=0
 sl:1<=Wq v.Gf/\Wq v.Gf<=64
 fm:qV ext (Wq v.Gf) v.Gf 0=0
 sg:∀s∈v.Gf,ah0 ext L v s
 hk:v.hidden=VR->eZ v=1
def ag5(L:wy ay):QN:=(L.filter (·.hidden)).map (·.name)
structure Blk(ext id lo hi:Int)(i:Nat)(new:wy ay):Prop where
 len:new.length<=8
 nd:(new.map (·.name)).Nodup
 hd:∀v∈new,v.name.data.toList.head?=(letter i).data.toList.head?
 ids:∃ms:PI,new.map (·.id)=ms.map (oX id)/\ms.Pairwise (·<·)/\∀m∈ms,lo<m/\m<=hi
 vgo:∀v∈new,ak6 ext new v
 us:dA (aA new) VN=ag5 new
def KG(c:H6):wy (Int × QN × H6) :=
 [(3,aI c 2,es),(3,aI c 3,es),(3,aI c 2,c++qm),(3,aI c 3,c++qm),(4,aI c 3,es),(4,aI c 4,es),(5,[c++Ab,c++Aj],es),(7,[c++EO,c++Aj,c++Ab],es)]
def UV(q:Int × QN × H6):QN:=q.2.1++if q.2.2.toList.isEmpty then [] else [q.2.2]
def WP(c:H6)(j:Nat):H6:=(c++tT)++digit j
def checkN(c:H6)(q:Int × QN × H6):Bool :=
 V7 (((UV q++[c,WP c 2,WP c 1]).map fun b=>b.data.toList).Nodup)&&(UV q++[c,WP c 2,WP c 1]).all (fun b=>b.data.toList.head? == c.data.toList.head?)&&(UV q).all zH&&[c,WP c 2,WP c 1].all jo &&
  jS ⟨c,0,VN,VN,[],[]⟩ ⟨0,0,q.1,gB q.2.1,0,[],q.2.2,es,0,0,0⟩
def am8:(KG (letter 1)).all (checkN (letter 1))=VR:=by kernel_rfl
def an2:(KG (letter 2)).all (checkN (letter 2))=VR:=by kernel_rfl
def am7:(KG (letter 3)).all (checkN (letter 3))=VR:=by kernel_rfl
def an4:(KG (letter 4)).all (checkN (letter 4))=VR:=by kernel_rfl
def aj9(hi:1<=i/\i<=4):∀q∈KG (letter i),checkN (letter i) q=VR:=by
 rcases(show i=1\/i=2\/i=3\/i=4 by omega)with rfl|rfl|rfl|rfl
 ·exact An.1 am8
 ·exact An.1 an2
 ·exact An.1 am7
 exact An.1 an4
structure an0(c:H6)(q:Int × QN × H6):Prop where
 nd:(UV q++[c,WP c 2,WP c 1]).Nodup
 hd:∀b∈UV q++[c,WP c 2,WP c 1],b.data.toList.head?=c.data.toList.head?
 hid:∀b∈UV q,zH b=VR
 vis:∀b∈[c,WP c 2,WP c 1],jo b=VR
 nmd:jS ⟨c,0,VN,VN,[],[]⟩ ⟨0,0,q.1,gB q.2.1,0,[],q.2.2,es,0,0,0⟩=VR
def aj2(hi:1<=i/\i<=4){q:Int × QN × H6}(hq:q∈KG (letter i)):an0 (letter i) q:=by
 have h:=aj9 hi q hq;unfold checkN at h;simp only[eh]at h;obtain⟨⟨⟨⟨h1,h2⟩,h3⟩,h4⟩,h5⟩:=h;refine⟨?_,fun b hb=>by simpa using An.1 h2 b hb,An.1 h3,An.1 h4,h5⟩;have:=of_decide_eq_true h1;exact List.Pairwise.of_map _ (fun a b hab e=>hab TdN) this
def TdG(h:gt:=by simp[KG]):=h
def TdY(h:gt:=by simp[UV,e0]):=h
def lZ.shape{c:H6}{names:QN}(h:lZ e n c kind names lengths x) :
  ∃q∈KG c,q.1=kind/\x.kind=kind/\x.Ga=gB q.2.1/\x.log=q.2.2/\names=UV q/\x.pool=es/\names.length=lengths.length/\names.length<=4:=by
 have e0:es.toList.isEmpty=VR:=by rw[A6];rfl
 cases h with
 |mirror k hk ch hc st hst =>
  rcases(show k=2\/k=3 by omega)with rfl|rfl
  ·exact⟨(3,aI c 2,es),TdG,rfl,rfl,rfl,rfl,TdY,rfl,Tdo,Tdo⟩
  exact⟨(3,aI c 3,es),TdG,rfl,rfl,rfl,rfl,TdY,rfl,Tdo,Tdo⟩
 |mirrorLog k hk ch hc st hst =>
  have e1:(c++qm).toList.isEmpty=VN:=lS (by rw[CA];have:qm.size=4:=rfl;omega);rcases(show k=2\/k=3 by omega)with rfl|rfl
  ·exact⟨(3,aI c 2,c++qm),TdG,rfl,rfl,rfl,rfl,by simp[UV,e1],rfl,Tdo,Tdo⟩
  exact⟨(3,aI c 3,c++qm),TdG,rfl,rfl,rfl,rfl,by simp[UV,e1],rfl,Tdo,Tdo⟩
 |parity k hk ch hc =>
  rcases(show k=3\/k=4 by omega)with rfl|rfl
  ·exact⟨(4,aI c 3,es),TdG,rfl,rfl,rfl,rfl,TdY,rfl,Tdo,Tdo⟩
  exact⟨(4,aI c 4,es),TdG,rfl,rfl,rfl,rfl,TdY,rfl,Tdo,Tdo⟩
 |pool l ch hl hc=>exact⟨(5,[c++Ab,c++Aj],es),TdG,rfl,rfl,rfl,rfl,TdY,rfl,rfl,XN⟩
 |cache l m ch hl hm hc=>exact⟨(7,[c++EO,c++Aj,c++Ab],es),TdG,rfl,rfl,rfl,rfl,TdY,rfl,rfl,XN⟩
def lZ.len{c:H6}{names:QN}(h:lZ e n c kind names lengths x)(he:e∈([1,2,4,8,16]:PI))(hn:1<=n/\n<=3):∀l∈lengths,1<=l/\l<=1000:=by
 simp only[dr,cY,dg]at he;intro l hl;cases h with
 |mirror k hk ch hc st hst=>rw[tM]at hl;omega
 |mirrorLog k hk ch hc st hst =>
  rcases AS.1 hl with q|q
  ·rw[tM]at q;omega
  obtain rfl:=AM.1 q;rcases he with rfl|rfl|rfl|rfl|rfl<;>omega
 |parity k hk ch hc =>
  rw[tM]at hl;obtain⟨_,rfl⟩:=hl;rcases he with rfl|rfl|rfl|rfl|rfl<;>omega
 |pool l1 ch hl1 hc=>simp only[dr,cY,dg]at hl;omega
 |cache l1 m ch hl1 hm hc=>simp only[dr,cY,dg]at hl;omega
def ah7{l:QN}(h:List.Sublist l iQ):eP l=0:=by
 unfold iQ at h;rcases h with _|⟨_,h⟩|⟨_,h⟩<;>rcases h with _|⟨_,h⟩|⟨_,h⟩<;>rcases h with _|⟨_,h⟩|⟨_,h⟩<;>rcases h with _|⟨_,h⟩|⟨_,h⟩<;>cases h<;>kernel_rfl
theorem lD.lk(h:lD id c ns ls ps vl) :
  vl.map (·.name)=ns/\ns.length=ls.length/\(∃ms:PI,vl.map (·.id)=ms.map (oX id)/\ms.Pairwise (·<·)/\∀m∈ms,c<m/\m<=c+ns.length) /\
  (∀v∈vl,∃nm l on s,nm∈ns/\l∈ls/\∃i,v=eD nm i VR l on s)/\∀(j:Nat) (nm:H6) (l:Int),ns[j]?=Vv nm->ls[j]?=Vv l->∃i on s,eD nm i VR l on s∈vl:=by
 induction h with
 |nil=>exact⟨rfl,rfl,⟨[],rfl,List.Pairwise.nil,fun m hm=>by cases hm⟩,fun v hv=>(by cases hv),fun j nm l hj=>by simp at hj⟩
 |@snoc ns ls ps vl nm on l s h ih =>
  obtain⟨e1,e2,⟨ms,e3,e4,e5⟩,e6,e7⟩:=ih;refine⟨by simp[e1,eD],by simp[e2],⟨ms++[c+ns.length+1],by simp[e3,eD],?_,fun m hm=>?_⟩,fun v hv=>?_,fun j a5 l' h1 h2=>?_⟩
  ·exact GB.2 ⟨e4,L7 ..,fun a ha b hb=>by
    obtain rfl:=AM.1 hb;have:=e5 a ha;omega⟩
  ·rw[cD,A4];rcases AS.1 hm with q|q
   ·have:=e5 m q;omega
   obtain rfl:=AM.1 q;omega
  ·rcases AS.1 hv with q|q
   ·obtain⟨a5,l',on',s',a1,a2,i,a3⟩:=e6 v q;exact⟨a5,l',on',s',ju _ a1,ju _ a2,i,a3⟩
   obtain rfl:=AM.1 q;exact⟨nm,l,on,s,XN,XN,_,rfl⟩
  by_cases c1:j<ns.length
  ·rw[Fo c1]at h1;rw[Fo WQ]at h2;obtain⟨i,on',s',a⟩:=e7 j a5 l' h1 h2;exact⟨i,on',s',ju _ a⟩
  have hj:=(AT.1 h1).1;rw[cD,A4]at hj;obtain rfl:j=ns.length:=by omega
  rw[Cp (bk _),Nat.sub_self]at h1;rw[e2,Cp (bk _),Nat.sub_self]at h2;obtain rfl:nm=a5:=by simpa using h1
  obtain rfl:l=l':=by simpa using h2
  exact⟨_,_,_,P9 _ (AM.2 lX)⟩
def am0{i:Int}{l:Int}{on:H6}{s:Int}(h:1<=l/\l<=1000):C8 (eD nm i hd l on s)=l:=by
 simp only[C8,eD,dE,cF,cq,fF];omega
theorem iO.ex{c:H6}(h:iO id c k lo j tl)(hk:k<=2) :
  (tl.map (·.name)).Sublist [WP c 2,WP c 1]/\(∃ms:PI,tl.map (·.id)=ms.map (oX id)/\ms.Pairwise (·<·)/\∀m∈ms,lo<=m/\m<lo+tl.length)/\tl.length<=2 /\
  ∀v∈tl,∃(i:Int) (len:Int) (j:Nat),1<=len/\len<=4/\1<=j/\j<=2/\v=jY c i len j:=by
 have On:=h.len;have key:∀v∈tl,∃(i:Int) (len:Int) (j:Nat),1<=len/\len<=4/\1<=j/\j<=2/\v=jY c i len j:=by
  clear On;induction h with
  |nil=>intro v hv;cases hv
  |snoc h hl ih =>
   intro v hv;rcases AS.1 hv with q|q
   ·exact ih v q
   obtain rfl:=AM.1 q;have:=h.len;exact⟨_,_,_,hl.1,hl.2,WQ,WQ,rfl⟩
 have ids:∃ms:PI,tl.map (·.id)=ms.map (oX id)/\ms.Pairwise (·<·)/\∀m∈ms,lo<=m/\m<lo+tl.length:=by
  clear On key;induction h with
  |nil=>exact⟨[],rfl,List.Pairwise.nil,fun m hm=>by cases hm⟩
  |@snoc j vl len h hl ih =>
   obtain⟨ms,e3,e4,e5⟩:=ih;refine⟨ms++[lo+vl.length],by simp[e3,jY],GB.2 ⟨e4,L7 ..,fun a ha b hb=>?_⟩,fun m hm=>?_⟩
   ·obtain rfl:=AM.1 hb;have:=e5 a ha;omega
   rw[cD,A4];rcases AS.1 hm with q|q
   ·have:=e5 m q;omega
   obtain rfl:=AM.1 q;omega
 refine⟨?_,ids,WQ,key⟩;clear ids key;cases h with
 |nil=>exact MY _
 |snoc h1 _=>cases h1 with
  |nil =>
   rcases(show j=0\/j=1 by omega)with rfl|rfl
   ·exact List.Sublist.cons _ (List.Sublist.refl _)
   exact List.Sublist.cons₂ _ (MY _)
  |snoc h2 _=>cases h2 with
   |nil =>
    obtain rfl:j=0:=by omega
    exact List.Sublist.refl _
   |snoc h3 _ =>
    have:=h3.len;exfalso
    omega
def ak6.mono{ext:Int}(hs:∀u∈L,u∈L')(h:ak6 ext L v):ak6 ext L' v:=⟨h.nm,h.tg,h.sl,h.fm,fun s k=>(h.sg s k).mono hs,h.hk⟩
def ai7(x:aB)(l:wy aB):bg (x :: l)=x.length+bg l:=by simp[bg]
def af8(ext:Int)(m:Nat){x:aB}:∀(l:wy aB) (st:Int),qV ext m l st=0->bJ ext x (st+bg l)=VR->(oO x.kind).several=VR->qV ext m (l++[x]) st=0
 |[],st,_,hf,hs=>by
  have e:st+bg []=st:=by simp[bg]
  rw[e]at hf;simp[qV,hf,hs]
 |y :: l,st,h,hf,hs=>by
  rw[IT];unfold qV at h ⊢;split at h
  ·cases h
  rename_i c1;rw[bh c1];split at h
  ·cases h
  rename_i c2;rw[bh c2];refine af8 ext m (x:=x) l _ h ?_ hs;rw[ai7,<- Int.add_assoc]at hf;exact hf
def NE:es.toList.isEmpty=VR:=by rw[A6];rfl
def ah6(ext st n:Int)(on:H6)(s:Int)(h:1<=n/\n<=1000):bJ ext (aV st n 1 [⟨VN,on,s⟩] 0) st=VR:=by
 have h1:V7 (1<=n)=VR:=eA h.1;have h2:V7 (n<=32768)=VR:=eA WQ;simp[bJ,shapeOf,aV,bT,fq,dP,bE,NE,h1,h2];exact⟨h1,h2⟩
def ak1{ext n kind:Int}(h:1<=n/\n<=1000)(hk:kind=9\/kind=10):bJ ext (aV st n kind [] 0) st=VR:=by
 have h1:V7 (1<=n)=VR:=eA h.1;have h2:V7 (n<=32768)=VR:=eA WQ;rcases hk with rfl|rfl<;>simp[bJ,shapeOf,aV,fq,dP,bE,NE,h1,h2]<;>exact⟨h1,h2⟩
def ak7{ext n dn:Int}{on on':H6}{s s':Int}(h:1<=n/\n<=1000)(hd:0<=dn/\dn<=n):bJ ext (aV st n 8 [⟨VN,on,s⟩,⟨VN,on',s'⟩] dn) st=VR:=by
 have h1:V7 (1<=n)=VR:=eA h.1;have h2:V7 (n<=32768)=VR:=eA WQ;have h3:V7 (0<=dn)=VR:=eA hd.1;have h4:V7 (dn<=n)=VR:=eA hd.2;simp[bJ,shapeOf,aV,bT,fq,dP,bE,NE,h1,h2,h3,h4];exact⟨⟨h1,h2⟩,h3,h4⟩
def fB.form{s:Int}{on:H6}(ext:Int)(m:Nat)(h:fB [dE n on s] l)(hn:1<=n/\n<=1000):qV ext m l 0=0:=by
 induction h with
 |nil =>
  have h1:=ah6 ext 0 n on s hn;have h2:(dE n on s)=aV 0 n 1 [⟨VN,on,s⟩] 0:=rfl;have h3:(oO 1).several=VR:=rfl;rw[h2];simp only[qV,h1];simp[aV,h3]
 |@void l' n' kind h hn' hk ih =>
  refine af8 ext m _ _ ih ?_ (by rcases hk with rfl|rfl<;>rfl);rw[Int.zero_add];exact ak1 WQ hk
 |lin h hn' ih =>
  refine af8 ext m _ _ ih ?_ lX;rw[Int.zero_add];exact ah6 _ _ _ _ _ WQ
 |move h hn' hd ih =>
  refine af8 ext m _ _ ih ?_ lX;rw[Int.zero_add];exact ak7 WQ hd
def ag2(st n s:Int)(on:H6):af6 (aV st n 1 [⟨VN,on,s⟩] 0):=⟨.inl (.inl lX),fun a ha=>by
  obtain rfl:a=⟨VN,on,s⟩:=by simpa[aV]using ha
  rfl,fun q=>absurd (.inl lX) q,rfl⟩
def fB.plain{s:Int}{on:H6}(h:fB [dE n on s] l):∀x∈l,af6 x:=by
 induction h with
 |nil =>
  intro x hx;obtain rfl:=AM.1 hx;exact ag2 0 n s on
 |void h hn' hk ih =>
  intro x hx;rcases AS.1 hx with q|q
  ·exact ih x q
  obtain rfl:=AM.1 q;exact⟨.inr hk,fun a ha=>by simp[aV]at ha,fun _=>rfl,rfl⟩
 |lin h hn' ih =>
  intro x hx;rcases AS.1 hx with q|q
  ·exact ih x q
  obtain rfl:=AM.1 q;exact ag2 _ _ _ _
 |move h hn' hd ih =>
  intro x hx;rcases AS.1 hx with q|q
  ·exact ih x q
  obtain rfl:=AM.1 q;refine⟨.inl (.inr (.inr lX)),fun a ha=>?_,fun q=>absurd (.inr (.inr lX)) q,rfl⟩;simp only[aV,dr,cY,dg]at ha;rcases ha with rfl|rfl<;>rfl
def al2{ext k n:Int}(hk:2<=k/\k<=3)(hn:1<=n/\n<=2)(hl:(al.length:Int)=k)(ha:∀a∈al,a.vol=VN):bJ ext (ic k n al) 0=VR:=by
 have h0:al.all (bT ⟨2,6,VN,VR,1,VN,VN,VN,VN,VN⟩)=VR:=An.2 fun a h=>by simp[bT,ha a h]
 have hm:(k*n)%(al.length:Int)=0:=by rw[hl];exact Int.mul_emod_right k n
 have hp:1<=k*n/\k*n<=6:=by
  rcases(show k=2\/k=3 by omega)with rfl|rfl<;>omega
 have h1:V7 (1<=k*n)=VR:=eA hp.1;have h2:V7 (k*n<=32768)=VR:=eA WQ;have h3:V7 (2<=(al.length:Int))=VR:=eA WQ;have h4:V7 ((al.length:Int)<=6)=VR:=eA WQ;simp only[bJ,shapeOf,ic];simp[h0,h1,h2,h3,h4,hm,fq,dP,bE,NE];exact⟨⟨⟨h1,h2⟩,h3⟩,h4⟩
def aj4(x:eX)(hx:x.F9=VR){l:QN}:(gB l).all (bT x)=VR:=An.2 fun a h=>by
 obtain⟨n,_,rfl⟩:=As.1 h;simp[bT,hx]
def af5(l:QN):(gB l).length=l.length:=by simp[gB]
def IR(c:H6)(k:Nat):(aI c k).length=k:=by simp[aI]
def lZ.form{c:H6}{names:QN}(h:lZ e n c kind names lengths x)(hn:1<=n/\n<=3)(he:1<=e):bJ e x 0=VR:=by
 have h1:V7 (1<=n)=VR:=eA hn.1;have h2:V7 (n<=32768)=VR:=eA WQ;cases h with
 |mirror k hk ch hc st hst =>
  have e1:∀x:eX,x.F9=VR->(gB (aI c k)).all (bT x)=VR:=fun x hx=>aj4 x hx;have a1:V7 ((2:Int)<=(k:Int))=VR:=eA WQ;have a2:V7 ((k:Int)<=6)=VR:=eA WQ;have a3:V7 (1<=ch)=VR:=eA WQ;have a4:V7 (ch<=1024)=VR:=eA WQ;rcases hst with rfl|⟨i,a7,hi2,rfl⟩
  ·simp[bJ,shapeOf,e1,af5,IR,a1,a2,a3,a4,h1,h2,fq,dP,bE,NE]
  have b1:V7 (0<=i)=VR:=eA a7;have b2:V7 (i<(k:Int))=VR:=eA hi2;simp[bJ,shapeOf,e1,af5,IR,a1,a2,a3,a4,h1,h2,fq,dP,bR,bE,NE,b1,b2,List.range_succ]
 |mirrorLog k hk ch hc st hst =>
  have e1:∀x:eX,x.F9=VR->(gB (aI c k)).all (bT x)=VR:=fun x hx=>aj4 x hx;have e2:(c++qm).toList.isEmpty=VN:=lS (by rw[CA];have:qm.size=4:=rfl;omega);have a1:V7 ((2:Int)<=(k:Int))=VR:=eA WQ;have a2:V7 ((k:Int)<=6)=VR:=eA WQ;have a3:V7 (1<=ch)=VR:=eA WQ;have a4:V7 (ch<=1024)=VR:=eA WQ;rcases hst with rfl|⟨i,a7,hi2,rfl⟩
  ·simp[bJ,shapeOf,e1,e2,af5,IR,a1,a2,a3,a4,h1,h2,fq,dP,bE,NE]
  have b1:V7 (0<=i)=VR:=eA a7;have b2:V7 (i<(k:Int)+1)=VR:=eA WQ;simp[bJ,shapeOf,e1,e2,af5,IR,a1,a2,a3,a4,h1,h2,fq,dP,bR,bE,NE,b1,b2,List.range_succ]
 |parity k hk ch hc =>
  have e1:∀x:eX,x.F9=VR->(gB (aI c k)).all (bT x)=VR:=fun x hx=>aj4 x hx
  have hp:1<=n*((k:Int)-1)/\n*((k:Int)-1)<=32768:=by
   rcases(show k=3\/k=4 by omega)with rfl|rfl<;>omega
  have a1:V7 ((3:Int)<=(k:Int))=VR:=eA WQ;have a2:V7 ((k:Int)<=6)=VR:=eA WQ;have b1:V7 (1<=n*((k:Int)-1))=VR:=eA hp.1;have b2:V7 (n*((k:Int)-1)<=32768)=VR:=eA hp.2;have hm:(n*((k:Int)-1))%((k:Int)-1)=0:=Int.mul_emod_left n _;have c1:V7 (1<=ch)=VR:=eA WQ;have c2:e%ch=0:=by
   rcases hc with rfl|rfl
   ·exact Int.emod_one _
   exact Int.emod_self
  simp[bJ,shapeOf,e1,af5,IR,a1,a2,b1,b2,c1,c2,hm,fq,dP,bE,NE]
 |pool l ch hl hc =>
  have a3:V7 (1<=ch)=VR:=eA WQ;have a4:V7 (ch<=64)=VR:=eA WQ;simp[bJ,shapeOf,gB,bT,a3,a4,h1,h2,fq,dP,bE,NE]
 |cache l m ch hl hm hc =>
  have a3:V7 (1<=ch)=VR:=eA WQ;have a4:V7 (ch<=64)=VR:=eA WQ;have a5:V7 (1<=m)=VR:=eA WQ;have a6:V7 (m<=2)=VR:=eA WQ;simp[bJ,shapeOf,gB,bT,a3,a4,a5,a6,h1,h2,fq,dP,bE,NE]
def ak9(st:Int){len:Int}{c:H6}(h:1<=len/\len<=4)(hj:1<=j/\j<=2):bJ e ⟨0,len,6,[],0,[],es,c,j,0,0⟩ 0=VR:=by
 have h1:V7 (1<=len)=VR:=eA h.1;have h2:V7 (len<=32768)=VR:=eA WQ;have h3:V7 (1<=(j:Int))=VR:=eA WQ;have h4:V7 ((j:Int)<=65535)=VR:=eA WQ;simp[bJ,shapeOf,fq,dP,bE,NE,h1,h2,h3,h4]
def ag3{ext:Int}{x:aB}(h:bJ ext x 0=VR):qV ext 1 [x] 0=0:=by simp[qV,h]
def am6{c:H6}:(3,aI c 2,es)∈KG c:=by simp[KG]
def ag8(hi:1<=i/\i<=4):jo (letter i)=VR:=(aj2 hi (am6)).vis _ (cG ..)
def ag9:eP []=0:=by kernel_rfl
def ag7(a b:wy ay):aA (a++b)=aA a++aA b:=by simp[aA]
def ah3(a b:wy (ay × aB))(p:Bool):dA (a++b) p=dA a p++dA b p:=by simp[dA]
def ah8(a b:wy ay):ag5 (a++b)=ag5 a++ag5 b:=by simp[ag5]
def ah5{l:wy (ay × aB)}{p:Bool}(h:∀q∈l,dD q.2 p=[]):dA l p=[]:=List.eq_nil_iff_forall_not_mem.2 fun nm hn=>by
 obtain⟨q,hq,h1⟩:=BY.1 hn;rw[h q hq]at h1;cases h1
def ni{p:ay × aB}(h:p∈aA L):p.1∈L/\p.2∈p.1.Gf:=by
 obtain⟨v,hv,h1⟩:=BY.1 h;obtain⟨s,hs,rfl⟩:=As.1 h1;exact⟨hv,hs⟩
def af6.used(h:af6 s)(p:Bool):dD s p=[]:=by
 unfold dD;have e1:s.Ga.filter (·.vol)=[]:=NX.2 fun a q=>by simp[h.ha a q]
 have e2:(s.kind==6)=VN:=by
  rcases h.hk with(q|q|q)|q|q<;>rw[q]<;>rfl
 rw[e1,h.hl,NE,e2,Bool.and_false];rfl
def af9(h:∀v∈vs,∀s∈v.Gf,af6 s)(p:Bool):dA (aA vs) p=[]:=ah5 fun q hq=>by
 obtain⟨q1,q2⟩:=ni hq;exact(h _ q1 _ q2).used p
def ah2(h:∀v∈vs,v.hidden=VN):ag5 vs=[]:=by
 unfold ag5;rw[NX.2 fun a q=>by simp[h a q]];rfl
def al0(h:∀v∈vs,v.hidden=VR):ag5 vs=vs.map (·.name):=by
 unfold ag5;rw[List.filter_eq_self.2 fun a q=>h a q]
def ah1{c:H6}{names:QN}(h:lZ e n c kind names lengths x)(hk:kind=3\/kind=4\/kind=5\/kind=7)(p:Bool):dD x p=names:=by
 obtain⟨q,_,h1,h2,h3,h4,h5,_⟩:=h.shape;have e6:(x.kind==6)=VN:=by rw[h2];simp;omega
 have e1:∀l:QN,((gB l).filter (·.vol)).map (·.on)=l:=fun l=>by
  induction l with
  |nil=>rfl
  |cons a l ih=>simpa[gB]using ih
 unfold dD;rw[h3,e1,h4,e6,Bool.and_false,h5];simp[UV]
def TeN(h:gt:=by show g.next<=g.next+1;omega):=h
def iy.blk(hi:1<=i/\i<=4)(h:iy (letter i) g next g' next')(he:g.Gd∈([1,2,4,8,16]:PI)) :
  ∃new,g'.F9=g.F9++new/\Blk g.Gd g.id g.next g'.next i new/\g.next<=g'.next:=by
 have a8:1<=g.Gd:=by
  simp only[dr,cY,dg]at he;omega
 have a5:∀hi':Int,Blk g.Gd g.id g.next hi' i []:=fun _=>⟨XN,XN,fun v hv=>(by cases hv),⟨[],rfl,List.Pairwise.nil,fun m hm=>by cases hm⟩,fun v hv=>(by cases hv),rfl⟩
 cases h with
 |linF=>exact⟨[],XN,a5 _,TeN⟩
 |strF _=>exact⟨[],XN,a5 _,Int.le_refl _⟩
 |@compF j _=>exact⟨[],XN,a5 _,by show g.next<=g.next+j;omega⟩
 |@lin n s on next1 next' Gf ps hn h1 hm hl h2 hs =>
  refine⟨_,rfl,⟨XN,XN,fun v hv=>?_,⟨[g.next+1],rfl,L7 ..,fun m hm=>?_⟩,fun v hv=>?_,?_⟩,TeN⟩
  ·obtain rfl:=AM.1 hv;rfl
  ·obtain rfl:=AM.1 hm;show g.next<g.next+1/\g.next+1<=g.next+1;omega
  ·obtain rfl:=AM.1 hv;exact⟨ag8 hi,ag9,⟨hm.len,Tdf⟩,hm.form _ _ WQ,fun x hx=>.plain (hm.plain x hx),fun q=>by cases q⟩
  rw[af9 fun v hv s hs=>?_,ah2 fun v hv=>?_]
  ·obtain rfl:=AM.1 hv;rfl
  obtain rfl:=AM.1 hv;exact hm.plain s hs
 |@str k n al next' hk hn hl ha h =>
  have hp:af6 (ic k n al):=⟨.inl (.inr (.inl lX)),ha,fun q=>absurd (.inr (.inl lX)) q,rfl⟩;refine⟨_,rfl,⟨XN,XN,fun v hv=>?_,⟨[g.next+1],rfl,L7 ..,fun m hm=>?_⟩,fun v hv=>?_,?_⟩,TeN⟩
  ·obtain rfl:=AM.1 hv;rfl
  ·obtain rfl:=AM.1 hm;show g.next<g.next+1/\g.next+1<=g.next+1;omega
  ·obtain rfl:=AM.1 hv;refine⟨ag8 hi,ag9,⟨by simp[tC],by simp[tC]⟩,ag3 (al2 hk hn hl ha),fun x hx=>?_,fun q=>by cases q⟩;obtain rfl:=AM.1 hx;exact .plain hp
  rw[af9 fun v hv s hs=>?_,ah2 fun v hv=>?_]
  ·obtain rfl:=AM.1 hv;rfl
  obtain rfl:=AM.1 hv;obtain rfl:=AM.1 hs;exact hp
 |@comp kind n names lengths x ps vl tl ro tags k j next' AK hn hR hH hT ht hk hk5 hth =>
  obtain⟨q,hq,e1,e2,e3,e4,e5,e6,e7,e8⟩:=hR.shape;have G:=aj2 hi hq;obtain⟨v1,_,⟨ms,v2,v3,v4⟩,v5,v6⟩:=hH.lk;obtain⟨t1,⟨ns,t2,t3,t4⟩,t5,t6⟩:=hth.ex hk;have On:=hR.len he hn;have mb:vl.length=names.length:=by rw[<- v1,fW]
  have u9:((vl++[⟨letter i,oX g.id (g.next+names.length+1),VN,ro,tags,[x]⟩]++tl:wy ay).map (·.name)).Sublist (UV q++[letter i,WP (letter i) 2,WP (letter i) 1]):=by
   rw[gl,gl,v1,e5,cV];exact(List.Sublist.refl _).append (List.Sublist.cons₂ _ t1)
  have a9:∀v∈vl,v∈(vl++[⟨letter i,oX g.id (g.next+names.length+1),VN,ro,tags,[x]⟩]++tl:wy ay):=fun v hv=>ju _ (ju _ hv);have aa:(⟨letter i,oX g.id (g.next+names.length+1),VN,ro,tags,[x]⟩:ay)∈(vl++[⟨letter i,oX g.id (g.next+names.length+1),VN,ro,tags,[x]⟩]++tl:wy ay):=ju _ (P9 _ (AM.2 lX));refine⟨vl++[⟨letter i,oX g.id (g.next+names.length+1),VN,ro,tags,[x]⟩]++tl,XN,⟨?_,u9.nodup G.nd,fun v hv=>?_,⟨ms++[g.next+names.length+1]++ns,by simp[v2,t2],?_,?_⟩,fun v hv=>?_,?_⟩,?_⟩
  ·simp only[cD,A4];omega
  ·exact G.hd _ (u9.subset (As.2 ⟨v,hv,rfl⟩))
  ·refine GB.2 ⟨GB.2 ⟨v3,L7 ..,fun a ha b hb=>?_⟩,t3,fun a ha b hb=>?_⟩
   ·obtain rfl:=AM.1 hb;have:=v4 a ha;omega
   have ab:=t4 b hb;rcases AS.1 ha with z|z
   ·have:=v4 a z;omega
   obtain rfl:=AM.1 z;omega
  ·intro m hm;show g.next<m/\m<=g.next+names.length+1+tl.length;rcases AS.1 hm with z|z
   ·rcases AS.1 z with z|z
    ·have:=v4 m z;omega
    obtain rfl:=AM.1 z;omega
   have:=t4 m z;omega
  ·rcases AS.1 hv with z|z
   ·rcases AS.1 z with z|z
    ·obtain⟨nm,l,on,s,h1,h2,i',rfl⟩:=v5 v z;have hl:=On l h2;exact⟨G.hid nm (e5 ▸ h1),ag9,⟨by simp[eD],by simp[eD]⟩,ag3 (ah6 _ 0 l on s hl),fun y hy=>by
      obtain rfl:=AM.1 hy;exact .plain (ag2 0 l s on),fun _=>rfl⟩
    obtain rfl:=AM.1 z;refine⟨ag8 hi,ah7 ht,⟨XN,XN⟩,ag3 (hR.form hn a8),fun y hy=>?_,fun q=>by cases q⟩;obtain rfl:=AM.1 hy;refine .comp AK hR hn i hi lX fun j nm l a b=>?_;obtain⟨i',on,s,hm⟩:=v6 j nm l a b;exact⟨_,a9 _ hm,rfl,rfl,am0 (On l (ct b))⟩
   obtain⟨i',len,j',a1,a2,a3,a4,rfl⟩:=t6 v z;have a7:kind=5:=Classical.byContradiction fun c=>by
    obtain⟨c1,c2⟩:=hk5 c;have:=hth.len;rw[List.length_eq_zero_iff.1 (show tl.length=0 by omega)]at z;cases z
   refine⟨?_,ag9,⟨by simp[jY],by simp[jY]⟩,ag3 (ak9 0 ⟨a1,a2⟩ ⟨a3,a4⟩),fun y hy=>?_,fun q=>by cases q⟩
   ·have eE:=G.vis;show jo (WP (letter i) j')=VR;rcases(show j'=1\/j'=2 by omega)with rfl|rfl
    ·exact eE _ XN
    exact eE _ XN
   obtain rfl:=AM.1 hy;exact .thin lX rfl rfl rfl j' lX rfl ⟨_,aa,rfl,by show x.kind=5;rw[e2,a7]⟩
  ·have n1:dA (aA vl) VN=[]:=af9 (fun v hv s hs=>by
    obtain⟨nm,l,on,s',h1,h2,i',rfl⟩:=v5 v hv;obtain rfl:=AM.1 hs;exact ag2 0 l s' on) _
   have n2:ag5 vl=names:=by
    rw[al0 fun v hv=>?_,v1];obtain⟨nm,l,on,s',h1,h2,i',rfl⟩:=v5 v hv;rfl
   have n3:dA (aA tl) VN=[]:=ah5 fun q hq=>by
    obtain⟨q1,q2⟩:=ni hq;obtain⟨i',len,j',a1,a2,a3,a4,e⟩:=t6 _ q1;rw[e]at q2;rw[AM.1 q2];simp[dD,NE]
   have n4:ag5 tl=[]:=ah2 fun v hv=>by
    obtain⟨i',len,j',a1,a2,a3,a4,rfl⟩:=t6 v hv;rfl
   have n5:dA (aA [⟨letter i,oX g.id (g.next+names.length+1),VN,ro,tags,[x]⟩]) VN=names:=by
    simp[aA,dA,ah1 hR AK]
   rw[ag7,ag7,ah3,ah3,ah8,ah8,n1,n2,n3,n4,n5];simp[ag5]
  show g.next<=g.next+names.length+1+tl.length;omega
structure GInv(c i:Nat)(g:af):Prop where
 le:i<=c
 len:Wq g.F9<=8*(c-i)
 nd:(g.F9.map (·.name)).Nodup
 hd:∀v∈g.F9,∃j,i<j/\j<=c/\v.name.data.toList.head?=(letter j).data.toList.head?
 ids:∃ms:PI,g.F9.map (·.id)=ms.map (oX g.id)/\ms.Pairwise (·<·)/\∀m∈ms,0<m/\m<=g.next
 vgo:∀v∈g.F9,ak6 g.Gd g.F9 v
 us:dA (aA g.F9) VN=ag5 g.F9
 n0:0<=g.next
def aj5(hi:i<=4)(hj:j<=4)(h:(letter i).data.toList.head?=(letter j).data.toList.head?):i=j:=by
 rcases(show i=0\/i=1\/i=2\/i=3\/i=4 by omega)with rfl|rfl|rfl|rfl|rfl<;>rcases(show j=0\/j=1\/j=2\/j=3\/j=4 by omega)with rfl|rfl|rfl|rfl|rfl<;>first|rfl|(exfalso;revert h;decide)
def bZ.inv{c:Nat}(hc:c<=4)(h0:g0.F9=[]/\g0.next=0)(he:g0.Gd∈([1,2,4,8,16]:PI))(h:bZ c g0 n0 i g next):GInv c i g/\g.Gd=g0.Gd:=by
 induction h with
 |nil=>exact⟨⟨bk _,by simp[h0.1],by simp[h0.1],fun v hv=>(by rw[h0.1]at hv;cases hv),⟨[],by simp[h0.1],List.Pairwise.nil,fun m hm=>by cases hm⟩,fun v hv=>(by rw[h0.1]at hv;cases hv),by rw[h0.1];rfl,WQ⟩,rfl⟩
 |@step i g g' next next' h hs ih =>
  obtain⟨ih,ie⟩:=ih;have hle:=ih.le;have On:=ih.len;have a7:=ih.n0;obtain⟨new,e1,B,hn⟩:=hs.blk (i:=i+1) ⟨WQ,WQ⟩ (by rw[ie];exact he);have hb:=B.len;obtain⟨ms,m1,m2,m3⟩:=ih.ids;obtain⟨ns,k1,k2,k3⟩:=B.ids;have a5:g'.id=g.id/\g'.Gd=g.Gd:=by cases hs<;>exact⟨rfl,rfl⟩
  refine⟨⟨WQ,by rw[e1,cD];omega,?_,fun v hv=>?_,⟨ms++ns,by rw[e1,gl,gl,m1,k1,a5.1],GB.2 ⟨m2,k2,fun a ha b hb=>?_⟩,fun m hm=>?_⟩,fun v hv=>?_,?_,WQ⟩,a5.2.trans ie⟩
  ·rw[e1,gl];refine GB.2 ⟨ih.nd,B.nd,fun a ha b hb e=>?_⟩;obtain⟨u,hu,rfl⟩:=As.1 ha;obtain⟨v,hv,rfl⟩:=As.1 hb;obtain⟨j,j1,j2,j3⟩:=ih.hd u hu;have:=aj5 WQ WQ (j3.symm.trans ((fj (fun n:H6=>n.data.toList.head?) e).trans (B.hd v hv)));omega
  ·rw[e1]at hv;rcases AS.1 hv with q|q
   ·obtain⟨j,j1,j2,j3⟩:=ih.hd v q;exact⟨j,WQ,j2,j3⟩
   exact⟨i+1,WQ,WQ,B.hd v q⟩
  ·have:=m3 a ha;have:=k3 b hb;omega
  ·rcases AS.1 hm with q|q
   ·have:=m3 m q;omega
   have:=k3 m q;omega
  ·rw[e1]at hv ⊢;rw[a5.2];rcases AS.1 hv with q|q
   ·exact(ih.vgo v q).mono fun u hu=>ju _ hu
   exact(B.vgo v q).mono fun u hu=>P9 _ hu
  rw[e1,ag7,ah3,ah8,ih.us,B.us]
def an1{d:Int}(h1:-1000<d)(h2:d<1000)(hc:d*3037000493=18446744073709551616*c):d=0:=by
 have h3:d*3037000493<=3037000493000:=by clear hc;omega
 have h4:-3037000493000<=d*3037000493:=by clear hc;omega
 rw[hc]at h3 h4;obtain rfl:c=0:=by clear hc;omega
 rw[Int.mul_zero]at hc;clear h3 h4;omega
def al9{a:Int}(hm:0<m/\m<=1000)(hn:0<n/\n<=1000)(h:oX a m=oX a n):m=n:=by
 unfold oX at h;have h2:=Int.emod_eq_emod_iff_emod_sub_eq_zero.1 h;have e:a*2862933555777941757+m*3037000493-(a*2862933555777941757+n*3037000493)=(m-n)*3037000493:=by clear h h2;omega
 rw[e]at h2;obtain⟨c,hc⟩:=Int.dvd_of_emod_eq_zero h2;have:=an1 (d:=m-n) (by clear h h2 hc;omega) (by clear h h2 hc;omega) hc;clear h h2 hc;omega
def af4:∀ {L:wy ay} {u:ay},(L.map (·.name)).Nodup->u∈L->aM L u.name=Vv u
 |[],_,_,h=>by cases h
 |x :: L,u,hn,h=>by
  rw[iu,List.nodup_cons]at hn;unfold aM;rw[List.find?_cons];rcases DQ.1 h with rfl|q
  ·simp
  have:V7 (x.name=u.name)=VN:=cN fun e=>hn.1 (e ▸ As.2 ⟨u,q,rfl⟩)
  rw[this];exact af4 hn.2 q
def aj0(hn:(L.map (·.name)).Nodup){u:ay}(hu:u∈L)(hv:v∈L)(e:u.name=v.name):u=v:=by
 have h1:=af4 hn hu;rw[e,af4 hn hv]at h1;exact(gj h1).symm
def ag1:∀ {l:wy ay},(∀v∈l,f v=0)->(iM f l).2=0
 |[],_=>rfl
 |v :: l,h=>by
  unfold iM;rw[aw (h v (cG ..))];exact ag1 fun x hx=>h x (kn _ hx)
def ag0{nm:α->H6}{f:Nat->α->Int}:∀ {l:wy α} {k:Nat},(∀j x,l[j]?=Vv x->f (k+j) x=0)->(gZ nm f k l).2=0
 |[],_,_=>rfl
 |x :: l,k,h=>by
  unfold gZ;have h0:f k x=0:=h 0 x lX;rw[aw h0];exact ag0 fun j y hy=>by
   have:=h (j+1) y hy;rwa[show k+(j+1)=k+1+j by omega]at this
def ae9:∀ {post pre:wy (ay × aB)},(∀a v s b,post=a++(v,s) :: b->E (pre++a) v s=0)->(bD E pre post).2=0
 |[],_,_=>rfl
 |(v,s) :: post,pre,h=>by
  unfold bD;have h0:=h [] v s post lX;rw[eM]at h0;rw[aw h0];refine ae9 fun a v' s' b e=>?_;have:=h ((v,s) :: a) v' s' b (by rw[e];rfl)
  rwa[List.append_cons]at this
def ai0:∀ {l:wy (H6 × Int)},(∀x∈l,x.2=0)->(oW l).2=0
 |[],_=>rfl
 |r :: l,h=>by
  unfold oW;rw[aw (h r (cG ..))];exact ai0 fun x hx=>h x (kn _ hx)
def al6{l:wy α}{x:α}(h:l[i]?=Vv x):l=l.take i++x :: l.drop (i+1):=by
 obtain⟨hi,e⟩:=AT.1 h;rw[<- e,<- tB hi,rk]
def ai1{a b:H6}(h:a≠b):(a.toList==b.toList)=VN:=by
 rw[A6,A6];simp only[beq_eq_false_iff_ne,ne_eq];exact fun e=>h (ByteArray.ext (Array.toList_inj.1 e))
def aj6{c:Nat}(G:GInv c i g)(hc:c<=4)(a8:g.next<=1000):(dJ g).2=0:=by
 refine ag0 fun j v hj=>?_;rw[eJ];have hv:=ct hj;have V:=G.vgo v hv;have hs:=al6 hj
 have h1:(g.F9.take j).any (fC v)=VN:=by
  rw[IS];intro x hx;have n1:=G.nd;rw[hs,gl,iu]at n1;have n2:=(GB.1 n1).2.2 x.name (As.2 ⟨x,hx,rfl⟩) v.name (cG ..);obtain⟨ms,m1,m2,m3⟩:=G.ids;have i1:(g.F9.map (·.id)).Pairwise (·≠·):=by
   rw[m1];refine List.pairwise_map.2 (m2.imp_of_mem fun {a b} ha hb hab e=>?_);have a5:=m3 a ha;have a7:=m3 b hb;have:=al9 ⟨a5.1,WQ⟩ ⟨a7.1,WQ⟩ e;omega
  rw[hs,gl,iu]at i1;have i2:=(GB.1 i1).2.2 x.id (As.2 ⟨x,hx,rfl⟩) v.id (cG ..);simp[fC,ai1 n2,i2]
 simp[yH,V.nm,h1,V.sl,V.tg]
def OnD(g:af)(s:aB)(a:aR):Prop:=∃D,bH g.Gb a.on=Vv D/\0<=a.start/\1<=aX s/\a.start+aX s<=D.Gc
def Te8(h:gt:=by unfold aK;rw[aw ho];exact List.mem_map.2 ⟨a,ha,rfl⟩):=h
def sU.onD(h:sU g):∀v∈g.F9,∀s∈v.Gf,fP s->∀a∈s.Ga,OnD g s a:=fun v hv s hs ho a ha=>by
 have hm:(a.on,a.start,aX s)∈triples g.F9:=As.2 ⟨aJ v.name s a,BY.2 ⟨v,hv,BY.2 ⟨s,hs,Te8⟩⟩,rfl⟩;obtain⟨D,hD,e1,e2,e3,e4⟩:=h.apart.1.on _ hm;obtain⟨k,hk⟩:=fc hD;have:=h.tame.dfind k D hk;rw[e1]at this;exact⟨D,this,e2,e3,e4⟩
def ai4{v':ay}{s':aB}(h1:v.name=v'.name)(h2:s.kind=s'.kind)(h3:s.Ga=s'.Ga)(h4:s.log=s'.log):jS v s=jS v' s':=by
 unfold jS vU;rw[h1,h2,h3,h4]
def af6.kd(h:af6 s):s.kind=1\/s.kind=2\/s.kind=8\/s.kind=9\/s.kind=10:=by
 rcases h.hk with(q|q|q)|q|q<;>omega
def ak0(a5:(g.F9.map (·.name)).Nodup)(hD:fP s->∀a∈s.Ga,OnD g s a)(h:ah0 g.Gd g.F9 v s):mM g v s=0:=by
 cases h with
 |plain P =>
  have k:=P.kd;have e1:jw g s=VR:=by
   unfold jw;rw[P.used VR,eh];refine⟨An.2 fun a ha=>?_,rfl⟩;by_cases ho:fP s
   ·obtain⟨D,d1,_⟩:=hD ho a ha;simp[d1]
   rw[P.h0 ho]at ha
   cases ha
  have e2:s.Ga.all (fI g s)=VR:=An.2 fun a ha=>by
   by_cases ho:fP s
   ·obtain⟨D,d1,d2,d3,d4⟩:=hD ho a ha;unfold aX at d3 d4;simp only[fI,d1,L2,tG,eh,fk];right
    omega
   rw[P.h0 ho]at ha
   cases ha
  have e3:jS v s=VR:=by
   unfold jS;rw[bh WQ,bh WQ,bh WQ]
  have e4:¬(s.kind=6/\¬eZ ((aM g.F9 s.pool).getD eY)=5):=fun q=>by omega
  simp[mM,e1,e2,e3,e4,P.used VN]
 |thin hk ha hl hv j hd hn hp =>
  obtain⟨u,hu,n1,n2⟩:=hp;have hf:=af4 a5 hu;rw[n1]at hf;have u1:dD s VR=[s.pool]:=by simp[dD,ha,hl,hk,NE]
  have u2:dD s VN=[]:=by simp[dD,ha,hl,NE]
  simp[mM,jw,ha,u1,u2,hf,n2,jS,hk]
 |@comp kind n names lengths hk hR hn i hi hvn lk =>
  obtain⟨q,hq,e1,e2,e3,e4,e5,e6,e7,e8⟩:=hR.shape;rw[hvn]at hq;have G:=aj2 hi hq;have hf:∀nm∈names,∃u,aM g.F9 nm=Vv u/\eZ u=1:=fun nm pD=>by
   obtain⟨j,hj⟩:=fc pD;have vt:=(AT.1 hj).1;obtain⟨l,hl⟩:=aj lengths j WQ;obtain⟨u,hu,n1,n2,n3⟩:=lk j nm l hj hl;exact⟨u,n1 ▸ af4 a5 hu,n2⟩
  have hv:∀a∈s.Ga,a.vol=VR:=fun a ha=>by
   rw[e3]at ha;obtain⟨b,_,rfl⟩:=As.1 ha;rfl
  have h1:jw g s=VR:=by
   unfold jw;rw[ah1 hR hk,eh];refine⟨An.2 fun a ha=>by simp[hv a ha],An.2 fun nm pD=>?_⟩;obtain⟨u,u1,_⟩:=hf nm pD;simp[u1]
  have h2:s.Ga.all (fI g s)=VR:=An.2 fun a ha=>by simp[fI,hv a ha]
  have h3:jS v s=VR:=by
   rw[<- G.nmd];exact ai4 hvn (e2.trans e1.symm) e3 e4
  have h4:¬(s.kind=6/\¬eZ ((aM g.F9 s.pool).getD eY)=5):=fun z=>by omega
  have h5:names.any (dh g)=VN:=IS.2 fun nm pD=>by
   obtain⟨u,u1,u2⟩:=hf nm pD;simp[dh,u1,u2]
  simp[mM,h1,h2,h3,h4,ah1 hR hk VN,h5]
def am4(he:e∈([1,2,4,8,16]:PI))(hn:1<=n/\n<=3)(hc:1<=c/\c<=4):1+((n*e+c-1)/c+64-1)/64<=(1+(1+(n*e+63)/64)/e)*e:=by
 simp only[dr,cY,dg]at he;rcases(show n=1\/n=2\/n=3 by omega)with rfl|rfl|rfl<;>rcases(show c=1\/c=2\/c=3\/c=4 by omega)with rfl|rfl|rfl|rfl<;>rcases he with rfl|rfl|rfl|rfl|rfl<;>decide
def am2(he:e∈([1,2,4,8,16]:PI))(hn:1<=n/\n<=3)(hk:3<=k/\k<=4):n*((k:Int)-1)/((k:Int)-1)*e+16<=(n+(15+e)/e)*e:=by
 simp only[dr,cY,dg]at he;rcases(show n=1\/n=2\/n=3 by omega)with rfl|rfl|rfl<;>rcases(show k=3\/k=4 by omega)with rfl|rfl<;>rcases he with rfl|rfl|rfl|rfl|rfl<;>decide
def Te7(h:gt:=by rcases(show k=3\/k=4 by omega)with rfl|rfl<;>rfl):=h
def aj3(a7:(g.F9.map (·.name)).Nodup)(he:g.Gd∈([1,2,4,8,16]:PI))(h:ah0 g.Gd g.F9 v s):xh g s=0:=by
 suffices hs:CX g s=VR by simp[xh,hs]
 cases h with
 |plain P =>
  have k:=P.kd;unfold CX;rw[bh WQ,bh WQ,bh WQ,bh WQ]
 |thin hk=>simp[CX,hk]
 |@comp kind n names lengths hk hR hn i hi hvn lk =>
  have hf:∀(j:Nat) (nm:H6) (l:Int),names[j]?=Vv nm->lengths[j]?=Vv l->dO g nm=l:=fun j nm l a b=>by
   obtain⟨u,hu,n1,n2,n3⟩:=lk j nm l a b;unfold dO;rw[<- n1,af4 a7 hu];exact n3
  have a5:∀(k:Nat) (a:aR),a∈gB (aI v.name k)->∃j,j<k/\(aI v.name k)[j]?=Vv a.on:=fun k a ha=>by
   obtain⟨nm,pD,rfl⟩:=As.1 ha;obtain⟨j,hj⟩:=fc pD;have:=(AT.1 hj).1;rw[IR]at this;exact⟨j,this,hj⟩
  cases hR with
  |mirror k hk' c hc st hst =>
   have a1:(gB (aI v.name k)).all (fun a=>dO g a.on==n)=VR:=An.2 fun a ha=>by
    obtain⟨j,j1,j2⟩:=a5 k a ha;simp[hf j a.on n j2 (by simp[j1])]
   simp[CX,a1,Fe,NE]
  |mirrorLog k hk' c hc st hst =>
   have a1:(gB (aI v.name k)).all (fun a=>dO g a.on==n)=VR:=An.2 fun a ha=>by
    obtain⟨j,j1,j2⟩:=a5 k a ha;simp[hf j a.on n (by rw[Fo (by rw[IR];exact j1)];exact j2) (by rw[Fo (by simp[j1])];simp[j1])]
   have a2:dO g (v.name++qm)=1+(1+(n*g.Gd+63)/64)/g.Gd:=hf k _ _ (by rw[Cp (by rw[IR];exact bk _),IR,Nat.sub_self];rfl) (by rw[Cp XN];simp);have a3:=am4 he hn hc;simp only[CX,a1,Fe,BZ,a2,Bool.true_and,tG,fk,ej];right
   exact a3
  |parity k hk' c hc =>
   have a0:aOn (⟨0,n*((k:Int)-1),4,gB (aI v.name k),c,[],es,es,0,0,0⟩:aB) 0=Ex v.name 0:=by
    rcases(show k=3\/k=4 by omega)with rfl|rfl<;>rfl
   have a2:dO g (Ex v.name 0)=n+(15+g.Gd)/g.Gd:=hf 0 _ _ Te7 Te7;have a1:(gB (aI v.name k)).all (fun a=>dO g a.on==n+(15+g.Gd)/g.Gd)=VR:=An.2 fun a ha=>by
    obtain⟨j,j1,j2⟩:=a5 k a ha;simp[hf j a.on (n+(15+g.Gd)/g.Gd) j2 (by simp[j1])]
   have a3:=am2 he hn hk';have e1:¬(4:Int)=3:=by omega
   simp only[CX,bh e1,ej,a0,a2,a1,ER,af5,IR,Bool.true_and,fk];exact a3
  |pool l c hl hc =>
   have a1:dO g (v.name++Aj)=n:=hf 1 _ _ lX rfl;have a0:aOn (⟨0,n,5,gB [v.name++Ab,v.name++Aj],c,[],es,es,0,0,0⟩:aB) 1=v.name++Aj:=rfl;simp[CX,a0,a1]
  |cache l m c hl hm hc =>
   have a1:dO g (v.name++EO)=n:=hf 0 _ _ lX rfl;have a0:aOn (⟨0,n,7,gB [v.name++EO,v.name++Aj,v.name++Ab],c,[],es,es,0,m,0⟩:aB) 0=v.name++EO:=rfl;simp[CX,a0,a1]
def an3(p q:H6 × H5):Prop:=p.1=q.1->p.2.1+p.2.2<=q.2.1\/q.2.1+q.2.2<=p.2.1
def al4(h0:0<=st)(h:∀m∈M,an3 m (nm,st,n)):tV M nm st n=VN:=by
 unfold tV;rw[IS];intro j hj;have hj:=DP.1 hj;unfold tkB;rw[Bool.not_eq_true,IS];intro m hm;have:=h m hm;simp only[eh,fk,not_and];intro e1 e2 e3;have:=this e1;dsimp only at this;omega
def ai2 :∀ {l:wy aR} {M:wy (H6 × H5)},(M++dC n l).Pairwise an3->(∀a∈l,a.vol=VN->0<=a.start)->nP n M l=VN
 |[],_,_,_=>rfl
 |a :: l,M,h,h0=>by
  unfold nP;by_cases c:a.vol=VR
  ·rw[aw c];refine ai2 ?_ fun b hb=>h0 b (kn _ hb);have e:dC n (a :: l)=dC n l:=by simp[dC,c]
   rwa[e]at h
  rw[bh c];have c':a.vol=VN:=by simpa using c
  have e:dC n (a :: l)=(a.on,a.start,n) :: dC n l:=by simp[dC,c']
  rw[e]at h;have h1:=GB.1 h;rw[al4 (h0 a (cG ..) c') fun m hm=>h1.2.2 m hm _ (cG ..)];simp only[pj,fY];refine ai2 ?_ fun b hb=>h0 b (kn _ hb);rw[cV];exact h
def ai5:∀ {L:wy ay},(∀v∈L,∀s∈v.Gf,dC (aX s) s.Ga=(aK v.name s).map af7)->lU (aA L)=triples L
 |[],_=>rfl
 |v :: L,h=>by
  have e1:aA (v :: L)=v.Gf.map (fun s=>(v,s))++aA L:=rfl;have e2:triples (v :: L)=triples [v]++triples L:=Pi [v] L;have e3:∀a b,lU (a++b)=lU a++lU b:=fun a b=>xt;rw[e1,e2,e3,ai5 fun u hu=>h u (kn _ hu),af2]
  congr 1
  unfold lU;rw[List.flatMap_map];have hv:=h v (cG ..);generalize v.Gf=ss at hv;induction ss with
  |nil=>rfl
  |cons s ss ih =>
   rw[lB,lB,ih fun x hx=>hv x (kn _ hx)];congr 1
   exact hv s (cG ..)
def ah0.marks{ext:Int}(h:ah0 ext L v s):dC (aX s) s.Ga=(aK v.name s).map af7:=by
 cases h with
 |plain P =>
  unfold aK;by_cases ho:fP s
  ·have:s.Ga.filter (fun a=>!a.vol)=s.Ga:=List.filter_eq_self.2 fun a ha=>by simp[P.ha a ha]
   rw[aw ho,dC,this,List.map_map];rfl
  rw[bh ho,P.h0 ho];rfl
 |thin hk ha hl hv j hd hn hp =>
  have:¬fP s:=by unfold fP;omega
  rw[af0 this,ha];rfl
 |@comp kind n names lengths hk hR hn i hi hvn lk =>
  obtain⟨q,hq,e1,e2,e3,e4,e5,e6,e7,e8⟩:=hR.shape;rw[af0 hR.off,dC,e3];have:(gB q.2.1).filter (fun a=>!a.vol)=[]:=NX.2 fun a ha=>by
   obtain⟨b,_,rfl⟩:=As.1 ha;simp
  rw[this];rfl
def al1:∀ {L:wy ay},(∀v∈L,∀s∈v.Gf,s.kind=6->v.Gf=[s])->(((aA L).filter fun p=>V7 (p.2.kind=6)).map (·.1.name)).Sublist (L.map (·.name))
 |[],_=>List.Sublist.refl _
 |v :: L,h=>by
  have e1:aA (v :: L)=v.Gf.map (fun s=>(v,s))++aA L:=rfl;have ih:=al1 (L:=L) fun u hu=>h u (kn _ hu);rw[e1,List.filter_append,gl,iu]
  by_cases c:∃s∈v.Gf,s.kind=6
  ·obtain⟨s,hs,k⟩:=c;rw[h v (cG ..) s hs k];simpa[k]using ih
  have:(v.Gf.map (fun s=>(v,s))).filter (fun p=>V7 (p.2.kind=6))=[]:=NX.2 fun p hp=>by
   obtain⟨s,hs,rfl⟩:=As.1 hp;simpa using fun k=>c ⟨s,hs,k⟩
  rw[this];exact ih.cons _
def ak2(a7:(g.F9.map (·.name)).Nodup)(hr:(triples g.F9).Pairwise an3)(hD:∀v∈g.F9,∀s∈v.Gf,fP s->∀a∈s.Ga,OnD g s a)(hS:∀v∈g.F9,∀s∈v.Gf,ah0 g.Gd g.F9 v s):(pE g).2=0:=by
 have h1:(bD CQ [] (aA g.F9)).2=0:=ae9 fun a v s b e=>by
  rw[GO];have eE:=ni (p:=(v,s)) (L:=g.F9) Teb;rw[<- ai5 fun v hv s hs=>(hS v hv s hs).marks,e]at hr;have e3:lU (a++(v,s) :: b)=(lU a++dC (aX s) s.Ga)++lU b:=by simp[lU]
  rw[e3]at hr;have:=ai2 (GB.1 hr).1 fun x hx a8=>by
   have S:=hS v eE.1 s eE.2;by_cases ho:fP s
   ·obtain⟨D,_,d,_⟩:=hD v eE.1 s eE.2 ho x hx;exact d
   cases S with
   |plain P=>rw[P.h0 ho]at hx;cases hx
   |thin hk ha=>rw[ha]at hx;cases hx
   |@comp kind n names lengths hk hR =>
    obtain⟨q,hq,e1,e2,e3,_⟩:=hR.shape;rw[e3]at hx;obtain⟨y,_,rfl⟩:=As.1 hx;cases a8
  simp[CQ,this]
 have h2:(bD IW [] (aA g.F9)).2=0:=ae9 fun a v s b e=>by
  rw[GO];have eE:=ni (p:=(v,s)) (L:=g.F9) Teb;unfold IW;by_cases k:s.kind=6
  ·have hno:(a.any fun p=>V7 (p.2.kind=6)&&(V7 (p.2.pool=s.pool)&&V7 (p.2.device=s.device)))=VN:=by
    rw[IS];intro p hp;simp only[eh,fk,not_and];intro k1 k2 k3;have CH:=ni (p:=p) (L:=g.F9) (by rw[e];simp[hp]);have a5:=(al1 (L:=g.F9) fun v hv s hs k=>by
     cases hS v hv s hs with
     |plain P=>have:=P.kd;omega
     |thin _ _ _ h=>exact h
     |comp hk hR=>obtain⟨q,_,_,e2,_⟩:=hR.shape;omega).nodup a7
    rw[e,List.filter_append,E1 (by simpa using k),gl,iu]at a5;refine(GB.1 a5).2.2 p.1.name (As.2 ⟨p,DS.2 ⟨hp,by simpa using k1⟩,rfl⟩) v.name (cG ..) ?_;cases hS v eE.1 s eE.2 with
    |plain P=>have:=P.kd;omega
    |comp hk hR=>obtain⟨q,_,_,e2,_⟩:=hR.shape;omega
    |thin _ _ _ _ j hd hn =>
     cases hS _ CH.1 _ CH.2 with
     |plain P=>have:=P.kd;omega
     |comp hk hR=>obtain⟨q,_,_,e2,_⟩:=hR.shape;omega
     |thin _ _ _ _ j' hd' hn' =>
      obtain rfl:j'=j:=by omega
      rw[hn,hn',k2]
   rw[aw k,bh (by rw[hno];simp)]
  rw[bh k]
 unfold pE;rw[aw h1];exact h2
def ai9:∀ {l:QN},l.Nodup->nm∈l->iJ l nm=1
 |[],_,h=>by cases h
 |a :: l,hn,h=>by
  rw[List.nodup_cons]at hn;unfold iJ;rw[List.countP_cons];by_cases c:a=nm
  ·subst c;have:List.countP (fun x=>V7 (x=a)) l=0:=List.countP_eq_zero.2 fun x hx=>by
    simpa using fun e:x=a=>hn.1 (e ▸ hx)
   rw[this];simp
  have ih:=ai9 hn.2 ((DQ.1 h).resolve_left fun e=>c e.symm);unfold iJ at ih;rw[ih];simp[c]
def ai3(l:wy (ay × aB)):QN:=l.flatMap fun p=>if p.2.kind=6 then [p.2.pool] else []
def ai8(nm:H6):∀l:wy (ay × aB),iJ (dA l VR) nm=iJ (dA l VN) nm+iJ (ai3 l) nm
 |[]=>rfl
 |p :: l=>by
  have ih:=ai8 nm l;have e0:∀a b,iJ (a++b) nm=iJ a nm+iJ b nm:=fun a b=>List.countP_append;have e1:∀q,dA (p :: l) q=dD p.2 q++dA l q:=fun q=>rfl;have e2:ai3 (p :: l)=(if p.2.kind=6 then [p.2.pool] else [])++ai3 l:=rfl
  have e3:dD p.2 VR=dD p.2 VN++(if p.2.kind=6 then [p.2.pool] else []):=by
   unfold dD;by_cases k:p.2.kind=6<;>simp[k]
  rw[e1,e1,e2,e3,e0,e0,e0,e0,ih];omega
def ak4(a5:(g.F9.map (·.name)).Nodup)(a7:dA (aA g.F9) VN=ag5 g.F9)(hV:∀v∈g.F9,ak6 g.Gd g.F9 v):(rY g).2=0:=by
 refine ag1 fun v hv=>?_;have ef:∀p,EJ g p=dA (aA g.F9) p:=fun p=>rfl;unfold yt;cases hh:v.hidden with
 |true =>
  have h1:iJ (ag5 g.F9) v.name=1:=ai9 ((List.filter_sublist.map _).nodup a5) (As.2 ⟨v,DS.2 ⟨hv,hh⟩,rfl⟩);have h2:iJ (ai3 (aA g.F9)) v.name=0:=List.countP_eq_zero.2 fun x hx=>by
   obtain⟨p,hp,hx⟩:=BY.1 hx;obtain⟨q1,q2⟩:=ni hp;split at hx
   ·rename_i k;obtain rfl:=AM.1 hx;simp only[fk];intro e;cases (hV _ q1).sg _ q2 with
    |plain P=>have:=P.kd;omega
    |comp hk hR=>obtain⟨q,_,_,e2,_⟩:=hR.shape;omega
    |thin _ _ _ _ j hd hn hp =>
     obtain⟨u,hu,n1,n2⟩:=hp;have:=aj0 a5 hu hv (n1.trans e);subst this;have:=(hV u hu).hk hh;omega
   cases hx
  rw[aw lX,ef VR,ai8,a7,h1,h2];rfl
 |false =>
  have h1:iJ (ag5 g.F9) v.name=0:=List.countP_eq_zero.2 fun x hx=>by
   obtain⟨u,hu,rfl⟩:=As.1 hx;obtain⟨u1,u2⟩:=DS.1 hu;simp only[fk];intro e;have:=aj0 a5 u1 hv e;subst this;rw[hh]at u2;cases u2
  rw[bh XN,ef VN,a7,h1];rfl
def an5:jo vgT=VR:=by kernel_rfl
def am5:jo BQ=VR:=by kernel_rfl
def am9(k:Nat)(hk:k<=3):jo (pvT++digit k)=VR:=by
 rcases(show k=0\/k=1\/k=2\/k=3 by omega)with rfl|rfl|rfl|rfl<;>kernel_rfl
structure BV(g:af):Prop where
 nd:(g.F9.map (·.name)).Nodup
 vgo:∀v∈g.F9,ak6 g.Gd g.F9 v
 us:dA (aA g.F9) VN=ag5 g.F9
 on:∀v∈g.F9,∀s∈v.Gf,fP s->∀a∈s.Ga,OnD g s a
 row:(triples g.F9).Pairwise an3
 ext:g.Gd∈([1,2,4,8,16]:PI)
def BV.mchk(h:BV g)(h1:(dZ g).2=0)(h2:(dw g).2=0)(h3:(dJ g).2=0):(mchk g).2=0:=by
 have yq:∀v∈g.F9,∀s∈v.Gf,ah0 g.Gd g.F9 v s:=fun v hv=>(h.vgo v hv).sg;refine ai0 fun x hx=>?_;simp only[dr,cY,dg]at hx;rcases hx with rfl|rfl|rfl|rfl|rfl|rfl|rfl|rfl
 ·exact h1
 ·exact h2
 ·exact h3
 ·exact ag1 fun v hv=>(h.vgo v hv).fm
 ·exact ae9 fun a v s b' e=>by
   have eE:=ni (p:=(v,s)) (L:=g.F9) Teb;exact ak0 h.nd (h.on v eE.1 s eE.2) (yq v eE.1 s eE.2)
 ·exact ae9 fun a v s b' e=>by
   have eE:=ni (p:=(v,s)) (L:=g.F9) Teb;exact aj3 h.nd h.ext (yq v eE.1 s eE.2)
 ·exact ak2 h.nd h.row h.on yq
 exact ak4 h.nd h.us h.vgo
def Om:H6:=⟨#[110,101,119]⟩
def MV(hj:j<=4):Om.data.toList.head?≠(letter j).data.toList.head?:=by
 rcases(show j=0\/j=1\/j=2\/j=3\/j=4 by omega)with rfl|rfl|rfl|rfl|rfl<;>decide
def Pj:((FF 45).all fun m=>m==0||(V7 (0<(m*1151190537210837489)%9223372036854775808)&&V7 ((m*1151190537210837489)%9223372036854775808<9223372036854774809)))=VR:=by decide
def Ou{i:Int}(hi:0<=i/\i<=999)(hm:0<m/\m<=44):oX i m≠9223372036854775808:=fun h=>by
 obtain⟨m,rfl⟩:=D4 (Int.le_of_lt hm.1);have h1:=An.1 Pj m (DP.2 WQ);rw[tG,eh,fk,fk,beq_iff_eq]at h1;have h2:(i+(m:Int)*1151190537210837489)%9223372036854775808=0:=by
  unfold oX at h;omega
 rw[show(m:Int)*1151190537210837489=((m*1151190537210837489:Nat):Int) from lX]at h2;generalize m*1151190537210837489=x at *;omega
def sU.all(h:sU g):(mchk g).2=0/\BV g/\(∀v∈g.F9,v.name≠Om/\v.id≠9223372036854775808)/\∀D∈g.Gb,0<=D.Gc/\D.Gc<=60:=by
 have aa:=h.apart;have ab:=h.onD;obtain⟨c,g0,g1,next,hc,a5,hid,ae,a7,a9,S9,hv0,_,CD,hdk,ye,hg,ai,af⟩:=h.ex;have ag:1<=g0.Gd/\g0.Gd<=16:=by
  simp only[dr,cY,dg]at a7;omega
 have vu:∀D∈g0.Gb,0<=D.Gc/\D.Gc<=60:=fun D hD=>by
  exact TcE
 have ah:DOk g0.Gb (DE (Wq g0.Gb) 0):=⟨XN,WQ,WQ,fun D hD=>by have:=vu D hD;omega,fun d m hm=>by
  have:=ct hm;rw[tM]at this;omega⟩
 have b:=bZ.bd ⟨hv0,a9⟩ ag ah ye;obtain⟨G,ge⟩:=ye.inv hc ⟨hv0,a9⟩ a7;have hb:=b.same;have aj:=b.nx2;have ak:=b.nx1;have G':GInv c 0 g:=by
  rw[hg];exact⟨G.le,G.len,G.nd,G.hd,G.ids,G.vgo,G.us,G.n0⟩
 have TU:g.Gd=g0.Gd:=by rw[hg];exact ge
 have a8:g.Gb=g0.Gb:=by rw[hg];exact hb.2.2.2.2.2.1
 have am:g.next<=44/\0<=g.next:=by rw[hg];dsimp only;omega
 have K2:=G'.len;have V:BV g:=⟨G'.nd,G'.vgo,G'.us,ab,aa.1.row.imp fun q e=>.inl (q e),by rw[TU];exact a7⟩;refine⟨V.mchk ?_ ?_ (aj6 G' hc WQ),V,fun v hv=>⟨fun e=>?_,fun e=>?_⟩,a8 ▸ vu⟩
 ·have e1:jo g.name=VR:=by rw[hg];dsimp only;rw[hb.1,a5];exact an5
  have e2:lm g:=by
   have:g.seq=g0.seq:=by rw[hg];exact hb.2.2.1
   unfold lm;rw[TU,this];omega
  have e3:iR g:=⟨by rw[a8];omega,WQ,WQ⟩
  have e4:eP g.tags=0:=by
   have:g.tags=g0.tags:=by rw[hg];exact hb.2.2.2.2.1
   rw[this];exact ah7 S9
  have e5:g.history.all lL=VR:=An.2 fun y hy=>by
   obtain⟨i,i1,i2,rfl⟩:=af y hy;simp only[lL,am5,Bool.true_and,fk];omega
  simp[dZ,qX,e1,e2,e3,e4,e5]
 ·refine ag0 fun j D hj=>?_
  rw[eJ];rw[a8]at hj;have vt:=(AT.1 hj).1;have K:=hdk j D hj;have e1:jo D.name=VR:=by rw[K.name];exact am9 j WQ
  have e2:(g.Gb.take j).any (dG D)=VN:=by
   rw[IS];intro E hE;rw[a8]at hE;obtain⟨k,hk⟩:=fc hE;rw[xF]at hk;split at hk
   ·rename_i hkj;have K':=hdk k E hk;have n1:E.name≠D.name:=fun e=>by
     rw[K.name,K'.name]at e;have:=Fq WQ WQ e;omega
    have n2:E.id≠D.id:=fun e=>by rw[K.id,K'.id]at e;omega
    simp[dG,ai1 n1,n2]
   cases hk
  have e3:jQ g D:=by
   have q1:=vu D (ct hj);have q2:=K.first;unfold jQ;rw[TU];simp only[dr,cY,dg]at a7;rcases a7 with q|q|q|q|q<;>rw[q]<;>omega
  simp[pg,e1,e2,e3,ah7 K.tags]
 ·obtain⟨j,_,j1,j2⟩:=G'.hd v hv;rw[e]at j2;exact MV WQ j2
 obtain⟨ms,m1,_,m3⟩:=G'.ids;have:v.id∈ms.map (oX g.id):=m1 ▸ As.2 ⟨v,hv,rfl⟩;obtain⟨m,hm,q⟩:=As.1 this;have:=m3 m hm;have ao:g.id=g0.id:=by rw[hg];exact hb.2.1
 exact Ou WQ WQ (q.trans e)
def sU.mchk(h:sU g):(mchk g).2=0:=h.all.1
open Go.Shelf
variable {p l x:wy UInt8}
def KH{s:H6}{k:Nat}(h:k<s.size):s.data.toList[k]?=Vv s[k]:=by
 rw[lO Tdx];rfl
def inL(c:UInt8)(l:wy UInt8):Bool:=l.any fun x=>x==c
def Lc{a b:UInt8}(h:¬(a.toNat:Int)=(b.toNat:Int)):(a==b)=VN:=by
 rw[beq_eq_false_iff_ne];intro e;exact h TdN
def J2(c:UInt8)(s:H6)(w:H7)(hs:s.size<=9223372036854775807):Calls prog 156 #[Bm .u8 c.toNat,By s] w fun e w'=>e=S6 (Ft (inL c s.data.toList))/\w=w':=by
 go_enter func156,ntmps156;go_wp2
 go_loop[5] (fun i=>∃k:Nat,k<=s.size/\i=Bm Sj k/\(∀j x,j<k->s.data.toList[j]?=Vv x->(x==c)=VN)) (fun i=>s.size-(intOf i).toNat)
 exact⟨0,cg _,rfl,fun j x hj=>by omega⟩;obtain⟨k,hk,rfl,hno⟩:=hrel;replace hno:=aa hno;by_cases hlt:k<s.size
 ·have HC:=aa (KH hlt);by_cases he:(s[k].toNat:Int)=(c.toNat:Int)
  ·have HT:Hid (inL c s.data.toList=VR):=aa (by
    unfold inL;rw[nh];exact⟨s[k],ct HC.o,by rw[beq_iff_eq];exact UInt8.toNat_inj.1 WQ⟩)
   have hq:((s[k].toNat:Int)==(c.toNat:Int))=VR:=by simpa using he
   clear he;go_wp2;go_ret;exact⟨ah HT.o.symm,rfl⟩
  have HN:Hid (∀j x,j<k+1->s.data.toList[j]?=Vv x->(x==c)=VN):=aa fun j x hj hx=>by
   by_cases hjk:j=k
   ·subst hjk;rw[HC.o]at hx;cases hx
    exact Lc he
   exact hno.o j x WQ hx
  have hq:((s[k].toNat:Int)==(c.toNat:Int))=VN:=by simpa using he
  clear he;go_wp2;go_round;exact⟨k+1,WQ,Zf,HN.o⟩;exact Ti
 obtain rfl:k=s.size:=by omega
 have HT:Hid (inL c s.data.toList=VN):=aa (by
  unfold inL;rw[IS];intro x hx;obtain⟨j,hj⟩:=fc hx;have:=hno.o j x TeE hj;simp[this])
 go_wp2;go_ret;exact⟨ah HT.o.symm,rfl⟩
def KI(c:Int):Bool:=V7 (97<=c)&&V7 (c<=122)||decide (65<=c)&&V7 (c<=90)||decide (48<=c)&&V7 (c<=57)
def Kq(c:Int):(KI c=VR/\((V7 (97<=c)=VR/\V7 (c<=122)=VR)\/(V7 (97<=c)=VN/\V7 (65<=c)=VR/\V7 (c<=90)=VR)\/(V7 (97<=c)=VN/\V7 (65<=c)=VN/\V7 (48<=c)=VR/\V7 (c<=57)=VR))) \/
  (KI c=VN/\((V7 (97<=c)=VN/\V7 (65<=c)=VN/\V7 (48<=c)=VN)\/(V7 (97<=c)=VN/\V7 (65<=c)=VN/\V7 (48<=c)=VR/\V7 (c<=57)=VN)\/(V7 (97<=c)=VN/\V7 (65<=c)=VR/\V7 (c<=90)=VN/\V7 (48<=c)=VR/\V7 (c<=57)=VN)\/(V7 (97<=c)=VR/\V7 (c<=122)=VN/\V7 (65<=c)=VR/\V7 (c<=90)=VN/\V7 (48<=c)=VR/\V7 (c<=57)=VN))):=by
 have hl:KI c=V7 ((97<=c/\c<=122)\/(65<=c/\c<=90)\/(48<=c/\c<=57)):=by
  unfold KI;rw[mN];simp only[tG,eh,fk,or_assoc]
 simp only[hl,fk,decide_eq_false_iff_not];omega
def DV(Zt:wy UInt8)(c:UInt8):Bool:=KI c.toNat||inL c Zt
def Ht(s Zt a7:H6)(a5:Int):Bool:=V7 (1<=s.size)&&V7 ((s.size:Int)<=a5)&&s.data.toList.all (DV Zt.data.toList)&&!inL (s.data.toList.headD 0) a7.data.toList
def KN{c0 c3 c4 c5 c6 c7 c8 ZS ao Sf TO RK RW Rr SO Se St W0 ZD Wg Wr To UP aE ab eS da dj dq fs gE ff fb fa mT me ph qe qk mu mw mx nF pr o4 oE oR oS pe qt qv rl rm sE sa sd yk zd zp a9 ae af ag:zY}(w:H7)(c:UInt8)(Zt a5:H6)(k:Nat)(ho:Zt.size<=100)(hb:a5.size<=100)
  (HK:Hid (∀(u29 ah u31 u32 u33 u34 u35 u36 u37 u38 u39 u40 u41 u42 u43 u44 u45 u46 u47 u48 u49 u50 u51 u52 u53 u54 u55 u56 u57 u58 u59 u60 u61 u62 u63 u64 u65:zY) (r:Bool),(!(DV Zt.data.toList c)||(V7 (k=0)&&inL c a5.data.toList))=r->Q .normal ⟨#[c0,By Zt,By a5,c3,c4,c5,c6,c7,c8,Bm Sj (k:Int),Bm .u8 (c.toNat:Int),ZS,ao,Sf,TO,RK,RW,Rr,SO,Se,St,W0,ZD,Wg,Wr,To,UP,aE,ab,u29,ah,u31,u32,u33,u34,u35,u36,u37,u38,u39,u40,u41,u42,u43,u44,u45,u46,u47,u48,u49,u50,u51,u52,u53,u54,u55,u56,u57,u58,u59,u60,u61,u62,u63,u64,u65,Ft r],[]⟩ w)) :
  (Ai Tryz.f111 7).wp prog Q ⟨#[c0,By Zt,By a5,c3,c4,c5,c6,c7,c8,Bm Sj (k:Int),Bm .u8 (c.toNat:Int),ZS,ao,Sf,TO,RK,RW,Rr,SO,Se,St,W0,ZD,Wg,Wr,To,UP,aE,ab,eS,da,dj,dq,fs,gE,ff,fb,fa,mT,me,ph,qe,qk,mu,mw,mx,nF,pr,o4,oE,oR,oS,pe,qt,qv,rl,rm,sE,sa,sd,yk,zd,zp,a9,ae,af,ag],[]⟩ w:=by
 conv=>arg 2;whnf
 have a7:=aa (J2 c Zt w WQ);have a8:=aa (J2 c a5 w WQ);obtain⟨h,hx⟩|⟨h,hx⟩:=Kq (c.toNat:Int)
 ·have j9:DV Zt.data.toList c=VR:=by unfold DV;rw[h];rfl
  rw[j9]at HK;clear j9 h;by_cases hk:k=0
  ·rw[eA hk]at HK;subst hk;rcases hx with⟨d1,d2⟩|⟨d1,d3,d4⟩|⟨d1,d3,d5,d6⟩<;>(go_wp2_with fail)<;>(refine a8.o.mono ?_)<;>(rintro e w' ⟨rfl,rfl⟩)<;>go_wp2<;>exact HK.o _ _ _ _ _ _ _ _ _ _ _ _ _ _ _ _ _ _ _ _ _ _ _ _ _ _ _ _ _ _ _ _ _ _ _ _ _ _ lX
  rw[cN hk]at HK;have hz:((k:Int)==0)=VN:=by simpa using hk
  clear hk;rcases hx with⟨d1,d2⟩|⟨d1,d3,d4⟩|⟨d1,d3,d5,d6⟩<;>go_wp2<;>exact HK.o _ _ _ _ _ _ _ _ _ _ _ _ _ _ _ _ _ _ _ _ _ _ _ _ _ _ _ _ _ _ _ _ _ _ _ _ _ _ lX
 have j9:DV Zt.data.toList c=inL c Zt.data.toList:=by unfold DV;rw[h];rfl
 rw[j9]at HK;clear j9 h;cases hi:inL c Zt.data.toList with
 |false =>
  rw[hi]at a7 HK;clear hi;rcases hx with⟨d1,d3,d5⟩|⟨d1,d3,d5,d6⟩|⟨d1,d3,d4,d5,d6⟩|⟨d1,d2,d3,d4,d5,d6⟩<;>(go_wp2_with fail)<;>(refine a7.o.mono ?_)<;>(rintro e w' ⟨rfl,rfl⟩)<;>go_wp2<;>exact HK.o _ _ _ _ _ _ _ _ _ _ _ _ _ _ _ _ _ _ _ _ _ _ _ _ _ _ _ _ _ _ _ _ _ _ _ _ _ _ lX
 |true =>
  rw[hi]at a7 HK;clear hi;by_cases hk:k=0
  ·rw[eA hk]at HK;subst hk;rcases hx with⟨d1,d3,d5⟩|⟨d1,d3,d5,d6⟩|⟨d1,d3,d4,d5,d6⟩|⟨d1,d2,d3,d4,d5,d6⟩<;>(go_wp2_with fail)<;>(refine a7.o.mono ?_)<;>(rintro e w' ⟨rfl,rfl⟩)<;>(go_wp2_with fail)<;>(refine a8.o.mono ?_)<;>(rintro e w' ⟨rfl,rfl⟩)<;>go_wp2<;>exact HK.o _ _ _ _ _ _ _ _ _ _ _ _ _ _ _ _ _ _ _ _ _ _ _ _ _ _ _ _ _ _ _ _ _ _ _ _ _ _ lX
  rw[cN hk]at HK;have hz:((k:Int)==0)=VN:=by simpa using hk
  clear hk;rcases hx with⟨d1,d3,d5⟩|⟨d1,d3,d5,d6⟩|⟨d1,d3,d4,d5,d6⟩|⟨d1,d2,d3,d4,d5,d6⟩<;>(go_wp2_with fail)<;>(refine a7.o.mono ?_)<;>(rintro e w' ⟨rfl,rfl⟩)<;>go_wp2<;>exact HK.o _ _ _ _ _ _ _ _ _ _ _ _ _ _ _ _ _ _ _ _ _ _ _ _ _ _ _ _ _ _ _ _ _ _ _ _ _ _ lX
def G9(s Zt a7:H6)(a5:Int)(w:H7)(hs:s.size<=9223372036854775807)(ho:Zt.size<=100)(hb:a7.size<=100):Calls prog 111 #[By s,By Zt,By a7,Bm Sj a5] w fun e w'=>e=S6 (Ft (Ht s Zt a7 a5))/\w=w':=by
 have HU:Hid (Ht s Zt a7 a5=_):=aa (Ht.eq_1 s Zt a7 a5);go_enter func111,ntmps111
 by_cases h1:(s.size:Int)<1
 ·have hd:V7 ((s.size:Int)<1)=VR:=eA h1;have HN:Hid (Ht s Zt a7 a5=VN):=aa (by rw[HU.o,cN (show ¬1<=s.size by omega)];rfl);clear h1;go_wp2;go_ret;exact⟨ah HN.o.symm,rfl⟩
 have hd:V7 ((s.size:Int)<1)=VN:=cN h1;by_cases h2:a5<(s.size:Int)
 ·have hd2:V7 (a5<(s.size:Int))=VR:=eA h2;have HN:Hid (Ht s Zt a7 a5=VN):=aa (by rw[HU.o,cN (show ¬(s.size:Int)<=a5 by omega),Bool.and_false];rfl);clear h1 h2;go_wp2;go_ret;exact⟨ah HN.o.symm,rfl⟩
 have hd2:V7 (a5<(s.size:Int))=VN:=cN h2;have a9:Hid (1<=s.size):=aa WQ;rw[eA a9.o,eA (show(s.size:Int)<=a5 by omega),Bool.true_and,Bool.true_and]at HU;clear h1 h2;go_wp2;clear hd hd2;go_loop[9,10] (fun i _=>∃k:Nat,k<=s.size/\i=Bm Sj k/\(∀j x,j<k->s.data.toList[j]?=Vv x->DV Zt.data.toList x=VR)/\(0<k->inL (s.data.toList.headD 0) a7.data.toList=VN)) (fun i _=>s.size-(intOf i).toNat)
 exact⟨0,cg _,rfl,fun j x hj=>by omega,fun h=>absurd h WQ⟩;obtain⟨k,hk,rfl,hall,a8⟩:=hrel;replace hall:=aa hall;replace a8:=aa a8;by_cases hlt:k<s.size
 ·have HC:=aa (KH hlt);have Ty:Hid (DV Zt.data.toList s[k]=VN->Ht s Zt a7 a5=VN):=aa fun h=>by
   rw[HU.o,show s.data.toList.all (DV Zt.data.toList)=VN by rw[ap8];exact⟨s[k],ct HC.o,by simp[h]⟩];rfl
  have HH:Hid (k=0->s[k]=s.data.toList.headD 0):=aa fun h=>by
   subst h;have:=HC.o;generalize s[0]=c at *;cases hl:s.data.toList with
   |nil=>rw[hl]at this;cases this
   |cons a l=>rw[hl]at this;exact(gj this).symm
  have ab:Hid (DV Zt.data.toList s[k]=VR->∀j x,j<k+1->s.data.toList[j]?=Vv x->DV Zt.data.toList x=VR):=aa fun h j x hj hx=>by
   by_cases hjk:j=k
   ·subst hjk;rw[HC.o]at hx;cases hx
    exact h
   exact hall.o j x WQ hx
  clear HC;go_upto_region 7 with(fail);generalize hc:s[k]=c at *;replace hc:=aa hc;refine KN w c Zt a7 k ho hb (aa ?_);intro u29 ae u31 u32 u33 u34 u35 u36 u37 u38 u39 u40 u41 u42 u43 u44 u45 u46 u47 u48 u49 u50 u51 u52 u53 u54 u55 u56 u57 u58 u59 u60 u61 u62 u63 u64 u65 r hr;cases gw:DV Zt.data.toList c with
  |false =>
   obtain rfl:VR=r:=by rw[<- hr,gw];rfl
   have HF:=aa (Ty.o gw);clear gw hr;go_wp2;go_ret;exact⟨ah HF.o.symm,rfl⟩
  |true =>
   have HY:=aa (ab.o gw);by_cases hk0:k=0
   ·have HD:=aa (HH.o hk0);rw[gw,eA hk0]at hr;cases hb2:inL c a7.data.toList with
    |true =>
     obtain rfl:VR=r:=by rw[<- hr,hb2];rfl
     have HF:Hid (Ht s Zt a7 a5=VN):=aa (by rw[HU.o,<- HD.o,hb2];exact Bool.and_false _);clear hb2 hk0 gw hr;go_wp2;go_ret;exact⟨ah HF.o.symm,rfl⟩
    |false =>
     obtain rfl:VN=r:=by rw[<- hr,hb2];rfl
     have cm:Hid (inL (s.data.toList.headD 0) a7.data.toList=VN):=aa (by rw[<- HD.o,hb2]);clear hb2 hk0 gw hr;go_wp2;go_round;exact⟨k+1,WQ,Zf,HY.o,fun _=>cm.o⟩;exact Ti
   have cm:=aa (a8.o WQ);obtain rfl:VN=r:=by rw[<- hr,gw,cN hk0];rfl
   clear hk0 gw hr;go_wp2;go_round;exact⟨k+1,WQ,Zf,HY.o,fun _=>cm.o⟩;exact Ti
 obtain rfl:k=s.size:=by omega
 have HT:Hid (Ht s Zt a7 a5=VR):=aa (by
  rw[HU.o,a8.o a9.o,Bool.not_false,Bool.and_true,eL];intro x hx;obtain⟨j,hj⟩:=fc hx;exact hall.o j x TeE hj)
 go_wp2;go_ret;exact⟨ah HT.o.symm,rfl⟩
def KE:(FF 256).all (fun n=>(kT vF (UInt8.ofNat n)==DV [95,46,43,45] (UInt8.ofNat n))&&(kT zB (UInt8.ofNat n)==DV [95,46,43,45,47,61,58] (UInt8.ofNat n)))=VR:=by kernel_rfl
def Jm(c:UInt8):kT vF c=DV [95,46,43,45] c/\kT zB c=DV [95,46,43,45,47,61,58] c:=by
 have h:=An.1 KE c.toNat (DP.2 (UInt8.toNat_lt c));rw[UInt8.ofNat_toNat,eh,beq_iff_eq,beq_iff_eq]at h;exact h
def JK(a b:UInt8):(a==b)=(a.toNat==b.toNat):=by
 rw[mN,beq_iff_eq,beq_iff_eq,UInt8.toNat_inj]
def J9(s:H6):Ht s ⟨#[95,46,43,45]⟩ ⟨#[45,46]⟩ 40=qA s:=by
 unfold Ht qA wS;have h1:s.data.toList.all (DV (⟨#[95,46,43,45]⟩:H6).data.toList)=s.data.toList.all (kT vF):=by
  congr 1
  funext c
  exact(Jm c).1.symm
 have h2:inL (s.data.toList.headD 0) (⟨#[45,46]⟩:H6).data.toList=((lI s).toNat==45||(lI s).toNat==46):=by
  show(((45:UInt8)==lI s)||(((46:UInt8)==lI s)||false))=_;rw[JK,JK,Bool.or_false];congr 1<;>(rw[mN,beq_iff_eq,beq_iff_eq];exact⟨fun h=>h.symm,fun h=>h.symm⟩)
 rw[h1,h2];have h3:V7 (1<=s.size)=V7 (0<s.size):=rfl;have h4:V7 ((s.size:Int)<=40)=V7 (s.size<=40):=decide_eq_decide.2 WQ;rw[h3,h4];cases (lI s).toNat==45<;>cases (lI s).toNat==46<;>cases s.data.toList.all (kT vF)<;>simp
def KM(s:H6):Ht s ⟨#[95,46,43,45,47,61,58]⟩ ⟨#[45]⟩ 24=mr s:=by
 unfold Ht mr wS;have h1:s.data.toList.all (DV (⟨#[95,46,43,45,47,61,58]⟩:H6).data.toList)=s.data.toList.all (kT zB):=by
  congr 1
  funext c
  exact(Jm c).2.symm
 have h2:inL (s.data.toList.headD 0) (⟨#[45]⟩:H6).data.toList=((lI s).toNat==45):=by
  show(((45:UInt8)==lI s)||false)=_;rw[JK,Bool.or_false];rw[mN,beq_iff_eq,beq_iff_eq];exact⟨fun h=>h.symm,fun h=>h.symm⟩
 rw[h1,h2];have h3:V7 (1<=s.size)=V7 (0<s.size):=rfl;have h4:V7 ((s.size:Int)<=24)=V7 (s.size<=24):=decide_eq_decide.2 WQ;rw[h3,h4];cases (lI s).toNat==45<;>cases s.data.toList.all (kT zB)<;>simp
def Tco(h:gt:=by
 go_wp2_with fail;refine HC.o.mono ?_;rintro e w' ⟨rfl,rfl⟩;go_wp2;go_ret;exact⟨rfl,rfl⟩):=h
def J6(s:H6)(hs:s.size<=9223372036854775807):Calls prog 175 #[By s] w fun e w'=>e=S6 (Ft (qA s))/\w=w':=by
 have HC:=aa (G9 s ⟨#[95,46,43,45]⟩ ⟨#[45,46]⟩ 40 w hs YR YR);rw[J9]at HC;go_enter func175,ntmps175
 exact Tco
def Jz(s:H6)(w:H7)(hs:s.size<=9223372036854775807):Calls prog 53 #[By s] w fun e w'=>e=S6 (Ft (mr s))/\w=w':=by
 have HC:=aa (G9 s ⟨#[95,46,43,45,47,61,58]⟩ ⟨#[45]⟩ 24 w hs YR YR);rw[KM]at HC;go_enter func53,ntmps53
 exact Tco
def JL:wy (wy UInt8):=[[95,108,101,103,48],[95,108,101,103,49],[95,108,101,103,50],[95,108,101,103,51],[95,108,101,103,52],[95,108,101,103,53],[95,108,101,103,54],[95,108,101,103,55]]
def IM:wy (wy UInt8):=nV++JL
def KW(l:wy UInt8):Option (wy UInt8):=(IM.find? fun p=>DH l p).map fun p=>l.take (l.length-p.length)
def Jy(h:p∈JL):∃d:UInt8,p=xg++[d]/\48<=d.toNat/\d.toNat<=55:=by
 simp only[JL,dr,cY,dg]at h;rcases h with rfl|rfl|rfl|rfl|rfl|rfl|rfl|rfl<;>exact⟨_,rfl,YR,YR⟩
def KR{d:UInt8}(h1:48<=d.toNat)(h2:d.toNat<=55):xg++[d]∈JL:=by
 have h:(FF 256).all (fun n=>!(V7 (48<=n)&&V7 (n<=55))||JL.contains (xg++[UInt8.ofNat n]))=VR:=by kernel_rfl
 have:=An.1 h d.toNat (DP.2 (UInt8.toNat_lt d));rw[UInt8.ofNat_toNat,eA h1,eA h2]at this;simpa using this
def Jh(a b:wy UInt8)(d x:UInt8):DH (b++[x]) (a++[d])=VR↔d=x/\DH b a=VR:=by
 show(a++[d]).isSuffixOf (b++[x])=VR↔d=x/\a.isSuffixOf b=VR;rw[OK,OK];constructor
 ·rintro⟨t,ht⟩;rw[<- cV]at ht;obtain⟨h1,h2⟩:=List.append_inj' ht lX;exact⟨by simpa using h2,t,h1⟩
 rintro⟨rfl,t,rfl⟩;exact⟨t,XN⟩
def KY(a:wy UInt8)(d:UInt8):DH [] (a++[d])=VN:=by
 cases h:DH [] (a++[d])with
 |false=>rfl
 |true =>
  obtain⟨t,ht⟩:=OK.1 h;simp at ht
def J4(l:wy UInt8):KW l=jr l:=by
 unfold KW jr IM;rw[tD];cases hs:nV.find? fun p=>DH l p with
 |some p=>rfl
 |none =>
  rw[Option.none_or];rcases List.eq_nil_or_concat l with rfl|⟨b,x,rfl⟩
  ·rw[bh XN,List.find?_eq_none.2 fun p hp=>?_]
   ·rfl
   obtain⟨d,rfl,-⟩:=Jy hp;rw[KY];decide
  rw[List.concat_eq_append];have e1:(b++[x]).getLastD 0=x:=by simp
  have e2:(b++[x]).dropLast=b:=by simp
  rw[e1,e2];cases hl:JL.find? fun p=>DH (b++[x]) p with
  |none =>
   rw[bh]
   ·rfl
   rintro⟨-,h1,h2,h3⟩;exact absurd ((Jh xg b x x).2 ⟨rfl,h3⟩) (List.find?_eq_none.1 hl _ (KR h1 h2))
  |some p =>
   obtain⟨d,rfl,h1,h2⟩:=Jy (eV hl);obtain⟨rfl,h3⟩:=(Jh xg b d x).1 (by simpa using List.find?_some hl);rw[aw ⟨XN,h1,h2,h3⟩];have h4:4<=b.length:=(OK.1 h3).length_le;show Vv ((b++[d]).take _)=_;rw[List.take_append_of_le_length (by simp[xg])];congr 2
   simp[xg]
def KL(h:p∈IM):p.length<=6:=by
 simp only[IM,JL,nV,IT,GO,dr,cY,dg]at h;rcases h with rfl|rfl|rfl|rfl|rfl|rfl|rfl|rfl|rfl|rfl|rfl|rfl<;>decide
def K3(s:H6)(w:H7)(e:Ending)(w':H7):Prop:=∃r:wy UInt8,e=S6 (Vj #[By ⟨r.toArray⟩,Ft (jr s.data.toList).isSome])/\(∀x,jr s.data.toList=Vv x->r=x)/\Below w.1.size w w'
def TaA :Tab #[By ⟨#[95,108,111,103]⟩,By ⟨#[95,100,97,116,97]⟩,By ⟨#[95,109,101,116,97]⟩,By ⟨#[95,115,112,97,114,101]⟩,By ⟨#[95,108,101,103,48]⟩,By ⟨#[95,108,101,103,49]⟩,By ⟨#[95,108,101,103,50]⟩,By ⟨#[95,108,101,103,51]⟩,By ⟨#[95,108,101,103,52]⟩,By ⟨#[95,108,101,103,53]⟩,By ⟨#[95,108,101,103,54]⟩,By ⟨#[95,108,101,103,55]⟩]:=⟨⟩
def Iw(s:H6)(hs:s.size<=9223372036854775807):Calls prog 174 #[By s] w (K3 s w):=by
 have hA:=ae w (Sx (IM.map fun p=>By ⟨p.toArray⟩).toArray 9);have hN:=b9 w (Sx (IM.map fun p=>By ⟨p.toArray⟩).toArray 9);have HNB:=aa (show(w.alloc (Sx TaA 9)).1[w.1.size]?=Vv (Sx (IM.map fun p=>By ⟨p.toArray⟩).toArray 9 (0,0)) from hN);have HB:=aa (show Below w.1.size w (w.alloc (Sx TaA 9)) from hA);clear hA hN;go_enter func174,ntmps174;go_wp2;generalize RE:AI w _=W1 at *;generalize a9:w.1.size=Bs at *;clear RE
 go_loopw[5,6] (fun i _ wr=>∃k:Nat,k<=12/\i=Bm Sj k/\(∀j p,j<k->IM[j]?=Vv p->DH s.data.toList p=VN)/\Below W1.1.size W1 wr) (fun i _ _=>12-(intOf i).toNat)
 exact⟨0,cg _,rfl,fun j p hj=>by omega,bj _ _⟩;obtain⟨k,hk,rfl,hno,hb⟩:=hrel;replace hno:=aa hno;have fy:=aa (HB.o.trans (hb.mono (by have:=HB.o.size;omega)));have Fc:=aa hb;have af:=Zl hb HNB;clear hb;by_cases hlt:k<12
 ·obtain⟨p,hp⟩:=aj IM k hlt;have hc:wr.cell? (Bs,k)=Vv (By ⟨p.toArray⟩):=by
   simp only[AN,af.o];simp[hp]
  have ag:=KL (ct hp);replace hp:=aa hp;have CH:(⟨p.toArray⟩:H6).size=p.length:=rfl;have a8:=aa (Lib.hasSuffix_raw s ⟨p.toArray⟩);have ab:Hid ((⟨p.toArray⟩:H6).data.toList=p):=aa lX;generalize Un:(⟨p.toArray⟩:H6)=pb at *;clear Un;have hw:IntKind.i64.wrap ((s.size:Int)-(p.length:Int))=(s.size:Int)-(p.length:Int):=dy _ WQ;have a5:Hid (DH s.data.toList p=VN->∀j q,j<k+1->IM[j]?=Vv q->DH s.data.toList q=VN):=aa fun h j q hj hq=>by
   by_cases hjk:j=k
   ·subst hjk;rw[hp.o]at hq;cases hq
    exact h
   exact hno.o j q WQ hq
  have a7:Hid (DH s.data.toList p=VR->jr s.data.toList=Vv (s.data.toList.take (s.data.toList.length-p.length))):=aa fun h=>by
   have hf:(IM.find? fun p=>DH s.data.toList p)=Vv p:=by
    rw[List.find?_eq_some_iff_getElem];obtain⟨hk4,ZU⟩:=AT.1 hp.o;refine⟨h,k,hk4,ZU,fun j hj=>?_⟩;rw[hno.o j _ hj (lO WQ)];rfl
   rw[<- J4,KW,hf];rfl
  rw[ab.o]at a8;clear ab;by_cases hle:p.length<=s.size
  ·have hg:V7 ((s.size:Int)-(p.length:Int) ≥ 0)=VR:=eA WQ;have ah:((s.size:Int)-(p.length:Int)).toNat=s.size-p.length:=by omega
   have Yh:((s.extract (s.size-p.length) s.size).toList==pb.toList)=DH s.data.toList p:=by
    rw[<- a8.o,CH,eA hle,Bool.true_and]
   cases hsf:DH s.data.toList p with
   |true =>
    rw[hsf]at Yh;have HT:=aa (a7.o hsf);have Ss:=aa (Lib.extract_eq s 0 (s.size-p.length));clear hsf a7 a5;go_upto_region 6 with(fail);go_quiet (fail);clear Yh hg hc;have Tp:Hid (∀n,Below Bs w (wr.drewN n)):=aa fun n=>aT fy.o n;go_wp2;go_ret2;refine⟨s.data.toList.take (s.data.toList.length-p.length),?_,fun x hx=>?_,?_⟩
    ·rw[HT.o,Ss.o];simp
    ·rw[HT.o]at hx;exact gj hx
    rw[a9];exact Tp.o _
   |false =>
    rw[hsf]at Yh;have HT:=aa (a5.o hsf);clear hsf a7 a5;go_upto_region 6 with(fail);go_quiet (fail);clear Yh hg hc;have Tp:Hid (∀n,Below W1.1.size W1 (wr.drewN n)):=aa fun n=>aT Fc.o n;go_wp2;go_roundw
    exact⟨k+1,WQ,Zf,HT.o,Tp.o _⟩;exact Ti
  have hg:V7 ((s.size:Int)-(p.length:Int) ≥ 0)=VN:=cN WQ;have HT:=aa (a5.o (by rw[<- a8.o,CH,cN hle,Bool.false_and]));clear a7 a5;go_upto_region 6 with(fail);go_quiet (fail);clear hg hc;have Tp:Hid (∀n,Below W1.1.size W1 (wr.drewN n)):=aa fun n=>aT Fc.o n;go_wp2;go_roundw
  exact⟨k+1,WQ,Zf,HT.o,Tp.o _⟩;exact Ti
 obtain rfl:k=12:=by omega
 have HT:Hid (jr s.data.toList=VX):=aa (by
  rw[<- J4,KW,List.find?_eq_none.2 fun p hp=>?_]
  ·rfl
  obtain⟨j,hj⟩:=fc hp;rw[hno.o j p (AT.1 hj).1 hj];decide)
 go_wp2;go_ret2;exact(show K3 s w _ _ from⟨[],by rw[HT.o];rfl,(fun x hx=>by rw[HT.o]at hx;cases hx),by rw[a9];exact fy.o⟩)
def yh(s:H6)(w:H7)(hs:s.size<=9223372036854775807):Calls prog 146 #[By s] w fun e w'=>e=S6 (Ft (jo s))/\Below w.1.size w w':=by
 go_enter func146,ntmps146
 go_wp2_with fail;refine(Iw s hs).mono ?_;rintro e w1 ⟨r,rfl,_,a5⟩;have cU:=aa a5;clear a5;go_wp2_with fail;refine(J6 s hs).mono ?_;rintro e w2 ⟨rfl,rfl⟩;exact Tbh
def Jb(h:jr l=VX):zH ⟨l.toArray⟩=VN:=by
 unfold zH;rw[show(⟨l.toArray⟩:H6).data.toList=l from lX,yc h];rfl
def J7(h:jr l=Vv x):jo ⟨l.toArray⟩=VN:=by
 unfold jo;rw[show(⟨l.toArray⟩:H6).data.toList=l from lX,h];simp
def Ke(h:jr l=Vv x):zH ⟨l.toArray⟩=(V7 (l.length<=40)&&(jo ⟨x.toArray⟩||zH ⟨x.toArray⟩)):=by
 have hlt:=pU h;have e1:zH ⟨l.toArray⟩=(V7 (l.length<=40)&&jo ⟨(gu x).1.toArray⟩):=by
  unfold zH;rw[show(⟨l.toArray⟩:H6).data.toList=l from lX,zI h,eA XN,Bool.true_and];rfl
 rw[e1];by_cases h40:l.length<=40
 ·rw[eA h40,Bool.true_and,Bool.true_and]
  cases hx:jr x with
  |none =>
   rw[Jb hx,Bool.or_false,yc hx]
  |some y =>
   rw[J7 hx,nj];unfold zH;rw[show(⟨x.toArray⟩:H6).data.toList=x from lX,eA (show(⟨x.toArray⟩:H6).size<=40 from(by show x.length<=40;omega)),Bool.and_true,zI hx,eA (show 0<(gu y).2+1 by omega),Bool.true_and]
 rw[cN h40,Bool.false_and,Bool.false_and]
def Hm(f:Nat):∀(l:wy UInt8) (w:H7),l.length<=f->l.length<=9223372036854775807 ->
  Calls prog 148 #[By ⟨l.toArray⟩] w fun e w'=>e=S6 (Ft (zH ⟨l.toArray⟩))/\Below w.1.size w w':=by
 induction f with
 |zero =>
  intro l w hf hs;obtain rfl:=fX (Nat.le_zero.1 hf);go_enter func148,ntmps148
  go_wp2_with fail;refine(Iw ⟨([]:wy UInt8).toArray⟩ YR).mono ?_;rintro e w1 ⟨r,rfl,_,a5⟩;have cU:=aa a5;clear a5;have hc:(jr (⟨([]:wy UInt8).toArray⟩:H6).data.toList).isSome=VN:=by decide
  rw[hc];clear hc;go_wp2;go_ret;exact⟨rfl,cU.o⟩
 |succ f ih =>
  intro l w hf hs;replace ih:=aa ih;go_enter func148,ntmps148
  go_wp2_with fail;refine(Iw ⟨l.toArray⟩ hs).mono ?_;rintro e w1 ⟨r,rfl,hr,a5⟩;have cU:=aa a5;clear a5;generalize a7:(jr (⟨l.toArray⟩:H6).data.toList).isSome=cb at *;cases hc:jr l with
  |none =>
   obtain rfl:VN=cb:=by rw[<- a7];show VN=(jr l).isSome;rw[hc];rfl
   have HF:=aa (Jb hc);clear hc a7 hr;go_wp2;go_ret;exact⟨ah HF.o.symm,cU.o⟩
  |some x =>
   obtain rfl:VR=cb:=by rw[<- a7];show VR=(jr l).isSome;rw[hc];rfl
   obtain rfl:=hr x hc;have HF:=aa (Ke hc);have hlt:=pU hc;clear hc a7 hr;have zc:(⟨l.toArray⟩:H6).size=l.length:=rfl;have Qc:Hid (∀b:Bool,b=zH ⟨l.toArray⟩->Ft b=Ft (zH ⟨l.toArray⟩)):=aa fun b h=>by rw[h]
   by_cases h40:l.length<=40
   ·rw[eA h40,Bool.true_and]at HF;have hd:V7 ((l.length:Int)<=40)=VR:=eA WQ;go_wp2_with fail;refine(yh ⟨r.toArray⟩ _ (by show r.length<=_;omega)).mono ?_;rintro e w2 ⟨rfl,hb2⟩;have cm:=YS cU hb2;clear hb2;cases hv:jo ⟨r.toArray⟩with
    |true =>
     rw[hv]at HF;clear hv;go_wp2;go_ret;exact⟨ah HF.o.symm,cm.o⟩
    |false =>
     rw[hv]at HF;clear hv;go_wp2_with fail;refine(ih.o r _ WQ WQ).mono ?_;rintro e w3 ⟨rfl,hb3⟩;have cJ:=YS cm hb3;clear hb3;rw[nj]at HF;rw[<- HF.o];go_wp2;go_ret;exact⟨rfl,cJ.o⟩
   rw[cN h40]at HF;have hd:V7 ((l.length:Int)<=40)=VN:=cN WQ;go_wp2;go_ret;exact⟨ah HF.o.symm,cU.o⟩
def IU(l vd:wy UInt8)(ok:Bool):wy UInt8 × Int :=
 if jo ⟨l.toArray⟩=VN/\zH ⟨l.toArray⟩=VN then([],10) else if ok=VN then([],1) else if 40<l.length+vd.length then([],4) else(l++vd,0)
def Te0(h:gt:=by rw[HX.o];exact fj (fun s=>Ending.returned (Vj #[By s,Bm Sj 0])) YH.o):=h
def G7(l vd:wy UInt8)(ok:Bool)(w:H7)(hs:l.length<=1000000000)(hsf:vd.length<=100):Calls prog 176 #[By ⟨l.toArray⟩,By ⟨vd.toArray⟩,Ft ok] w fun e w'=>e=S6 (Vj #[By ⟨(IU l vd ok).1.toArray⟩,Bm Sj (IU l vd ok).2])/\Below w.1.size w w':=by
 have HA:Hid (IU l vd ok=_):=aa (IU.eq_1 l vd ok);have R0:(⟨l.toArray⟩:H6).size=l.length:=rfl;have RC:(⟨vd.toArray⟩:H6).size=vd.length:=rfl;have YH:=aa (sQ l vd);have CI:Hid (∀(K:Prop),¬(jo ⟨l.toArray⟩=VN/\zH ⟨l.toArray⟩=VN)->(IU l vd ok=if ok=VN then([],1) else if 40<l.length+vd.length then([],4) else(l++vd,0))):=aa fun _ h=>by rw[HA.o,bh h]
 go_enter func176,ntmps176
 go_wp2_with fail;refine(yh ⟨l.toArray⟩ _ (by show l.length<=_;omega)).mono ?_;rintro e w1 ⟨rfl,a5⟩;replace a5:=aa a5;cases hv:jo ⟨l.toArray⟩with
 |false =>
  go_wp2_with fail;refine(Hm l.length l _ (bk _) WQ).mono ?_;rintro e w2 ⟨rfl,hb2⟩;have cm:=YS a5 hb2;clear hb2;cases hh:zH ⟨l.toArray⟩with
  |false =>
   have HX:Hid (IU l vd ok=([],10)):=aa (by rw[HA.o,aw ⟨hv,hh⟩]);clear hv hh;go_wp2;go_ret2;exact⟨TdD,cm.o⟩
  |true =>
   have HX:=aa (CI.o True (fun q=>by rw[hh]at q;cases q.2));clear hv hh;cases ok with
   |false =>
    go_wp2;go_ret2;exact⟨TdD,cm.o⟩
   |true =>
    rw[bh YR]at HX;by_cases h40:40<l.length+vd.length
    ·rw[aw h40]at HX;have hd:V7 (40<(l.length:Int)+(vd.length:Int))=VR:=eA WQ;go_wp2;go_ret2;exact⟨TdD,cm.o⟩
    rw[bh h40]at HX;have hd:V7 (40<(l.length:Int)+(vd.length:Int))=VN:=cN WQ;go_wp2;go_ret2;exact⟨Te0,cm.o⟩
 |true =>
  have HX:=aa (CI.o True (fun q=>by rw[hv]at q;cases q.1));clear hv;cases ok with
  |false =>
   go_wp2;go_ret2;exact⟨TdD,a5.o⟩
  |true =>
   rw[bh YR]at HX;by_cases h40:40<l.length+vd.length
   ·rw[aw h40]at HX;have hd:V7 (40<(l.length:Int)+(vd.length:Int))=VR:=eA WQ;go_wp2;go_ret2;exact⟨TdD,a5.o⟩
   rw[bh h40]at HX;have hd:V7 (40<(l.length:Int)+(vd.length:Int))=VN:=cN WQ;go_wp2;go_ret2;exact⟨Te0,a5.o⟩
def I8{l vd:wy UInt8}(h:vd≠[]):IU l vd VR=iK l vd:=by
 unfold IU iK;rw[bh (show ¬VR=VN by decide),bh h]
def IX(l vd:wy UInt8):IU l vd VN=iK l []:=by
 unfold IU iK;rw[aw (show VN=VN from lX),aw lX]
def KZ:∀i:Nat,i<=7->(⟨#[48,49,50,51,52,53,54,55]⟩:H6).extract i (i+1)=⟨#[UInt8.ofNat (48+i)]⟩
 |0,_=>rfl
 |1,_=>rfl
 |2,_=>rfl
 |3,_=>rfl
 |4,_=>rfl
 |5,_=>rfl
 |6,_=>rfl
 |7,_=>rfl
 |n+8,h=>by omega
def TcX(h:gt:=by
 refine HAD.o.mono ?_;rintro e w2 ⟨rfl,hb2⟩;have cm:=aa hb2;clear hb2;go_wp2;go_ret2;exact⟨rfl,cm.o⟩):=h
def TbE(h:gt:=by
 clear h h0;go_enter func152,ntmps152
 go_wp2_with fail
 try rw[YH.o]
 exact TcX):=h
def Kw(l:wy UInt8)(k:Int)(w:H7)(hs:l.length<=1000000000)(hk:-1000000<=k/\k<=1000000):Calls prog 152 #[By ⟨l.toArray⟩,Bm Sj k] w fun e w'=>e=S6 (Vj #[By ⟨(iK l (jb k)).1.toArray⟩,Bm Sj (iK l (jb k)).2])/\Below w.1.size w w':=by
 by_cases h:0<=k/\k<=7
 ·obtain⟨i,rfl⟩:∃i:Nat,k=(i:Int):=⟨k.toNat,WQ⟩
  have hi:i<=7:=by omega
  have HX:=aa (KZ i hi);have U6:jb (i:Int)=xg++[UInt8.ofNat (48+i)]:=by
   unfold jb;rw[aw h];simp
  have HAD:=aa (G7 l (xg++[UInt8.ofNat (48+i)]) VR w hs (by simp[xg]));rw[I8 XN,<- U6]at HAD;have YH:Hid ((⟨#[95,108,101,103]⟩:H6)++⟨#[UInt8.ofNat (48+i)]⟩=⟨(jb (i:Int)).toArray⟩):=aa (by rw[U6];exact sQ xg [UInt8.ofNat (48+i)]);clear U6;have a5:((i:Int)+1).toNat=i+1:=by omega
  have hx2:((i:Int)).toNat=i:=by omega
  have hw:IntKind.i64.wrap ((i:Int)+1)=(i:Int)+1:=dy _ WQ;have d1:V7 ((0:Int)<=(i:Int))=VR:=eA WQ;have d2:V7 ((i:Int)<=7)=VR:=eA WQ;clear h;go_enter func152,ntmps152
  go_wp2_with fail;rw[HX.o,YH.o];exact TcX
 have U6:jb k=[]:=by
  unfold jb;rw[bh h]
 rw[U6];have HAD:=aa (G7 l (xg++[48]) VN w hs (by simp[xg]));rw[IX]at HAD;have YH:Hid ((⟨#[95,108,101,103]⟩:H6)++⟨#[48]⟩=⟨(xg++[48]).toArray⟩):=aa (sQ xg [48]);clear U6;by_cases h0:0<=k
 ·have d1:V7 ((0:Int)<=k)=VR:=eA h0;have d2:V7 (k<=7)=VN:=cN WQ;exact TbE
 have d1:V7 ((0:Int)<=k)=VN:=cN h0;exact TbE
def Kz(h:p∈nV):p.length<=100/\p≠[]:=by
 simp only[nV,dr,cY,dg]at h;rcases h with rfl|rfl|rfl|rfl<;>exact⟨YR,YR⟩
def TaW :Tab #[By ⟨#[95,108,111,103]⟩,By ⟨#[95,100,97,116,97]⟩,By ⟨#[95,109,101,116,97]⟩,By ⟨#[95,115,112,97,114,101]⟩]:=⟨⟩
def TbG(h:gt:=by
 clear h h0 CH;go_enter func153,ntmps153
 go_wp2_with fail;exact TcX):=h
def I4(l:wy UInt8)(k:Int)(w:H7)(hs:l.length<=1000000000)(hk:-1000000<=k/\k<=1000000):Calls prog 153 #[By ⟨l.toArray⟩,Bm Sj k] w fun e w'=>e=S6 (Vj #[By ⟨(iK l (dH k)).1.toArray⟩,Bm Sj (iK l (dH k)).2])/\Below w.1.size w w':=by
 by_cases h:1<=k/\k<=4
 ·obtain⟨i,hi⟩:∃i:Nat,k.toNat-1=i:=⟨_,rfl⟩
  obtain⟨p,hp⟩:=aj nV i (by show i<4;omega);have CH:dH k=p:=by
   unfold dH;rw[aw h,hi];simp[hp]
  rw[CH];have a5:=Kz (ct hp);have hA:=ae w (Sx (nV.map fun p=>By ⟨p.toArray⟩).toArray 9);have hN:=b9 w (Sx (nV.map fun p=>By ⟨p.toArray⟩).toArray 9);have hc:(w.alloc (Sx TaW 9)).cell? (w.1.size,i)=Vv (By ⟨p.toArray⟩):=by
   show(w.alloc (Sx (nV.map fun p=>By ⟨p.toArray⟩).toArray 9)).cell? (w.1.size,i)=Vv (By ⟨p.toArray⟩);simp only[AN,hN];simp[hp]
  have HB:Hid (Below w.1.size w (w.alloc (Sx TaW 9))):=aa hA;clear hA hN hp CH;have HAD:=aa fun w=>G7 l p VR w hs a5.1;rw[I8 a5.2]at HAD;clear a5;have a7:k-1=(i:Int):=by omega
  have a8:IntKind.i64.wrap (k-1)=(i:Int):=by rw[a7];exact dy _ WQ
  have d1:V7 ((1:Int)<=k)=VR:=eA WQ;have d2:V7 (k<=4)=VR:=eA WQ;have a9:i<4:=by omega
  clear h hi a7;go_enter func153,ntmps153
  go_wp2_with fail;refine(HAD.o _).mono ?_;rintro e w2 ⟨rfl,hb2⟩;have cm:=YS HB hb2;clear hb2;go_wp2;go_ret2;exact⟨rfl,cm.o⟩
 have CH:dH k=[]:=by
  unfold dH;rw[bh h]
 rw[CH];have HAD:=aa (G7 l [95,108,111,103] VN w hs YR);rw[IX]at HAD;by_cases h0:1<=k
 ·have d1:V7 ((1:Int)<=k)=VR:=eA h0;have d2:V7 (k<=4)=VN:=cN WQ;exact TbG
 have d1:V7 ((1:Int)<=k)=VN:=cN h0;exact TbG
end
end Go.Proofs.YtfmbphdjcghfnaaGreatDoor
