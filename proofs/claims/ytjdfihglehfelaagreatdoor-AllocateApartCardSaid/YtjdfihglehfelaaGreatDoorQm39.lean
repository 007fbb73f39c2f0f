/- Lemmas: AlcG. -/
import Derived.Test.YtjdfihglehfelaaGreatDoorQm38
import Derived.Lib.LazyBuf
set_option maxRecDepth 100000
set_option maxHeartbeats 32000000
set_option linter.all false
namespace Go.Proofs.YtjdfihglehfelaaGreatDoor
open Go.Proofs.Tryz
open Go.RowKit Go.Maps Go.Shelf
variable {ok:Nat->Prop}{c0 c2 c3 c8 c9 c10 c11 c12 c13 c14 c15 c16 c17 c18 c19 c20 c21 c22 c23 c24 c25 c26 c27 c28 c29 c30 c31 c32 c33 c34 c35 c36 c37 c38 c39 c6 c7:Value}{o:Option (Nat × (Int × Int))}{b0:Nat}{g:af}
attribute [local go_sem] Oper.semAt_some
theorem eqlA (w:World)(a:Option Addr)(n c:Nat):(binOp .eql 57 (.slice a n c) (.slice none 0 0)).run prog w=.ok (.bool a.isNone) w:=run_eql_slice_nil w _ _ a n c underlying57
theorem neqA (w:World)(a:Option Addr)(n c:Nat):(binOp .neq 57 (.slice a n c) (.slice none 0 0)).run prog w=.ok (.bool (!a.isNone)) w:=run_neq_slice_nil w _ _ a n c underlying57
attribute [local go_sem] eqlA neqA
theorem Hr (Q:Exit->Act->World->Prop)(lr nn:Nat)(w:World)(g:af)(a:bN)(r:aY)(pv v:Value)(n:Int)(Bt Bl Be Br k:Nat)(d:az)(p:Int × Int)(hne:Bl≠Be)
  (ht:w.heap[Bt]?=some (.cells (Taf g a r pv) 120 (0,0))) (hl:w.heap[Bl]?=some (.cells #[v] 57 (0,0))) (he:w.heap[Be]?=some (.cells #[.int .i64 n] 3 (0,0))) (hr:w.heap[Br]?=some (.cells #[.int .i64 p.1,.int .i64 p.2] 62 (0,0)))
  (kf:ck aO 7 ok w [.slice a.dp g.Gb.length a.dc] g.Gb) (hd:g.Gb[k]?=some d) (CD:g.Gb.length<=1000000)
  (HK:Hid (∀ (W':World) (b:Nat) (u28 u29 u30 u31 u32 u33 u34 u35:Value),w.heap.size<=b->W'.heap[b]?=some (.cells (Tau d.name p.1) 60 (0,0))->W'.heap[Bl]?=some (.cells #[.slice (some ⟨b,0,none⟩) 1 1] 57 (0,0))->W'.heap[Be]?=some (.cells #[.int .i64 p.2] 3 (0,0))->(∀ b,b<w.heap.size->b≠Bl->b≠Be->W'.heap[b]?=w.heap[b]?)->w.heap.size<=W'.heap.size->W'.os=w.os->W'.tape=w.tape->W'.output=w.output->Q .normal ⟨#[c0,.pointer (some Bt),c2,c3,.pointer (some Bl),.pointer (some Be),.int .i64 (k:Int),.pointer (some Br),c8,c9,c10,c11,c12,c13,c14,c15,c16,c17,c18,c19,c20,c21,c22,c23,c24,c25,c26,c27,u28,u29,u30,u31,u32,u33,u34,u35,c36,c37,c38,c39],[]⟩ W'))
  (hQ:∀ c (a:Act) (d:Tmp) (v:Value) w,Q (.panic c) (a.put (some d) v) w->Q (.panic c) a w) (Tj:¬ LetsOut Q) :
  (Gz Tryz.f71 7).wpIn (Fence.wide.inRound lr) nn prog Q ⟨#[c0,.pointer (some Bt),c2,c3,.pointer (some Bl),.pointer (some Be),.int .i64 (k:Int),.pointer (some Br),c8,c9,c10,c11,c12,c13,c14,c15,c16,c17,c18,c19,c20,c21,c22,c23,c24,c25,c26,c27,c28,c29,c30,c31,c32,c33,c34,c35,c36,c37,c38,c39],[]⟩ w:=by
 conv=>arg 4;whnf
 have hn1:Bt≠Bl:=fun e=>by
  subst e;rw [ht] at hl;injection hl with hl
  injection hl with _ h2 _
  exact absurd h2 Tcg
 have hn2:Br≠Bl:=fun e=>by
  subst e;rw [hr] at hl;injection hl with hl
  injection hl with _ h2 _
  exact absurd h2 Tcg
 have MC:=aq ht;have hbl:=aq hl;have Qu:=aq he;have hbr:=aq hr;have HL:=aa hl;have HE:=aa he;have B2:=aa kf;clear kf;have HD:=aa hd;clear hd;have HS:Hid (∀ w':World,Below w.heap.size w w'->w'.heap[Bt]?=some (.cells (Taf g a r pv) 120 (0,0))/\w'.heap[Br]?=some (.cells #[.int .i64 p.1,.int .i64 p.2] 62 (0,0))):=aa fun w' e=>⟨(e.block _ MC).trans ht,(e.block _ hbr).trans hr⟩;clear ht hl hr he;refine Eb (fun w'=>w'.heap[Bt]?=some (.cells (Taf g a r pv) 120 (0,0))/\w'.heap[Br]?=some (.cells #[.int .i64 p.1,.int .i64 p.2] 62 (0,0))) 9 [] Tcf Tj Tcf (HS.o _ (bj _ _).drew) (fun hHeld=>?_)
 (refine o7 (i:=0) (v:=?_) rfl rfl Tcf (fun _ _ _ h=>hQ _ _ _ _ _ h) (Or.inl ⟨Tci,?_⟩) hHeld ?_;rotate_left;(intro w hSw;have s0:=cz hSw.1 0 _ rfl;have s1:=cz hSw.1 1 _ rfl;have s2:=cz hSw.1 2 _ rfl;have s3:=cz hSw.1 3 _ rfl;have s4:=cz hSw.1 4 _ rfl;have s5:=cz hSw.1 5 _ rfl;have s6:=cz hSw.1 6 _ rfl;have s7:=cz hSw.1 7 _ rfl;have s8:=cz hSw.1 8 _ rfl;have s9:=cz hSw.1 9 _ rfl;have s10:=cz hSw.1 10 _ rfl;have s11:=cz hSw.1 11 _ rfl;have s12:=cz hSw.1 12 _ rfl;have s13:=cz hSw.1 13 _ rfl;have s14:=cz hSw.1 14 _ rfl;have s15:=cz hSw.1 15 _ rfl;have s16:=cz hSw.1 16 _ rfl;clear hSw;go_simp;(try (with_reducible rfl)));(try simp only [aS]))
 refine cH hQ 1 hHeld ?_;try simp only [ak];refine cH hQ 2 hHeld ?_;try simp only [ak]
 (refine o7 (i:=3) (v:=?_) rfl rfl Tcf (fun _ _ _ h=>hQ _ _ _ _ _ h) (Or.inl ⟨Tci,?_⟩) hHeld ?_;rotate_left;(intro w hSw;have r0:=cz hSw.2 0 _ rfl;clear hSw;go_simp;(try (with_reducible rfl)));(try simp only [aS]))
 refine cH hQ 6 hHeld ?_;try simp only [ak]
 (refine o7 (i:=7) (v:=?_) rfl rfl Tcf (fun _ _ _ h=>hQ _ _ _ _ _ h) (Or.inl ⟨Tci,?_⟩) hHeld ?_;rotate_left;(intro w hSw;have r1:=cz hSw.2 1 _ rfl;clear hSw;go_simp;(try (with_reducible rfl)));(try simp only [aS]))
 refine lR 4 fun K hK=>?_;go_simp;refine (Hg (ok:=ok) g a r pv k p.1 d w.drew ((ck.moves aO.moves).mv ⟨bk _,fun b _ hb=>⟨hb,rfl⟩⟩ B2.o) HD.o CD).mono ?_;rintro e w6 ⟨rfl,hb6⟩;have hb6':Below w.heap.size w w6:=⟨hb6.os,hb6.tape,hb6.output,hb6.size,hb6.block⟩;refine hK.o _ _ (HS.o _ hb6') ?_;clear hK K hHeld;have qs:=aa hb6';clear hb6 hb6';have hHeld:=HS.o _ qs.o;have G2:=ae w6 (.cells (Tau d.name p.1) 60);have pL:=aa (qs.o.trans (G2.mono qs.o.size));have HN6:=aa (b9 w6 (.cells (Tau d.name p.1) 60));clear G2;refine lR 5 fun K hK=>?_;go_simp;refine hK.o _ _ (HS.o _ pL.o) ?_;clear hK K hHeld;have ag5:=qs.o.size;generalize hW7:World.alloc w6 _=w7 at *;generalize hB7:w6.heap.size=b7 at *;clear hW7;have hl7:=(pL.o.block _ hbl).trans HL.o;have he7:=(pL.o.block _ Qu).trans HE.o;have z0:=cz hl7 0 _ rfl;have zf:=uy hl7;have y0:∀ V:Value,(w7.setCell Bl V).cell? Be=some (.int .i64 n):=fun V=>cz ((bw _ _ _ _ (fun e=>hne e.symm)).trans he7) 0 _ rfl;have yf:∀ (V:Value) (i:Nat),(w7.setCell Bl V).frozen? (Be,i)=false:=fun V=>uy ((bw _ _ _ _ (fun e=>hne e.symm)).trans he7);have HF:Hid (∀ V X:Value,((w7.setCell Bl V).setCell Be X).heap[Bl]?=some (.cells #[V] 57 (0,0))/\((w7.setCell Bl V).setCell Be X).heap[Be]?=some (.cells #[X] 3 (0,0))/\∀ k,k≠Bl->k≠Be->((w7.setCell Bl V).setCell Be X).heap[k]?=w7.heap[k]?):=aa fun V X=>⟨(bw _ _ _ _ hne).trans (block_setCell (i:=0) V hl7),block_setCell (i:=0) X ((bw _ _ _ _ (fun e=>hne e.symm)).trans he7),fun k h1 h2=>(bw _ _ _ _ h2).trans (bw _ _ _ _ h1)⟩;have Li:b7≠Bl/\b7≠Be:=⟨Tcd,Tcd⟩;have Qc:=aa Li;have RB:Hid (∀ V X:Value,((w7.setCell Bl V).setCell Be X).heap.size=w7.heap.size):=aa fun V X=>by simp [World.setCell]
 have hSt:∀ V:Value,(w7.setCell Bl V).heap[Bt]?=some (.cells (Taf g a r pv) 120 (0,0))/\(w7.setCell Bl V).heap[Br]?=some (.cells #[.int .i64 p.1,.int .i64 p.2] 62 (0,0)):=fun V=>⟨(bw _ _ _ _ hn1).trans (HS.o _ pL.o).1,(bw _ _ _ _ hn2).trans (HS.o _ pL.o).2⟩;have HST:=aa hSt;clear hSt;clear hl7 he7 Li;refine lR 8 fun K hK=>?_;go_simp;refine hK.o _ _ (HST.o _) ?_;clear hK K z0 zf;refine aP Tcf rfl ?_;simp only [cQ,cL,km];go_wp2;refine HK.o _ b7 _ _ _ _ _ _ _ _ ag5 ((((HF.o _ _).2.2 _ Qc.o.1 Qc.o.2)).trans HN6.o) (HF.o _ _).1 (HF.o _ _).2.1 (fun b hb h1 h2=>((HF.o _ _).2.2 b h1 h2).trans (pL.o.block b hb)) (by rw [RB.o];exact pL.o.size) pL.o.os pL.o.tape pL.o.output
theorem IW (e:Int)(x:Nat × (Int × Int)):Ic e none x=if e<=x.2.2 then some x else none:=rfl
theorem Ja (e:Int)(y x:Nat × (Int × Int)):Ic e (some y) x=if e<=x.2.2 then (if x.2.2<y.2.2 then some x else some y) else some y:=rfl
theorem JM {e:Int}{x:Nat × (Int × Int)}(h:¬ e<=x.2.2):Ic e o x=o:=bh h
def WhV (b0:Nat)(g:af)(W:World)(v:Value)(n:Int):Option (Nat × (Int × Int))->Prop
 | none=>v=.slice none 0 0/\n=0
 | some y=>∃ b,v=.slice (some ⟨b,0,none⟩) 1 1/\b0+4<=b/\W.heap[b]?=some (.cells (Tau ((UM g y).on) y.2.1) 60 (0,0))/\n=y.2.2
def WhI (g:af)(a:bN)(r:aY)(px:Option Addr)(cx b0:Nat)(xs:List (List (Int × Int)))(W5:World)(pre:List (GN xs))(W:World):Prop:=∃ v n,W.heap[b0+1]?=some (.cells #[v] 57 (0,0))/\W.heap[b0+2]?=some (.cells #[.int .i64 n] 3 (0,0))/\WhV b0 g W v n (yh r.Gc (pre.map (·.1)))/\W.heap[b0]?=some (.cells (Tac g a r xs.length px cx) 120 (0,0))/\Below b0 W5 W/\W5.heap.size<=W.heap.size/\pre.length<=(iU xs).length
theorem WhV.mv {W W':World}{v:Value}{n:Int}(h:WhV b0 g W v n o)(hk:∀ (b:Nat) (cs:Array Value),b0+4<=b->W.heap[b]?=some (.cells cs 60 (0,0))->W'.heap[b]?=W.heap[b]?):WhV b0 g W' v n o:=by
 cases o with
 | none=>exact h
 | some y =>
  obtain ⟨b,h1,h2,h3,h4⟩:=h;exact ⟨b,h1,h2,(hk b _ h2 h3).trans h3,h4⟩
theorem WhI.own {a:bN}{r:aY}{px:Option Addr}{cx:Nat}{xs:List (List (Int × Int))}{W5:World}(hz5:W5.heap.size=b0+4):OwnFrom W5.heap.size (WhI g a r px cx b0 xs W5):=by
 rintro pre W W' row ⟨v,n,h1,h2,h3,h4,h5,h6,h7⟩ hg hr;exact ⟨v,n,xu hg hr h1,xu hg hr h2,h3.mv fun b cs _ hb=>(xu hg hr hb).trans hb.symm,xu hg hr h4,h5.grown hg Tcd (fun k e=>by have:=(hr k e).1;omega),cA h6 hg.size,h7⟩
theorem IR (Q:Exit->Act->World->Prop)(g:af)(a:bN)(r:aY)(px:Option Addr)(cx b0:Nat)(xs:List (List (Int × Int)))(W5:World)(hz5:W5.heap.size=b0+4)(hq:rC r)(kf:ck aO 7 (fun b=>ok b/\b<b0) W5 [.slice a.dp g.Gb.length a.dc] g.Gb)(hx:CR g.Gb.length xs)(OI:xs.length<=cx/\cx<=9223372036854775807)
  (hr:wI b0 W5 px xs)
  (ht5:W5.heap[b0+3]?=some (.cells (Tac g a r xs.length px cx) 120 (0,0))) (ht0:W5.heap[b0]?=some (.cells (Tac g a r xs.length px cx) 120 (0,0))) (hl5:W5.heap[b0+1]?=some (.cells #[.slice none 0 0] 57 (0,0))) (he5:W5.heap[b0+2]?=some (.cells #[.int .i64 0] 3 (0,0)))
  (HK:Hid (∀ (D:Nat) (v:Value) (n:Int) (W:World),W.heap[b0+1]?=some (.cells #[v] 57 (0,0))->WhV b0 g W v n (yh r.Gc (iU xs))->Below b0 W5 W->W5.heap.size<=W.heap.size->W5.heap.size<=D->W.heap[D]?=some (.deferred (some []))->Q .normal ⟨#[c0,.pointer (some b0),c2,c3,.pointer (some (Tab (b0+1) 0)),.pointer (some (Tab (b0+2) 0)),c6,c7,c8,.func (.func 130) #[] #[.pointer (some (Tab (b0+3) 0))],c10,c11,c12,c13,c14,c15,c16,c17,c18,c19,c20,c21,c22,c23,c24,c25,c26,c27,c28,c29,c30,c31,c32,c33,c34,c35,c36,c37,c38,c39],[{ target:=.collected D,args:=#[] }]⟩ W)) :
  (He Tryz.f71).wp prog Q ⟨#[c0,.pointer (some b0),c2,c3,.pointer (some (Tab (b0+1) 0)),.pointer (some (Tab (b0+2) 0)),c6,c7,c8,.func (.func 130) #[] #[.pointer (some (Tab (b0+3) 0))],c10,c11,c12,c13,c14,c15,c16,c17,c18,c19,c20,c21,c22,c23,c24,c25,c26,c27,c28,c29,c30,c31,c32,c33,c34,c35,c36,c37,c38,c39],[]⟩ W5:=by
 conv=>arg 2;whnf
 refine (wpIn_wide (n:=3)).1 ?_;have hn8:=hx.n8;have vh:=hx.len
 refine wpIn_rangeFunc_ownH (F:=Fence.wide) rfl Tcd (gf:=130) (lb:=#[.pointer (some (Tab (b0+3) 0))]) rfl trivial (enters_of func130 Tcf rfl)
  (BO (3 - 1) b0 (b0+3) Tcd W5 px cx xs (cz ht5 16 _ rfl) OI Tcd Tcd hr Tcd (fun x hx'=>by have:=hx.x1 x hx';omega))
  Below.trans (fun W l o o' hl h h1 h2=>belowK_b (w:=W5) Tcd W l o o' hl h h1 h2) (bj _ _) (fun _=>rfl)
  (WhI g a r px cx b0 xs W5)
  (fun _ _ _=>False) ?own (fun _ _ _ _ _ h _ _=>h) ?init
  (fun x a' W=>∃ Br,W.heap[Br]?=some (.cells #[.int .i64 x.1.2.1,.int .i64 x.1.2.2] 62 (0,0))/\W5.heap.size<=Br/\a'=⟨#[c0,.pointer (some b0),c2,c3,.pointer (some (Tab (b0+1) 0)),.pointer (some (Tab (b0+2) 0)),.int .i64 (x.1.1:Int),.pointer (some ⟨Br,0,none⟩),c8,.func (.func 130) #[] #[.pointer (some (Tab (b0+3) 0))],.int .i64 (x.1.1:Int),.agg #[.int .i64 x.1.2.1,.int .i64 x.1.2.2],c12,c13,c14,c15,c16,c17,c18,c19,c20,c21,c22,c23,c24,c25,c26,c27,c28,c29,c30,c31,c32,c33,c34,c35,c36,c37,c38,c39],[]⟩) ?ax ?assign ?body ?done ?stop
 case own=>exact WhI.own hz5
 case init=>exact ⟨.slice none 0 0,0,hl5,he5,⟨rfl,rfl⟩,ht0,bj _ _,bk _,cg _⟩
 case ax =>
  rintro x a' _ W W' row ⟨Br,h1,h2,h3⟩ hg hr;exact ⟨Br,xu hg hr h1,h2,h3⟩
 case assign =>
  rintro l pre x W K ⟨v,n,h1,h2,h3,h4,h5,h6,h7⟩ hK;have HI:=aa (⟨h1,h2,h3,h4,h5,h7⟩:_/\_/\_/\_/\_/\_);clear h1 h2 h3 h4 h5 h7;have HK:=aa hK;clear hK;simp only [IP,List.zip_toArray,List.zip_cons_cons,List.zip_nil_right,List.foldl_toArray,cF,cq,xT,List.set_cons_succ,List.set_cons_zero]
  gi_wp2
  obtain ⟨h1,h2,h3,h4,h5,h7⟩:=HI.o;have sk:=ae W (.cells #[.int .i64 x.1.2.1,.int .i64 x.1.2.2] 62);refine HK.o _ _ ((KeepsOthers.alloc _ _).from _) (sk.mono Tcd) ⟨v,n,(sk.block _ (aq h1)).trans h1,(sk.block _ (aq h2)).trans h2,h3.mv fun b cs _ hb=>sk.block b (aq hb),(sk.block _ (aq h4)).trans h4,h5.trans (sk.mono Tcd),cA h6 sk.size,h7⟩ ⟨W.heap.size,b9 W _,h6,rfl⟩
 case body =>
  rintro lr pre x a' W hlr _ ⟨v,n,h1,h2,h3,h4,h5,h6,h7⟩ ⟨Br,k1,k2,rfl⟩ hlt;have e0:=cz h2 0 _ rfl;have l0:=cz h1 0 _ rfl;have t11:=cz h4 11 _ rfl;have r1:=cz k1 1 _ rfl;obtain ⟨hy1,hy2,hy3,hy4⟩:=hx.yy x.1 x.2;obtain ⟨d,hd⟩:=aj g.Gb x.1.1 hy1;have Ml:Hid (yh r.Gc ((pre++[x]).map (·.1))=Ic r.Gc (yh r.Gc (pre.map (·.1))) x.1):=aa (by rw [gl,List.map_singleton,IK]);have TW:(pre++[x]).length<=(iU xs).length:=by rw [cD,A4];exact hlt
  have ha:UM g x.1=⟨false,d.name,x.1.2.1⟩:=by unfold UM;rw [List.getD_eq_getElem?_getD,hd];rfl
  have N8:Hid (∀ (W':World) (b:Nat),yh r.Gc ((pre++[x]).map (·.1))=some x.1->W.heap.size<=b->W'.heap[b]?=some (.cells (Tau d.name x.1.2.1) 60 (0,0))->W'.heap[b0+1]?=some (.cells #[.slice (some ⟨b,0,none⟩) 1 1] 57 (0,0))->W'.heap[b0+2]?=some (.cells #[.int .i64 x.1.2.2] 3 (0,0))->(∀ b,b<W.heap.size->b≠b0+1->b≠b0+2->W'.heap[b]?=W.heap[b]?)->W.heap.size<=W'.heap.size->W'.os=W.os->W'.tape=W.tape->W'.output=W.output->KeepsFrom W5.heap.size W W'/\Below b0 W W'/\WhI g a r px cx b0 xs W5 (pre++[x]) W'):=aa fun W' b hs KC hb hlv hev hkp hsz hos htp hou=>by
   have PD:Below b0 W W':=⟨hos,htp,hou,hsz,fun k hk=>hkp k Tcd Tcd Tcd⟩;refine ⟨⟨hsz,fun k o hk hk1 hk2=>(hkp k (lZ hk1) Tcd Tcd).trans hk1⟩,PD,_,_,hlv,hev,?_,(hkp _ Tcd Tcd Tcd).trans h4,h5.trans PD,cA h6 hsz,TW⟩;rw [hs];exact ⟨b,rfl,Tcd,by rw [ha];exact hb,rfl⟩
  have HST:Hid (yh r.Gc ((pre++[x]).map (·.1))=yh r.Gc (pre.map (·.1))->KeepsFrom W5.heap.size W W/\Below b0 W W/\WhI g a r px cx b0 xs W5 (pre++[x]) W):=aa fun hs=>⟨KeepsFrom.refl _ _,bj _ _,v,n,h1,h2,by rw [hs];exact h3,h4,h5,h6,TW⟩;have HX:=aa (⟨h1,h2,h4,k1,hd,h5⟩:_/\_/\_/\_/\_/\_);clear h1 h2 h4 k1 hd h5 ha TW hz5
  by_cases c1:r.Gc<=x.1.2.2
  ·have g1:decide (x.1.2.2 ≥ r.Gc)=true:=eA c1
   have HC1:=aa c1;clear c1;cases ho:yh r.Gc (pre.map (·.1)) with
   | none =>
    rw [ho] at h3 Ml;have HW1:=aa ((IW r.Gc x.1).trans (aw HC1.o));obtain ⟨rfl,rfl⟩:=h3;clear HST ho
    gi_wp2
    obtain ⟨i1,i2,i4,ik,id,i5⟩:=HX.o;refine Hr (ok:=fun b=>ok b/\b<b0) _ lr 1 W g a r _ _ _ b0 (b0+1) (b0+2) Br x.1.1 d x.1.2 Tcd i4 i1 i2 ik ((ck.moves aO.moves).mv ⟨h6,fun b _ hb=>⟨hb,i5.block b hb.2⟩⟩ kf) id Tcd (aa ?_) (fun _ _ _ _ _ h=>h) (fun ⟨_,_,h⟩=>h);intro W' b u28 u29 u30 u31 u32 u33 u34 u35 f1 f2 f3 f4 f5 f6 f7 f8 f9;exact N8.o W' b (by rw [Ml.o,HW1.o]) f1 f2 f3 f4 f5 f6 f7 f8 f9
   | some y =>
    rw [ho] at h3 Ml HST;have HW1:=aa ((Ja r.Gc y x.1).trans (aw HC1.o));obtain ⟨b,rfl,hb,cT,rfl⟩:=h3
    by_cases c2:x.1.2.2<y.2.2
    ·have g2:decide (x.1.2.2<y.2.2)=true:=eA c2
     have HW2:Hid (yh r.Gc ((pre++[x]).map (·.1))=some x.1):=aa (by rw [Ml.o,HW1.o];exact aw c2);clear HST HW1 Ml ho c2
     gi_wp2
     obtain ⟨i1,i2,i4,ik,id,i5⟩:=HX.o;refine Hr (ok:=fun b=>ok b/\b<b0) _ lr 1 W g a r _ _ _ b0 (b0+1) (b0+2) Br x.1.1 d x.1.2 Tcd i4 i1 i2 ik ((ck.moves aO.moves).mv ⟨h6,fun b _ hb=>⟨hb,i5.block b hb.2⟩⟩ kf) id Tcd (aa ?_) (fun _ _ _ _ _ h=>h) (fun ⟨_,_,h⟩=>h);intro W' b u28 u29 u30 u31 u32 u33 u34 u35 f1 f2 f3 f4 f5 f6 f7 f8 f9;exact N8.o W' b HW2.o f1 f2 f3 f4 f5 f6 f7 f8 f9
    ·have g2:decide (x.1.2.2<y.2.2)=false:=cN c2
     have HW2:Hid (yh r.Gc ((pre++[x]).map (·.1))=some y):=aa (by rw [Ml.o,HW1.o];exact bh c2);clear N8 HW1 Ml ho c2
     gi_wp2
     exact HST.o HW2.o
  ·have g1:decide (x.1.2.2 ≥ r.Gc)=false:=cN c1
   have HW1:=aa (Ml.o.trans (JM c1));clear c1 N8
   gi_wp2
   exact HST.o HW1.o
 case done =>
  rintro D ys W hD rfl ⟨v,n,h1,h2,h3,h4,h5,h6,h7⟩ hK;rw [Gr] at h3;exact HK.o D v n W h1 h3 h5 h6 hD hK
 case stop =>
  rintro D c pre W _ _ h _;exact h.elim
def Jr:Option Nat->Value
 | none=>.slice none 0 0
 | some b=>.slice (some b) 1 1
theorem Jo (Q:Exit->Act->World->Prop){c1 c5:Value}(ds:List Deferred)(w:World)(Bl:Nat)(o:Option Nat)(hl:w.heap[Bl]?=some (.cells #[Jr o] 57 (0,0)))
  (HK:Hid (∀ (u36 u37 u38 u39:Value) (b:Nat) (W:World),Below w.heap.size w W->w.heap.size<=b->W.heap[b]?=some (.cells #[Jr o] 57 (0,0))->Q .normal ⟨#[c0,c1,.slice (some b) 1 1,.bool o.isSome,.pointer (some Bl),c5,c6,c7,c8,c9,c10,c11,c12,c13,c14,c15,c16,c17,c18,c19,c20,c21,c22,c23,c24,c25,c26,c27,c28,c29,c30,c31,c32,c33,c34,c35,u36,u37,u38,u39],ds⟩ W)) :
  (Ai Tryz.f71 8).wp prog Q ⟨#[c0,c1,c2,c3,.pointer (some Bl),c5,c6,c7,c8,c9,c10,c11,c12,c13,c14,c15,c16,c17,c18,c19,c20,c21,c22,c23,c24,c25,c26,c27,c28,c29,c30,c31,c32,c33,c34,c35,c36,c37,c38,c39],ds⟩ w:=by
 conv=>arg 2;whnf
 obtain ⟨Q',hq1,hq2,hQ⟩:=IB Q;have Vl:=aa hq2;clear hq2;refine wp_mono ?_ hq1;clear hq1;cases o
 all_goals
  have hbl:=aq hl;simp only [Jr,Option.isSome_none,Option.isSome_some] at hl HK;have HS:Hid (∀ w':World,Below w.heap.size w w'->w'.heap[Bl]?=w.heap[Bl]?):=aa fun w' e=>e.block _ hbl;have HL:=aa hl;clear hl;refine aL (fun w'=>w'.heap[Bl]?=w.heap[Bl]?) 6 [] Tcf (HS.o _ (bj _ _).drew) (fun hHeld=>?_)
  (refine o7 (i:=0) (v:=?_) rfl rfl Tcf (fun _ _ _ h=>hQ _ _ _ _ _ h) (Or.inl ⟨Tci,?_⟩) hHeld ?_;rotate_left;(intro w hSw;have r0:=cz (hSw.trans HL.o) 0 _ rfl;clear hSw;go_simp;(try (with_reducible rfl)));(try simp only [aS]))
  (refine o7 (i:=2) (v:=?_) rfl rfl Tcf (fun _ _ _ h=>hQ _ _ _ _ _ h) (Or.inl ⟨Tci,?_⟩) hHeld ?_;rotate_left;(intro w hSw;have r0:=cz (hSw.trans HL.o) 0 _ rfl;clear hSw;go_simp;(try (with_reducible rfl)));(try simp only [aS]))
  refine cH hQ 3 hHeld ?_;try simp only [ak];refine lR 1 fun K hK=>?_;go_simp;refine hK.o _ _ (HS.o _ ((bj w.heap.size w).drew.alloc (bk _) _)) ?_;clear hK K hHeld
  (refine o7 (i:=4) (v:=?_) rfl rfl Tcf (fun _ _ _ h=>hQ _ _ _ _ _ h) (Or.inl ⟨Tci,?_⟩) (HS.o _ ((bj w.heap.size w).drew.alloc (bk _) _)) ?_;rotate_left;(intro w hSw;go_simp;(try (with_reducible rfl)));(try simp only [aS]))
  (refine o7 (i:=5) (v:=?_) rfl rfl Tcf (fun _ _ _ h=>hQ _ _ _ _ _ h) (Or.inl ⟨Tci,?_⟩) (HS.o _ ((bj w.heap.size w).drew.alloc (bk _) _)) ?_;rotate_left;(intro w hSw;go_simp;(try (with_reducible rfl)));(try simp only [aS]))
  refine aP Tcf rfl ?_;simp only [cQ,cL,km];go_wp2;exact Vl.o _ _ (HK.o _ _ _ _ _ _ ((bj w.heap.size w).alloc (bk _) _).drew (bk _) (b9 w _))
theorem Hw (g:af)(a:bN)(r:aY)(px:Option Addr)(cx:Nat)(xs:List (List (Int × Int)))(w:World)(hq:rC r)(kf:ck aO 7 ok w [.slice a.dp g.Gb.length a.dc] g.Gb)(hx:CR g.Gb.length xs)(OI:xs.length<=cx/\cx<=9223372036854775807)(hr:wI w.heap.size w px xs) :
  Calls prog 71 #[.agg (Tac g a r xs.length px cx)] w (JO [((yh r.Gc (iU xs)).toList).map (UM g)] (yh r.Gc (iU xs)).isSome w):=by
 refine callsIn_wide (n:=3) |>.1 ?_;refine callsIn_of_wp_marks func71 rfl trivial ?_ rfl;simp only [ntmps71,List.size_toArray,cS,gi,Nat.reduceAdd,Nat.reduceSub,Array.replicate_succ,Array.replicate_zero,List.push_toArray,List.append_toArray,List.nil_append,List.cons_append];refine wpIn_wide.2 ?_;have hA1:=ae w (.cells (Tac g a r xs.length px cx) 120);have hN1:=b9 w (.cells (Tac g a r xs.length px cx) 120);generalize hW1:w.alloc (.cells (Tac g a r xs.length px cx) 120)=W1 at *;have hz1:W1.heap.size=w.heap.size+1:=by rw [<- hW1];exact cW ..
 have hA2:=ae W1 (.cells #[.slice none 0 0] 57);have hN2:=b9 W1 (.cells #[.slice none 0 0] 57);generalize hW2:W1.alloc (.cells #[.slice none 0 0] 57)=W2 at *;have hz2:W2.heap.size=w.heap.size+2:=by rw [<- hW2,cW,hz1]
 have hA3:=ae W2 (.cells #[.int .i64 0] 3);have hN3:=b9 W2 (.cells #[.int .i64 0] 3);generalize hW3:W2.alloc (.cells #[.int .i64 0] 3)=W3 at *;have hz3:W3.heap.size=w.heap.size+3:=by rw [<- hW3,cW,hz2]
 rw [hz1] at hN2;rw [hz2] at hN3;have cJ:=aa (hA1.trans ((hA2.mono Tcd).trans (hA3.mono Tcd)));have MX:=aa ((hA3.block _ Tcd).trans ((hA2.block _ Tcd).trans hN1));have QP:=aa ((hA3.block _ Tcd).trans hN2);have HR3:=aa hN3;have r3:=cz HR3.o 0 _ rfl;have rf:=uy HR3.o 0;have B2:=aa kf;clear kf;have HX:=aa hx;clear hx;have MW:=aa hr;clear hr;clear hA1 hA2 hA3 hN1 hN2 hN3
 go_upto_region 3 with (fail)
 have ra:∀ k,k≠w.heap.size+2->(W3.setCell (Tab (w.heap.size+2) 0) (.int .i64 0)).heap[k]?=W3.heap[k]?:=fun k e=>bw _ _ _ _ e;have Q9:=aa ((ra _ Tcd).trans MX.o);have WC:=aa ((ra _ Tcd).trans QP.o);have WD:=aa (block_setCell (i:=0) (.int .i64 0) HR3.o);have eI:=aa (cJ.o.setCell (p:=⟨w.heap.size+2,0,none⟩) Tct (.int .i64 0));have hz4:(W3.setCell (Tab (w.heap.size+2) 0) (.int .i64 0)).heap.size=w.heap.size+3:=by simp [World.setCell,hz3]
 clear ra r3 rf MX QP HR3 cJ;generalize hW4:World.setCell W3 _ _=W4 at *;clear hW4;have tL:=cz Q9.o;obtain ⟨t0,t1,t2,t3,t4,t5,t6,t7,t8,t9,t10,t11⟩:=IE tL;have t12:=tL 12 _ rfl;have t13:=tL 13 _ rfl;have t14:=tL 14 _ rfl;have t15:=tL 15 _ rfl;have t16:=tL 16 _ rfl;clear tL
 go_wp2_with fail
 clear t0 t1 t2 t3 t4 t5 t6 t7 t8 t9 t10 t11 t12 t13 t14 t15 t16;refine (GJ g a r _ W4).mono ?_;rintro e w5 ⟨rfl,rfl⟩;have hA5:=ae W4 (.cells (Tac g a r xs.length px cx) 120);have hN5:=b9 W4 (.cells (Tac g a r xs.length px cx) 120);have hz5:(W4.alloc (.cells (Tac g a r xs.length px cx) 120)).heap.size=w.heap.size+4:=by rw [cW,hz4]
 rw [hz4] at hN5;have eK:=aa (eI.o.trans (hA5.mono Tcd));have HT5:=aa ((hA5.block _ Tcd).trans Q9.o);have HL5:=aa ((hA5.block _ Tcd).trans WC.o);have HR5:=aa ((hA5.block _ Tcd).trans WD.o);have QS:=aa hN5;clear hA5 hN5 Q9 WC WD eI;rw [hz4];generalize hW5:World.alloc W4 _=W5 at *;clear hW5;go_wp2;refine IR (ok:=ok) _ g a r px cx w.heap.size xs W5 hz5 hq ((ck.moves aO.moves).mv ⟨eK.o.size,fun b hb ho=>⟨⟨ho,hb⟩,eK.o.block b hb⟩⟩ B2.o) HX.o OI (MW.o.below eK.o) QS.o HT5.o HL5.o HR5.o (aa ?_);intro D v n W h1 h3 h4 h5 h6 hK
 obtain ⟨o,rfl,hos,gR⟩:∃ o:Option Nat,v=Jr o/\o.isSome=(yh r.Gc (iU xs)).isSome/\iC (w.heap.size+4) W (Jr o) (((yh r.Gc (iU xs)).toList).map (UM g)):=by
  cases ho:yh r.Gc (iU xs) with
  | none =>
   rw [ho] at h3;obtain ⟨rfl,-⟩:=h3;exact ⟨none,rfl,rfl,iC.nil _ _⟩
  | some y =>
   rw [ho] at h3;obtain ⟨b,rfl,hb,cT,-⟩:=h3;exact ⟨some b,rfl,rfl,iC.one (x:=UM g y) cT hb⟩
 clear h3;have hKl:=lZ hK;have HK:=aa hK;clear hK;have H1:=aa h1;clear h1;have H3:=aa gR;clear gR;have H4:=aa h4;clear h4;have Qy:=aa hos;clear hos
 go_upto_region 8 with (fail)
 refine Jo _ _ W _ o H1.o (aa ?_);intro u36 u37 u38 u39 b W9 hb9 KC hn9;have hK9:=(hb9.block D hKl).trans HK.o;have J1:=aa hb9;clear hb9;have HN9:=aa hn9;clear hn9;go_wp2;refine ⟨Tce,.inl ⟨_,_,rfl,run_takeDeferred hK9,?_⟩⟩;refine ⟨.tuple #[.slice (some b) 1 1,.bool o.isSome],by simp [results,Tryz.results71,go_sem],?_⟩;have hz9:=J1.o.size;have Q1:∀ k,k<W9.heap.size->k≠D->(W9.putObj D (.deferred none)).heap[k]?=W9.heap[k]?:=fun k hk hne=>(grownBy_putObj' W9 D _).block k hk (fun q=>by injection q with q;exact hne q)
 have hbl:=aq HN9.o;rw [Qy.o];refine ⟨_,rfl,?_,?_⟩
 ·exact Tb4
 exact Tb7
end Go.Proofs.YtjdfihglehfelaaGreatDoor
