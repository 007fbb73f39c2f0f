/- Lemmas: AlcJ, AlcK. -/
import Derived.Test.YtjdfihglehfelaaGreatDoorQm40
set_option maxRecDepth 100000
set_option maxHeartbeats 32000000
set_option linter.all false
namespace Go.Proofs.YtjdfihglehfelaaGreatDoor
open Go.Proofs.Tryz
open Go.RowKit Go.Maps Go.Shelf
attribute [local go_sem] Oper.semAt_some run_makeMap_plain
theorem I5 {ok:Nat->Prop}(Q:Exit->Act->World->Prop){c0 c2 c3 c6 c7 c8 c9 c10 c12 c13 c14 c15 c16 c17 c18 c19 c20 c21 c22 c23 c24 c25 c26 c27 c28 c29 c30 c31 c32 c33 c34 c35 c36 c37 c38 c39 c40 c41 c42 c43 c44 c45 c46 c47 c48 c49 c50 c51 c52 c53 c54 c55 c56 c57 c58 c59 c60 c61 c62 c63 c64 c65 c66 c67 c68 c69 c70 c71 c72 c73 c74 c75:Value}(g:af)(a:bN)(r:aY)(px:Option Addr)(cx b0:Nat)(xs:List (List (Int × Int)))(W6:World)(hz6:W6.heap.size=b0+5)(hq:rC r)(kf:ck aO 7 (fun b=>ok b/\b<b0) W6 [.slice a.dp g.Gb.length a.dc] g.Gb)(nt:∀ d∈g.Gb,d.tags.length<=1000000/\d.name.size<=1000000)(hcz:∀ k,(kt g r k).size<=maxLen)(hx:CR g.Gb.length xs)(OI:xs.length<=cx/\cx<=9223372036854775807)
  (hr:wI b0 W6 px xs)
  (ht5:W6.heap[b0+4]?=some (.cells (Tac g a r xs.length px cx) 120 (0,0))) (hI:PrI g a r px cx b0 xs W6 [] W6)
  (HK:Hid (∀ (D:Nat) (v:Value) (W:World),PrS g a r px cx b0 xs v (DV g r (iU xs)) W->Below b0 W6 W->W6.heap.size<=W.heap.size->W6.heap.size<=D->W.heap[D]?=some (.deferred (some []))->Q .normal ⟨#[c0,.pointer (some b0),c2,c3,.pointer (some (Tab (b0+1) 0)),.pointer (some (Tab (b0+3) 0)),c6,c7,c8,c9,c10,.func (.func 130) #[] #[.pointer (some (Tab (b0+4) 0))],c12,c13,c14,c15,c16,c17,c18,c19,c20,c21,c22,c23,c24,c25,c26,c27,c28,c29,c30,c31,c32,c33,c34,c35,c36,c37,c38,c39,c40,c41,c42,c43,c44,c45,c46,c47,c48,c49,c50,c51,c52,c53,c54,c55,c56,c57,c58,c59,c60,c61,c62,c63,c64,c65,c66,c67,c68,c69,c70,c71,c72,c73,c74,c75],[{ target:=.collected D,args:=#[] }]⟩ W)) :
  (He Tryz.f72).wp prog Q ⟨#[c0,.pointer (some b0),c2,c3,.pointer (some (Tab (b0+1) 0)),.pointer (some (Tab (b0+3) 0)),c6,c7,c8,c9,c10,.func (.func 130) #[] #[.pointer (some (Tab (b0+4) 0))],c12,c13,c14,c15,c16,c17,c18,c19,c20,c21,c22,c23,c24,c25,c26,c27,c28,c29,c30,c31,c32,c33,c34,c35,c36,c37,c38,c39,c40,c41,c42,c43,c44,c45,c46,c47,c48,c49,c50,c51,c52,c53,c54,c55,c56,c57,c58,c59,c60,c61,c62,c63,c64,c65,c66,c67,c68,c69,c70,c71,c72,c73,c74,c75],[]⟩ W6:=by
 conv=>arg 2;whnf
 refine (wpIn_wide (n:=3)).1 ?_;have hn8:=hx.n8;have vh:=hx.len
 refine wpIn_rangeFunc_ownH (F:=Fence.wide) rfl Tcd (gf:=130) (lb:=#[.pointer (some (Tab (b0+4) 0))]) rfl trivial (enters_of func130 Tcf rfl)
  (BO (3 - 1) b0 (b0+4) Tcd W6 px cx xs (cz ht5 16 _ rfl) OI Tcd Tcd hr Tcd (fun x hx'=>by have:=hx.x1 x hx';omega))
  Below.trans (fun W l o o' hl h h1 h2=>belowK_b (w:=W6) Tcd W l o o' hl h h1 h2) (bj _ _) (fun _=>rfl)
  (PrI g a r px cx b0 xs W6)
  (fun _ _ _=>False) ?own (fun _ _ _ _ _ h _ _=>h) ?init
  (fun x a' W=>∃ (Br:Nat) (c8:Value),W.heap[Br]?=some (.cells #[.int .i64 x.1.2.1,.int .i64 x.1.2.2] 62 (0,0))/\W6.heap.size<=Br/\a'=⟨#[c0,.pointer (some b0),c2,c3,.pointer (some (Tab (b0+1) 0)),.pointer (some (Tab (b0+3) 0)),.int .i64 (x.1.1:Int),.pointer (some Br),c8,c9,c10,.func (.func 130) #[] #[.pointer (some (Tab (b0+4) 0))],.int .i64 (x.1.1:Int),.agg #[.int .i64 x.1.2.1,.int .i64 x.1.2.2],c14,c15,c16,c17,c18,c19,c20,c21,c22,c23,c24,c25,c26,c27,c28,c29,c30,c31,c32,c33,c34,c35,c36,c37,c38,c39,c40,c41,c42,c43,c44,c45,c46,c47,c48,c49,c50,c51,c52,c53,c54,c55,c56,c57,c58,c59,c60,c61,c62,c63,c64,c65,c66,c67,c68,c69,c70,c71,c72,c73,c74,c75],[]⟩) ?ax ?assign ?body ?done ?stop
 case own=>exact PrI.own hz6
 case init=>exact hI
 case ax =>
  rintro x a' _ W W' row ⟨Br,c8,h1,h2,h3⟩ hg hr;exact ⟨Br,c8,xu hg hr h1,h2,h3⟩
 case assign =>
  rintro l pre x W K ⟨v,h1,h2,h3,h4⟩ hK;have HI:=aa (⟨h1,h2,h4⟩:_/\_/\_);clear h1 h2 h4 hI;have HK:=aa hK;clear hK;simp only [IP,List.zip_toArray,List.zip_cons_cons,List.zip_nil_right,List.foldl_toArray,cF,cq,xT,List.set_cons_succ,List.set_cons_zero]
  gi_wp2
  obtain ⟨h1,h2,h4⟩:=HI.o;have sk:=ae W (.cells #[.int .i64 x.1.2.1,.int .i64 x.1.2.2] 62);refine HK.o _ _ ((KeepsOthers.alloc _ _).from _) (sk.mono Tcd) ⟨v,h1.below sk Tcd,h2.trans (sk.mono Tcd),cA h3 sk.size,h4⟩ ⟨W.heap.size,_,b9 W _,h3,rfl⟩
 case body =>
  rintro lr pre x a' W hlr _ ⟨v,h1,h2,h3,h4⟩ ⟨Br,c8,k1,k2,rfl⟩ hlt;have MC:=aq h1.t;have tL:=cz h1.t;obtain ⟨t0,t1,t2,t3,t4,t5,t6,t7,t8,t9,t10,t11⟩:=IE tL;have t12:=tL 12 _ rfl;have t13:=tL 13 _ rfl;have t14:=tL 14 _ rfl;have t15:=tL 15 _ rfl;have t16:=tL 16 _ rfl;clear tL;obtain ⟨hy1,hy2,hy3,hy4⟩:=hx.yy x.1 x.2;obtain ⟨d,hd⟩:=aj g.Gb x.1.1 hy1;have Ml:Hid (DV g r ((pre++[x]).map (·.1))=Il r.Gc (r.Gg == 5) (kt g r) (rE r) (DV g r (pre.map (·.1))) x.1):=aa (by unfold DV;rw [gl,List.map_singleton,Jb]);have TW:(pre++[x]).length<=(iU xs).length:=by rw [cD,A4];exact hlt
  have HX:=aa (⟨h1,h2,k1,hd,TW⟩:_/\_/\_/\_/\_);have HCL:=aa (ug (ok:=fun b=>ok b/\b<b0) g a r (x.1.1:Int) W ((ck.moves aO.moves).mv ⟨h3,fun b _ hb=>⟨hb,h2.block b hb.2⟩⟩ kf) Tcd nt Tcd);have Zt:=aa hq.e;have HZ6:=aa hz6;clear h1 h2 k1 hd TW hI hz6
  gi_wp2_with fail
  clear t0 t1 t2 t3 t4 t5 t6 t7 t8 t9 t10 t11 t12 t13 t14 t15 t16;refine ⟨trivial,CallsIn.inRound lr (callsIn_wide.2 (HCL.o.mono ?_))⟩;rintro e W1 ⟨rfl,hb1⟩;have cU:=aa hb1;clear hb1 HCL;have ag6:jU g r (x.1.1:Int)=kt g r x.1.1:=rfl;rw [ag6];clear ag6;have hz1:=cU.o.size
  gi_wp2
  gi_loopw [20] (fun _ wr=>PrL g a r px cx b0 xs W6 W Br x.1 (DV g r (pre.map (·.1))) wr) (fun _ wr=>Gx wr Br)
  case atStart =>
   obtain ⟨i1,i2,i3,i4,i5⟩:=HX.o;have:=HZ6.o;exact ⟨x.1.2.1,x.1.2.2,_,v,(cU.o.block _ (aq i3)).trans i3,i1.below cU.o Tcd,cU.o.mono Tcd,⟨cU.o.size,fun k o _ hk1 _=>(cU.o.block k (lZ hk1)).trans hk1⟩,Tcd,rfl⟩
  case round =>
   obtain ⟨st,n,s,vs,sB,hS,hB,hKf,hn,he⟩:=hrel;obtain ⟨vp,vc,rfl,Mh,MI⟩:=hS.o.cap;rw [fW] at Mh;have mA:=hKf.size;obtain ⟨mem,KO,QE⟩:=JD (kt g r) s (kt g r x.1.1)
   have Qz:Hid (∀ p:fo,(Instr.lookup 130 (.map (some (b0+2))) (.string (kt g r x.1.1)) false).run prog (ext wr p)=.ok (.bool mem) (ext wr p)):=aa fun p=>by
    have hl:=(bi.look (hS.f.block ((dQ wr p).block _ hS.f.lt)) oM underlying130 (wY _) (key:=.string (kt g r x.1.1)) (gG _ (hcz _))).1;rw [QE] at hl;exact hl
   have HST:=aa (⟨sB,hS,hB,hKf,hn,he,KO⟩:_/\_/\_/\_/\_/\_/\_);have Y2:s.length<=rE r:=hS.n
   have hn6:(rE r:Int)=r.Gi*r.Gh:=by
    have:=oA (show 0<=r.Gi by have:=hq.l.1;omega) (show 0<=r.Gh by have:=hq.s.1;omega);unfold rE;omega
   have U6:=hq.ls;have Rg:=aa sB;have Ky:Hid ((s.map (Zw g)).length=s.length):=aa (fW ..);clear sB hS hB hKf hn he KO QE Mh MI
   gi_wp2
   obtain ⟨sB,hS,hB,hKf,hn,he,KO⟩:=HST.o;refine Jv _ lr 1 _ _ _ _ _ _ _ _ _ _ _ _ _ _ _ _ _ _ _ _ _ _ _ _ _ _ _ _ _ _ _ _ _ _ _ _ _ _ _ _ _ _ _ _ _ _ _ _ _ _ _ _ _ _ _ _ _ _ _ _ _ _ _ _ _ _ _ _ _ _ _ wr g a r _ vp s.length vc st n b0 (b0+1) (b0+3) Br (b0+2) (kt g r x.1.1) mem hq Tcd hS.t (by have:=hS.l;rw [Ky.o] at this;exact this) hS.m sB Qz.o (aa ?_) (fun ⟨_,_,h⟩=>h);intro u20 u21 u22 u23 u24 u25 u26 u27 u28 u29 u30 u31 u32 u33 u34 u35 u36 u37 u38 u39 u40 u41 u42 u43 W7 b hb hb7;have hz7:=hb7.size;have hbr:=aq sB;have hS7:=hS.below hb7 (by have:=HZ6.o;omega);have hr7:=(hb7.block _ hbr).trans sB;have hB7:=hB.trans (hb7.mono (by have:=HZ6.o;omega));have hK7:=hKf.trans (⟨hb7.size,fun k o _ hk1 _=>(hb7.block k (lZ hk1)).trans hk1⟩:KeepsFrom W6.heap.size wr W7);cases b with
   | true =>
    have hb':=hb.symm;simp only [eh,tG,fk,ge_iff_le,tz] at hb';obtain ⟨hc1,hc2,hc3⟩:=hb';have hc3':(r.Gg == 5)=true\/kt g r x.1.1 ∉ s.map fun p=>kt g r p.1:=hc3.imp id fun h q=>by rw [KO.2 q] at h;cases h
    obtain ⟨W8,hst,h8m,h8g,h8z⟩:=bi.store hS7.f oM underlying130 (rr (show s.length<=1000000 by omega) Tcg) (key:=.string (kt g r x.1.1)) (gG _ (hcz _)) (.bool true);have h8k:∀ k,k<W7.heap.size->k≠b0+2->W8.heap[k]?=W7.heap[k]?:=fun k hk hne=>h8g.block k hk (fun e=>hne TcX);have HH:=aa (⟨hr7,hS7,hB7,hK7,hn,he,hc1,hc3',h8m,h8g,h8z⟩:_/\_/\_/\_/\_/\_/\_/\_/\_/\_/\_);have m0:=cz hS7.m 0 _ rfl;have HC2:Hid (s.length<rE r):=aa Tcd;have H8K:=aa h8k;have ai2:=aa hb7.size;clear hr7 hS7 hB7 hK7 hn he hc1 hc2 hc3 hc3' h8m h8g h8z sB hS hB hKf KO hb hb7 HST h8k
    gi_wp2
    obtain ⟨hr7,hS7,hB7,hK7,hn,he,hc1,hc3',h8m,h8g,h8z⟩:=HH.o;obtain ⟨i1,i2,i3,i4,i5⟩:=HX.o;have hz60:=HZ6.o
    have ho8:mi W8 (b0+5) (.slice vp s.length vc) (s.map (Zw g)):=by
     have:=hS7.o;rw [Ky.o] at this;exact this.blk Tcd fun k cs t z hk hk1 _=>H8K.o k (aq hk1) Tcd
    have hl8:W8.heap[b0+1]?=some (.cells #[.slice vp s.length vc] 67 (0,0)):=by
     have:=hS7.l;rw [Ky.o] at this;exact (H8K.o _ (aq this) Tcd).trans this
    refine Js (ok:=fun b=>ok b/\b<b0) _ lr 1 W8 g a r _ _ (b0+5) b0 (b0+1) Br x.1.1 d (st,n) (s.map (Zw g)) ((H8K.o _ Tcd Tcd).trans hS7.t) hl8 ((H8K.o _ Tcd Tcd).trans hr7) ho8 Tcd (by rw [Ky.o];omega) ((ck.moves aO.moves).mv ⟨Tcd,fun b _ hb=>⟨hb,(H8K.o b (by have:=hb.2;omega) (by have:=hb.2;omega)).trans ((hB7.block b hb.2).trans (i2.block b hb.2))⟩⟩ kf) i4 Tcd (aa ?_) (fun _ _ _ _ _ h=>h) (fun ⟨_,_,h⟩=>h);intro v' W9 u47 u48 u49 u50 u51 u52 u53 u54 u55 h9o h9l h9k h9z h9a h9b h9c;have hS7':=hS7;rw [Ky.o] at hS7';obtain ⟨q1,q2,q3⟩:=PrL.step hz60 k2 Zt.o.1 hr7 hS7' hB7 hK7 hn he i4 hc1 HC2.o hc3' Tcd h8m h8g h8z h9o h9l h9k h9z h9a h9b h9c;have r0:=cz q1 0 _ rfl;have r1:=cz q1 1 _ rfl;have rf:=uy q1;have t11:=cz q2 11 _ rfl;have y1:=fun V:Value=>cz (block_setCell (i:=0) V q1) 1 _ rfl;have yf:=fun (V:Value) (i:Nat)=>uy (block_setCell (i:=0) V q1) i;have yt:=fun V:Value=>cz ((bw W9 ⟨Br,0,none⟩ V b0 (show b0≠Br by omega)).trans q2) 11 _ rfl;have e1:=Zt.o;have w1:IntKind.i64.wrap (st+r.Gc)=st+r.Gc:=dy _ Tcd;have w2:IntKind.i64.wrap (n - r.Gc)=n - r.Gc:=dy _ Tcd;have HQ3:=aa q3
    have HME:Hid (Gx ((W9.setCell Br (.int .i64 (st+r.Gc))).setCell (Tab Br 1) (.int .i64 (n - r.Gc))) Br<Gx wr Br):=aa (by
     rw [G7 (block_setCell (cs:=#[.int .i64 (st+r.Gc),_]) (i:=1) (.int .i64 (n - r.Gc)) (block_setCell (cs:=#[_,_]) (i:=0) (.int .i64 (st+r.Gc)) q1))];rw [show Gx wr Br=n.toNat from G7 (Rg.o)]
     omega)
    clear q1 q2 q3 hr7 hS7 hB7 hK7 hn he hc1 hc3' h8m h8g h8z i1 i2 i3 i4 i5 hz60 ho8 hl8 hS7' h9o h9l h9k h9z h9a h9b h9c e1
    gi_wp2
    go_roundw
    case rel=>exact HQ3.o
    case measure=>exact HME.o
   | false =>
    have HH:=aa (⟨hr7,hS7,hB7,hK7,hn,he,hb,KO⟩:_/\_/\_/\_/\_/\_/\_/\_);clear hr7 hS7 hB7 hK7 hn he sB hS hB hKf KO hb hb7 HST
    gi_wp2
    obtain ⟨hr7,hS7,hB7,hK7,hn,he,hb,KO⟩:=HH.o;obtain ⟨i1,i2,i3,i4,i5⟩:=HX.o
    have ag4:Gp r.Gc (r.Gg == 5) (kt g r) x.1.1 (rE r - s.length) st n s=s:=by
     refine I1 (Classical.byContradiction fun q=>?_);have q1:r.Gc<=n:=Decidable.byContradiction fun h=>q (.inl h);have q2:s.length<rE r:=Decidable.byContradiction fun h=>q (.inr (.inl h))
     have q3:(r.Gg == 5||!mem)=true:=by
      cases h5:(r.Gg == 5) with
      | true=>rfl
      | false =>
       cases hm:mem with
       | false=>rfl
       | true=>exact absurd (.inr (.inr (fun h=>h.elim (fun h=>by rw [h5] at h;cases h) fun h=>h (KO.1 hm)))) q
     rw [eA (show n ≥ r.Gc from q1),eA (show (s.length:Int)<r.Gi*r.Gh by omega),q3] at hb;cases hb
    rw [ag4] at he;refine ⟨hK7,hB7,.slice vp (s.map (Zw g)).length vc,?_,i2.trans hB7,cA h3 hK7.size,i5⟩;rw [Ml.o,<- he];exact hS7
 case done =>
  rintro D ys W hD rfl ⟨v,h1,h2,h3,h4⟩ hK;rw [Gr] at h1;exact HK.o D v W h1 h2 h3 hD hK
 case stop =>
  rintro D c pre W _ _ h _;exact h.elim
end Go.Proofs.YtjdfihglehfelaaGreatDoor
namespace Go.Proofs.YtjdfihglehfelaaGreatDoor
open Go.Proofs.Tryz
open Go.RowKit Go.Maps Go.Shelf
attribute [local go_sem] Oper.semAt_some run_makeMap_plain
theorem I7 (Q:Exit->Act->World->Prop){c0 c2 c3 c5 c6 c7 c8 c9 c10 c11 c12 c13 c14 c15 c16 c17 c18 c19 c20 c21 c22 c23 c24 c25 c26 c27 c28 c29 c30 c31 c32 c33 c34 c35 c36 c37 c38 c39 c40 c41 c42 c43 c44 c45 c46 c47 c48 c49 c50 c51 c52 c53 c54 c55 c56 c57 c58 c59 c60 c61 c62 c63 c64 c65 c66 c67 c68 c69 c70 c71 c72 c73 c74 c75:Value}(ds:List Deferred)(w:World)(g:af)(a:bN)(r:aY)(pv:Value)(vp:Option Addr)(vl vc:Nat)(Bt Bl:Nat)(b:Bool)(hq:rC r)
  (ht:w.heap[Bt]?=some (.cells (Taf g a r pv) 120 (0,0))) (hl:w.heap[Bl]?=some (.cells #[.slice vp vl vc] 67 (0,0))) (hb:((vl:Int) == r.Gi*r.Gh)=b)
  (HK:Hid (∀ (u70 u71 u72 u73 u74 u75:Value) (W':World),Below w.heap.size w W'->Q .normal ⟨#[c0,.pointer (some Bt),.slice vp vl vc,.bool b,.pointer (some Bl),c5,c6,c7,c8,c9,c10,c11,c12,c13,c14,c15,c16,c17,c18,c19,c20,c21,c22,c23,c24,c25,c26,c27,c28,c29,c30,c31,c32,c33,c34,c35,c36,c37,c38,c39,c40,c41,c42,c43,c44,c45,c46,c47,c48,c49,c50,c51,c52,c53,c54,c55,c56,c57,c58,c59,c60,c61,c62,c63,c64,c65,c66,c67,c68,c69,u70,u71,u72,u73,u74,u75],ds⟩ W')) :
  (Ai Tryz.f72 12).wp prog Q ⟨#[c0,.pointer (some Bt),c2,c3,.pointer (some Bl),c5,c6,c7,c8,c9,c10,c11,c12,c13,c14,c15,c16,c17,c18,c19,c20,c21,c22,c23,c24,c25,c26,c27,c28,c29,c30,c31,c32,c33,c34,c35,c36,c37,c38,c39,c40,c41,c42,c43,c44,c45,c46,c47,c48,c49,c50,c51,c52,c53,c54,c55,c56,c57,c58,c59,c60,c61,c62,c63,c64,c65,c66,c67,c68,c69,c70,c71,c72,c73,c74,c75],ds⟩ w:=by
 conv=>arg 2;whnf
 dsimp only;have MC:=aq ht;have hbl:=aq hl;have et0:=aG MC (cz ht 0 _ rfl);have et1:=aG MC (cz ht 1 _ rfl);have et2:=aG MC (cz ht 2 _ rfl);have et3:=aG MC (cz ht 3 _ rfl);have et4:=aG MC (cz ht 4 _ rfl);have et5:=aG MC (cz ht 5 _ rfl);have et6:=aG MC (cz ht 6 _ rfl);have et7:=aG MC (cz ht 7 _ rfl);have et8:=aG MC (cz ht 8 _ rfl);have et9:=aG MC (cz ht 9 _ rfl);have af2:=aG MC (cz ht 10 _ rfl);have ae7:=aG MC (cz ht 11 _ rfl);have af3:=aG MC (cz ht 12 _ rfl);have af4:=aG MC (cz ht 13 _ rfl);have af5:=aG MC (cz ht 14 _ rfl);have af6:=aG MC (cz ht 15 _ rfl);have af7:=aG MC (cz ht 16 _ rfl);have el0:=aG hbl (cz hl 0 _ rfl);clear ht hl MC hbl;have RH:=aa fun W=>yx g a r pv W hq
 (refine aU Tcf Tcf ?_;(repeat (go_big_quiet_step ((go_at_call 78;exact iH (RH.o _)))));(with_reducible refine fR ?_);intro wq ia;have kq:=dY ia;clear ia)
 exact HK.o _ _ _ _ _ _ wq kq
theorem PrI.start {g:af}{a:bN}{r:aY}{px:Option Addr}{cx b0:Nat}{xs:List (List (Int × Int))}{W6:World}(h0:W6.heap[b0]?=some (.cells (Tac g a r xs.length px cx) 120 (0,0)))(h1:W6.heap[b0+1]?=some (.cells #[.slice none 0 0] 67 (0,0)))(h2:bi prog 9 W6 (b0+2) 0 (fun _=>none))(h3:W6.heap[b0+3]?=some (.cells #[.map (some (b0+2))] 130 (0,0))):PrI g a r px cx b0 xs W6 [] W6 :=
 ⟨.slice none 0 0,⟨h1,h3,mi.nil _ _,h2.congr (fun key _ _=>by unfold Hd;rw [bh];rintro ⟨p,hp,_⟩;cases hp),h0,cg _⟩,bj _ _,bk _,cg _⟩
theorem H9 {ok:Nat->Prop}(g:af)(a:bN)(r:aY)(px:Option Addr)(cx:Nat)(xs:List (List (Int × Int)))(w:World)(hq:rC r)(kf:ck aO 7 ok w [.slice a.dp g.Gb.length a.dc] g.Gb)(nt:∀ d∈g.Gb,d.tags.length<=1000000/\d.name.size<=1000000)(hcz:∀ k,(kt g r k).size<=maxLen)(hx:CR g.Gb.length xs)(OI:xs.length<=cx/\cx<=9223372036854775807)(hr:wI w.heap.size w px xs) :
  Calls prog 72 #[.agg (Tac g a r xs.length px cx)] w (JO ((DV g r (iU xs)).map (Zw g)) (decide ((DV g r (iU xs)).length=rE r)) w):=by
 refine callsIn_wide (n:=3) |>.1 ?_;refine callsIn_of_wp_marks func72 rfl trivial ?_ rfl;simp only [ntmps72,List.size_toArray,cS,gi,Nat.reduceAdd,Nat.reduceSub,Array.replicate_succ,Array.replicate_zero,List.push_toArray,List.append_toArray,List.nil_append,List.cons_append];refine wpIn_wide.2 ?_;have hA1:=ae w (.cells (Tac g a r xs.length px cx) 120);have hN1:=b9 w (.cells (Tac g a r xs.length px cx) 120);generalize hW1:w.alloc (.cells (Tac g a r xs.length px cx) 120)=W1 at *;have hz1:W1.heap.size=w.heap.size+1:=by rw [<- hW1];exact cW ..
 have hA2:=ae W1 (.cells #[.slice none 0 0] 67);have hN2:=b9 W1 (.cells #[.slice none 0 0] 67);generalize hW2:W1.alloc (.cells #[.slice none 0 0] 67)=W2 at *;have hz2:W2.heap.size=w.heap.size+2:=by rw [<- hW2,cW,hz1]
 have hA3:=ae W2 (.map #[] 0);have hN3:=bi.made prog 9 W2;generalize hW3:W2.alloc (.map #[] 0)=W3 at *;have hz3:W3.heap.size=w.heap.size+3:=by rw [<- hW3,cW,hz2]
 have hA4:=ae W3 (.cells #[.map none] 130);have hN4:=b9 W3 (.cells #[.map none] 130);generalize hW4:W3.alloc (.cells #[.map none] 130)=W4 at *;have hz4:W4.heap.size=w.heap.size+4:=by rw [<- hW4,cW,hz3]
 rw [hz1] at hN2;rw [hz2] at hN3;rw [hz3] at hN4;have eI:=aa (hA1.trans ((hA2.mono Tcd).trans ((hA3.mono Tcd).trans (hA4.mono Tcd))));have Q9:=aa ((hA4.block _ Tcd).trans ((hA3.block _ Tcd).trans ((hA2.block _ Tcd).trans hN1)));have WC:=aa ((hA4.block _ Tcd).trans ((hA3.block _ Tcd).trans hN2));have Ql:=aa (hN3.block (hA4.block _ Tcd));have WD:=aa hN4;have r3:=cz WD.o 0 _ rfl;have rf:=uy WD.o 0;have B2:=aa kf;clear kf;have HX:=aa hx;clear hx;have MW:=aa hr;clear hr;clear hA1 hA2 hA3 hA4 hN1 hN2 hN3 hN4
 go_upto_region 3 with (fail)
 have ra:∀ k,k≠w.heap.size+3->(W4.setCell (Tab (w.heap.size+3) 0) (.map (some (w.heap.size+2)))).heap[k]?=W4.heap[k]?:=fun k e=>bw _ _ _ _ e;have HT5:=aa ((ra _ Tcd).trans Q9.o);have HL5:=aa ((ra _ Tcd).trans WC.o);have HM5:=aa (Ql.o.block (ra _ Tcd));have HR5:=aa (block_setCell (i:=0) (.map (some (w.heap.size+2))) WD.o);have eK:=aa (eI.o.setCell (p:=⟨w.heap.size+3,0,none⟩) (by show w.heap.size<=w.heap.size+3;omega) (.map (some (w.heap.size+2))));have hz5:(W4.setCell (Tab (w.heap.size+3) 0) (.map (some (w.heap.size+2)))).heap.size=w.heap.size+4:=by simp [World.setCell,hz4]
 clear ra r3 rf Q9 WC WD eI Ql;generalize hW5:World.setCell W4 _ _=W5 at *;clear hW5;have tL:=cz HT5.o;obtain ⟨t0,t1,t2,t3,t4,t5,t6,t7,t8,t9,t10,t11⟩:=IE tL;have t12:=tL 12 _ rfl;have t13:=tL 13 _ rfl;have t14:=tL 14 _ rfl;have t15:=tL 15 _ rfl;have t16:=tL 16 _ rfl;clear tL
 go_wp2_with fail
 clear t0 t1 t2 t3 t4 t5 t6 t7 t8 t9 t10 t11 t12 t13 t14 t15 t16;refine (GJ g a r _ W5).mono ?_;rintro e w6 ⟨rfl,rfl⟩;have hA6:=ae W5 (.cells (Tac g a r xs.length px cx) 120);have hN6:=b9 W5 (.cells (Tac g a r xs.length px cx) 120);have hz6:(W5.alloc (.cells (Tac g a r xs.length px cx) 120)).heap.size=w.heap.size+5:=by rw [cW,hz5]
 rw [hz5] at hN6;have qs:=aa (eK.o.trans (hA6.mono Tcd));have HT6:=aa ((hA6.block _ Tcd).trans HT5.o);have HL6:=aa ((hA6.block _ Tcd).trans HL5.o);have HM6:=aa (HM5.o.block (hA6.block _ Tcd));have ZG:=aa ((hA6.block _ Tcd).trans HR5.o);have HN6:=aa hN6;clear hA6 hN6 HT5 HL5 HR5 eK HM5;rw [hz5];generalize hW6:World.alloc W5 _=W6 at *;clear hW6;go_wp2;refine I5 (ok:=ok) _ g a r px cx w.heap.size xs W6 hz6 hq ((ck.moves aO.moves).mv ⟨qs.o.size,fun b hb ho=>⟨⟨ho,hb⟩,qs.o.block b hb⟩⟩ B2.o) nt hcz HX.o OI (MW.o.below qs.o) HN6.o (PrI.start HT6.o HL6.o HM6.o ZG.o) (aa ?_);intro D v W h1 h4 h5 h6 hK;obtain ⟨vp,vc,rfl,-,-⟩:=h1.o.cap;have hKl:=lZ hK;have HK:=aa hK;clear hK;have H1:=aa h1;clear h1;have H4:=aa h4;clear h4
 have pB:((((DV g r (iU xs)).map (Zw g)).length:Int) == r.Gi*r.Gh)=decide ((DV g r (iU xs)).length=rE r):=by
  have h0:=oA (show 0<=r.Gi by have:=hq.l.1;omega) (show 0<=r.Gh by have:=hq.s.1;omega);rw [fW,mN,beq_iff_eq,fk];unfold rE;omega
 have HBD:=aa pB;clear pB
 go_upto_region 12 with (fail)
 refine I7 _ _ W g a r _ vp _ vc _ _ _ hq H1.o.t H1.o.l HBD.o (aa ?_);intro u70 u71 u72 u73 u74 u75 W9 hb9;have hK9:=(hb9.block D hKl).trans HK.o;have J1:=aa hb9;clear hb9;go_wp2;refine ⟨Tce,.inl ⟨_,_,rfl,run_takeDeferred hK9,?_⟩⟩;refine ⟨.tuple #[.slice vp ((DV g r (iU xs)).map (Zw g)).length vc,.bool (decide ((DV g r (iU xs)).length=rE r))],by simp [results,Tryz.results72,go_sem],?_⟩
 have hz9:=J1.o.size;have Q1:∀ k,k<W9.heap.size->k≠D->(W9.putObj D (.deferred none)).heap[k]?=W9.heap[k]?:=fun k hk hne=>(grownBy_putObj' W9 D _).block k hk (fun q=>by injection q with q;exact hne q)
 refine ⟨_,rfl,?_,?_⟩
 ·have ho:=H1.o.o.below J1.o
  refine (ho.blk (by simp [World.putObj]) fun k cs t z _ hk _=>Q1 k (aq hk) fun e=>?_).mono Tcd;subst e;rw [hk] at hK9;injection hK9 with hK9
  cases hK9
 ·exact qs.o.trans (H4.o.trans ((J1.o.mono Tcd).trans (belowK_b (w:=w) (bk _) W9 D _ _ Tcd hK9 rfl rfl)))
end Go.Proofs.YtjdfihglehfelaaGreatDoor
