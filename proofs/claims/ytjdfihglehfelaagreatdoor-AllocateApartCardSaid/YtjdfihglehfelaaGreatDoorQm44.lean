/- Lemmas: AlcU, AlcV, AlcW, LaidS. -/
import Derived.Test.YtjdfihglehfelaaGreatDoorQm43
import Derived.LaidMore
import Derived.Stop.Joined
set_option maxRecDepth 100000
set_option maxHeartbeats 32000000
set_option linter.all false
namespace Go.Proofs.YtjdfihglehfelaaGreatDoor
open Go.Proofs.Tryz
open Go.RowKit Go.Maps Go.Shelf
variable {c0 c1 c2 c4 c6 c7 c9 c10 c11 c12 c13 c14 c15 c16 c17 c18 c19 c20 c21 c22 c23 c24 c25 c26 c27 c28 c29 c30 c31 c32 c33 c34 c35 c36 c37 c38 c39 c40 c41 c42 c43 c44 c45 c46 c47 c48 c49 c50 c51 c52 c53 c54 c55 c56 c57 c58 c59 c60 c61 c62 c63 c64 c65 c66:Value}{r r':aY}{g:af}{xs ys:List (List (Int × Int))}
theorem JG (Q:Exit->Act->World->Prop){c3 c8:Value}(w:World)(r:aY)(Bq:Nat)(hq:w.heap[Bq]?=some (.cells (Taj r) 35 (0,0)))
  (HK:Hid (∀ (u30 u31:Value) (ba bb:Nat) (W':World),Below w.heap.size w W'->w.heap.size<=ba->w.heap.size<=bb->ba≠bb->W'.heap[ba]?=some (.cells (Taj r) 35 (0,0))->W'.heap[bb]?=some (.cells (Taj r) 35 (0,0))->Q .normal ⟨#[c0,c1,c2,c3,c4,.pointer (some Bq),c6,c7,.pointer (some ba),.pointer (some bb),c10,c11,c12,c13,c14,c15,c16,c17,c18,c19,c20,c21,c22,c23,c24,c25,c26,c27,c28,c29,u30,u31,c32,c33,c34,c35,c36,c37,c38,c39,c40,c41,c42,c43,c44,c45,c46,c47,c48,c49,c50,c51,c52,c53,c54,c55,c56,c57,c58,c59,c60,c61,c62,c63,c64,c65,c66],[]⟩ W'))
  (hQ:∀ c (a:Act) (d:Tmp) (v:Value) w,Q (.panic c) (a.put (some d) v) w->Q (.panic c) a w) :
  (Ai Tryz.f12 7).wp prog Q ⟨#[c0,c1,c2,c3,c4,.pointer (some Bq),c6,c7,c8,c9,c10,c11,c12,c13,c14,c15,c16,c17,c18,c19,c20,c21,c22,c23,c24,c25,c26,c27,c28,c29,c30,c31,c32,c33,c34,c35,c36,c37,c38,c39,c40,c41,c42,c43,c44,c45,c46,c47,c48,c49,c50,c51,c52,c53,c54,c55,c56,c57,c58,c59,c60,c61,c62,c63,c64,c65,c66],[]⟩ w:=by
 conv=>arg 2;whnf
 have kq:=aq hq;have HS:Hid (∀ w':World,Below w.heap.size w w'->w'.heap[Bq]?=some (.cells (Taj r) 35 (0,0))):=aa fun w' e=>(e.block _ kq).trans hq;clear hq;refine aL (fun w'=>w'.heap[Bq]?=some (.cells (Taj r) 35 (0,0))) 6 [] Tcf (HS.o _ (bj _ _).drew) (fun hHeld=>?_)
 (refine o7 (i:=0) (v:=?_) rfl rfl Tcf (fun _ _ _ h=>hQ _ _ _ _ _ h) (Or.inl ⟨Tci,?_⟩) hHeld ?_;rotate_left;(intro w hSw;have s0:=cz hSw 0 _ rfl;have s1:=cz hSw 1 _ rfl;have s2:=cz hSw 2 _ rfl;have s3:=cz hSw 3 _ rfl;have s4:=cz hSw 4 _ rfl;have s5:=cz hSw 5 _ rfl;have s6:=cz hSw 6 _ rfl;clear hSw;go_simp;(try (with_reducible rfl)));(try simp only [aS]))
 (refine o7 (i:=1) (v:=?_) rfl rfl Tcf (fun _ _ _ h=>hQ _ _ _ _ _ h) (Or.inl ⟨Tci,?_⟩) hHeld ?_;rotate_left;(intro w hSw;have s0:=cz hSw 0 _ rfl;have s1:=cz hSw 1 _ rfl;have s2:=cz hSw 2 _ rfl;have s3:=cz hSw 3 _ rfl;have s4:=cz hSw 4 _ rfl;have s5:=cz hSw 5 _ rfl;have s6:=cz hSw 6 _ rfl;clear hSw;go_simp;(try (with_reducible rfl)));(try simp only [aS]))
 refine mh (i:=2) (j:=3) rfl rfl rfl rfl Tcf (fun K hK=>?_) (fun K hK=>?_)
 ·go_simp
  have hb1:Below w.heap.size w (w.alloc (.cells Tam 35)).drew:=((bj _ w).alloc (bk _) _).drew;have hn1:(w.alloc (.cells Tam 35)).drew.heap[w.heap.size]?=some (.cells Tam 35 (0,0)):=b9 w _;have hz1:(w.alloc (.cells Tam 35)).drew.heap.size=w.heap.size+1:=cW ..;refine hK.o _ _ (HS.o _ hb1) ?_;clear hK K hHeld;have hHeld:=HS.o _ hb1;generalize hW1:(w.alloc (.cells Tam 35)).drew=W1 at *;clear hW1;have hA2:=ae W1 (.cells Tam 35);have hn2:=b9 W1 (.cells Tam 35);have hb2:=hb1.trans (hA2.mono Tcd);have hz2:(W1.alloc (.cells Tam 35)).heap.size=w.heap.size+2:=by rw [cW,hz1]
  have hn1':=(hA2.block _ Tcd).trans hn1;rw [hz1] at hn2;refine lR 3 fun K hK=>?_;go_simp;refine hK.o _ _ (HS.o _ hb2) ?_;clear hK K hHeld;generalize hW2:W1.alloc (.cells Tam 35)=W2 at *;clear hW2 hA2;have hne:w.heap.size≠(w.heap.size+1):=by omega
  have h1:w.heap.size<=w.heap.size:=by omega
  have h2:w.heap.size<=(w.heap.size+1):=by omega
  have Zq:=hn1';have sy:=hn2;clear hn1 hn1' hn2;have za:=cz Zq;obtain ⟨z0,z1,z2,z3,z4,z5,z6⟩:=se za;have zf:=uy Zq;have r3:(((((((W2.setCell w.heap.size (.int .i64 r.Gi)).setCell (Tab w.heap.size 1) (.int .i64 r.Gh)).setCell (Tab w.heap.size 2) (.int .i64 r.Gc)).setCell (Tab w.heap.size 3) (.int .i64 r.Gg)).setCell (Tab w.heap.size 4) (.string r.tag)).setCell (Tab w.heap.size 5) (.string r.near)).setCell (Tab w.heap.size 6) (.string r.sep)).heap[w.heap.size]?=some (.cells (Taj r) 35 (0,0)):=block_setCell (cs:=#[_,_,_,_,_,_,_]) (i:=6) _ (block_setCell (cs:=#[_,_,_,_,_,_,_]) (i:=5) _ (block_setCell (cs:=#[_,_,_,_,_,_,_]) (i:=4) _ (block_setCell (cs:=#[_,_,_,_,_,_,_]) (i:=3) _ (block_setCell (cs:=#[_,_,_,_,_,_,_]) (i:=2) _ (block_setCell (cs:=#[_,_,_,_,_,_,_]) (i:=1) _ (block_setCell (cs:=#[_,_,_,_,_,_,_]) (i:=0) _ (Zq)))))));have ks:∀ k,k≠w.heap.size->(((((((W2.setCell w.heap.size (.int .i64 r.Gi)).setCell (Tab w.heap.size 1) (.int .i64 r.Gh)).setCell (Tab w.heap.size 2) (.int .i64 r.Gc)).setCell (Tab w.heap.size 3) (.int .i64 r.Gg)).setCell (Tab w.heap.size 4) (.string r.tag)).setCell (Tab w.heap.size 5) (.string r.near)).setCell (Tab w.heap.size 6) (.string r.sep)).heap[k]?=W2.heap[k]?:=fun k e=>(bw _ _ _ _ e).trans ((bw _ _ _ _ e).trans ((bw _ _ _ _ e).trans ((bw _ _ _ _ e).trans ((bw _ _ _ _ e).trans ((bw _ _ _ _ e).trans ((bw _ _ _ _ e).trans (rfl)))))));have hb3:Below w.heap.size w (((((((W2.setCell w.heap.size (.int .i64 r.Gi)).setCell (Tab w.heap.size 1) (.int .i64 r.Gh)).setCell (Tab w.heap.size 2) (.int .i64 r.Gc)).setCell (Tab w.heap.size 3) (.int .i64 r.Gg)).setCell (Tab w.heap.size 4) (.string r.tag)).setCell (Tab w.heap.size 5) (.string r.near)).setCell (Tab w.heap.size 6) (.string r.sep)):=(((((((hb2).setCell (p:=w.heap.size) (show w.heap.size<=w.heap.size by omega) _).setCell (p:=⟨w.heap.size,1,none⟩) (show w.heap.size<=w.heap.size by omega) _).setCell (p:=⟨w.heap.size,2,none⟩) (show w.heap.size<=w.heap.size by omega) _).setCell (p:=⟨w.heap.size,3,none⟩) (show w.heap.size<=w.heap.size by omega) _).setCell (p:=⟨w.heap.size,4,none⟩) (show w.heap.size<=w.heap.size by omega) _).setCell (p:=⟨w.heap.size,5,none⟩) (show w.heap.size<=w.heap.size by omega) _).setCell (p:=⟨w.heap.size,6,none⟩) (show w.heap.size<=w.heap.size by omega) _;have hn3:=(ks (w.heap.size+1) (fun e=>hne e.symm)).trans sy;have R3:=aa r3;have Yn:=aa hn3;have cJ:=aa hb3;clear r3 hn3 hb3 ks Zq sy hb2;refine lR 4 fun K hK=>?_;go_simp;refine hK.o _ _ (HS.o _ cJ.o) ?_;clear hK K z0 z1 z2 z3 z4 z5 z6 zf za;generalize hW3:World.setCell (World.setCell (World.setCell (World.setCell (World.setCell (World.setCell (World.setCell W2 _ _) _ _) _ _) _ _) _ _) _ _) _ _=W3 at *;clear hW3;have hn3:=Yn.o;have za:=cz hn3;obtain ⟨z0,z1,z2,z3,z4,z5,z6⟩:=se za;have zf:=uy hn3;have r4:(((((((W3.setCell (Tab ((w.heap.size+1)) 0) (.int .i64 r.Gi)).setCell (Tab ((w.heap.size+1)) 1) (.int .i64 r.Gh)).setCell (Tab ((w.heap.size+1)) 2) (.int .i64 r.Gc)).setCell (Tab ((w.heap.size+1)) 3) (.int .i64 r.Gg)).setCell (Tab ((w.heap.size+1)) 4) (.string r.tag)).setCell (Tab ((w.heap.size+1)) 5) (.string r.near)).setCell (Tab ((w.heap.size+1)) 6) (.string r.sep)).heap[(w.heap.size+1)]?=some (.cells (Taj r) 35 (0,0)):=block_setCell (cs:=#[_,_,_,_,_,_,_]) (i:=6) _ (block_setCell (cs:=#[_,_,_,_,_,_,_]) (i:=5) _ (block_setCell (cs:=#[_,_,_,_,_,_,_]) (i:=4) _ (block_setCell (cs:=#[_,_,_,_,_,_,_]) (i:=3) _ (block_setCell (cs:=#[_,_,_,_,_,_,_]) (i:=2) _ (block_setCell (cs:=#[_,_,_,_,_,_,_]) (i:=1) _ (block_setCell (cs:=#[_,_,_,_,_,_,_]) (i:=0) _ (hn3)))))));have ks:∀ k,k≠(w.heap.size+1)->(((((((W3.setCell (Tab ((w.heap.size+1)) 0) (.int .i64 r.Gi)).setCell (Tab ((w.heap.size+1)) 1) (.int .i64 r.Gh)).setCell (Tab ((w.heap.size+1)) 2) (.int .i64 r.Gc)).setCell (Tab ((w.heap.size+1)) 3) (.int .i64 r.Gg)).setCell (Tab ((w.heap.size+1)) 4) (.string r.tag)).setCell (Tab ((w.heap.size+1)) 5) (.string r.near)).setCell (Tab ((w.heap.size+1)) 6) (.string r.sep)).heap[k]?=W3.heap[k]?:=fun k e=>(bw _ _ _ _ e).trans ((bw _ _ _ _ e).trans ((bw _ _ _ _ e).trans ((bw _ _ _ _ e).trans ((bw _ _ _ _ e).trans ((bw _ _ _ _ e).trans ((bw _ _ _ _ e).trans (rfl)))))));have hb4:Below w.heap.size w (((((((W3.setCell (Tab ((w.heap.size+1)) 0) (.int .i64 r.Gi)).setCell (Tab ((w.heap.size+1)) 1) (.int .i64 r.Gh)).setCell (Tab ((w.heap.size+1)) 2) (.int .i64 r.Gc)).setCell (Tab ((w.heap.size+1)) 3) (.int .i64 r.Gg)).setCell (Tab ((w.heap.size+1)) 4) (.string r.tag)).setCell (Tab ((w.heap.size+1)) 5) (.string r.near)).setCell (Tab ((w.heap.size+1)) 6) (.string r.sep)):=(((((((cJ.o).setCell (p:=⟨(w.heap.size+1),0,none⟩) (show w.heap.size<=(w.heap.size+1) by omega) _).setCell (p:=⟨(w.heap.size+1),1,none⟩) (show w.heap.size<=(w.heap.size+1) by omega) _).setCell (p:=⟨(w.heap.size+1),2,none⟩) (show w.heap.size<=(w.heap.size+1) by omega) _).setCell (p:=⟨(w.heap.size+1),3,none⟩) (show w.heap.size<=(w.heap.size+1) by omega) _).setCell (p:=⟨(w.heap.size+1),4,none⟩) (show w.heap.size<=(w.heap.size+1) by omega) _).setCell (p:=⟨(w.heap.size+1),5,none⟩) (show w.heap.size<=(w.heap.size+1) by omega) _).setCell (p:=⟨(w.heap.size+1),6,none⟩) (show w.heap.size<=(w.heap.size+1) by omega) _;have R3':=aa ((ks w.heap.size hne).trans R3.o);have R4:=aa r4;have eI:=aa hb4;clear r4 ks hb4 hn3;refine lR 5 fun K hK=>?_;go_simp;refine hK.o _ _ (HS.o _ eI.o) ?_;clear hK K z0 z1 z2 z3 z4 z5 z6 zf za;refine aP Tcf rfl ?_;simp only [cQ,cL,km];exact HK.o _ _ w.heap.size (w.heap.size+1) _ eI.o h1 h2 hne R3'.o R4.o
 ·go_simp
  have hb1:Below w.heap.size w (w.alloc (.cells Tam 35)).drew:=((bj _ w).alloc (bk _) _).drew;have hn1:(w.alloc (.cells Tam 35)).drew.heap[w.heap.size]?=some (.cells Tam 35 (0,0)):=b9 w _;have hz1:(w.alloc (.cells Tam 35)).drew.heap.size=w.heap.size+1:=cW ..;refine hK.o _ _ (HS.o _ hb1) ?_;clear hK K hHeld;have hHeld:=HS.o _ hb1;generalize hW1:(w.alloc (.cells Tam 35)).drew=W1 at *;clear hW1;have hA2:=ae W1 (.cells Tam 35);have hn2:=b9 W1 (.cells Tam 35);have hb2:=hb1.trans (hA2.mono Tcd);have hz2:(W1.alloc (.cells Tam 35)).heap.size=w.heap.size+2:=by rw [cW,hz1]
  have hn1':=(hA2.block _ Tcd).trans hn1;rw [hz1] at hn2;refine lR 2 fun K hK=>?_;go_simp;refine hK.o _ _ (HS.o _ hb2) ?_;clear hK K hHeld;generalize hW2:W1.alloc (.cells Tam 35)=W2 at *;clear hW2 hA2;have hne:(w.heap.size+1)≠w.heap.size:=by omega
  have h1:w.heap.size<=(w.heap.size+1):=by omega
  have h2:w.heap.size<=w.heap.size:=by omega
  have Zq:=hn2;have sy:=hn1';clear hn1 hn1' hn2;have za:=cz Zq;obtain ⟨z0,z1,z2,z3,z4,z5,z6⟩:=se za;have zf:=uy Zq;have r3:(((((((W2.setCell (Tab ((w.heap.size+1)) 0) (.int .i64 r.Gi)).setCell (Tab ((w.heap.size+1)) 1) (.int .i64 r.Gh)).setCell (Tab ((w.heap.size+1)) 2) (.int .i64 r.Gc)).setCell (Tab ((w.heap.size+1)) 3) (.int .i64 r.Gg)).setCell (Tab ((w.heap.size+1)) 4) (.string r.tag)).setCell (Tab ((w.heap.size+1)) 5) (.string r.near)).setCell (Tab ((w.heap.size+1)) 6) (.string r.sep)).heap[(w.heap.size+1)]?=some (.cells (Taj r) 35 (0,0)):=block_setCell (cs:=#[_,_,_,_,_,_,_]) (i:=6) _ (block_setCell (cs:=#[_,_,_,_,_,_,_]) (i:=5) _ (block_setCell (cs:=#[_,_,_,_,_,_,_]) (i:=4) _ (block_setCell (cs:=#[_,_,_,_,_,_,_]) (i:=3) _ (block_setCell (cs:=#[_,_,_,_,_,_,_]) (i:=2) _ (block_setCell (cs:=#[_,_,_,_,_,_,_]) (i:=1) _ (block_setCell (cs:=#[_,_,_,_,_,_,_]) (i:=0) _ (Zq)))))));have ks:∀ k,k≠(w.heap.size+1)->(((((((W2.setCell (Tab ((w.heap.size+1)) 0) (.int .i64 r.Gi)).setCell (Tab ((w.heap.size+1)) 1) (.int .i64 r.Gh)).setCell (Tab ((w.heap.size+1)) 2) (.int .i64 r.Gc)).setCell (Tab ((w.heap.size+1)) 3) (.int .i64 r.Gg)).setCell (Tab ((w.heap.size+1)) 4) (.string r.tag)).setCell (Tab ((w.heap.size+1)) 5) (.string r.near)).setCell (Tab ((w.heap.size+1)) 6) (.string r.sep)).heap[k]?=W2.heap[k]?:=fun k e=>(bw _ _ _ _ e).trans ((bw _ _ _ _ e).trans ((bw _ _ _ _ e).trans ((bw _ _ _ _ e).trans ((bw _ _ _ _ e).trans ((bw _ _ _ _ e).trans ((bw _ _ _ _ e).trans (rfl)))))));have hb3:Below w.heap.size w (((((((W2.setCell (Tab ((w.heap.size+1)) 0) (.int .i64 r.Gi)).setCell (Tab ((w.heap.size+1)) 1) (.int .i64 r.Gh)).setCell (Tab ((w.heap.size+1)) 2) (.int .i64 r.Gc)).setCell (Tab ((w.heap.size+1)) 3) (.int .i64 r.Gg)).setCell (Tab ((w.heap.size+1)) 4) (.string r.tag)).setCell (Tab ((w.heap.size+1)) 5) (.string r.near)).setCell (Tab ((w.heap.size+1)) 6) (.string r.sep)):=(((((((hb2).setCell (p:=⟨(w.heap.size+1),0,none⟩) (show w.heap.size<=(w.heap.size+1) by omega) _).setCell (p:=⟨(w.heap.size+1),1,none⟩) (show w.heap.size<=(w.heap.size+1) by omega) _).setCell (p:=⟨(w.heap.size+1),2,none⟩) (show w.heap.size<=(w.heap.size+1) by omega) _).setCell (p:=⟨(w.heap.size+1),3,none⟩) (show w.heap.size<=(w.heap.size+1) by omega) _).setCell (p:=⟨(w.heap.size+1),4,none⟩) (show w.heap.size<=(w.heap.size+1) by omega) _).setCell (p:=⟨(w.heap.size+1),5,none⟩) (show w.heap.size<=(w.heap.size+1) by omega) _).setCell (p:=⟨(w.heap.size+1),6,none⟩) (show w.heap.size<=(w.heap.size+1) by omega) _;have hn3:=(ks w.heap.size (fun e=>hne e.symm)).trans sy;have R3:=aa r3;have Yn:=aa hn3;have cJ:=aa hb3;clear r3 hn3 hb3 ks Zq sy hb2;refine lR 4 fun K hK=>?_;go_simp;refine hK.o _ _ (HS.o _ cJ.o) ?_;clear hK K z0 z1 z2 z3 z4 z5 z6 zf za;generalize hW3:World.setCell (World.setCell (World.setCell (World.setCell (World.setCell (World.setCell (World.setCell W2 _ _) _ _) _ _) _ _) _ _) _ _) _ _=W3 at *;clear hW3;have hn3:=Yn.o;have za:=cz hn3;obtain ⟨z0,z1,z2,z3,z4,z5,z6⟩:=se za;have zf:=uy hn3;have r4:(((((((W3.setCell w.heap.size (.int .i64 r.Gi)).setCell (Tab w.heap.size 1) (.int .i64 r.Gh)).setCell (Tab w.heap.size 2) (.int .i64 r.Gc)).setCell (Tab w.heap.size 3) (.int .i64 r.Gg)).setCell (Tab w.heap.size 4) (.string r.tag)).setCell (Tab w.heap.size 5) (.string r.near)).setCell (Tab w.heap.size 6) (.string r.sep)).heap[w.heap.size]?=some (.cells (Taj r) 35 (0,0)):=block_setCell (cs:=#[_,_,_,_,_,_,_]) (i:=6) _ (block_setCell (cs:=#[_,_,_,_,_,_,_]) (i:=5) _ (block_setCell (cs:=#[_,_,_,_,_,_,_]) (i:=4) _ (block_setCell (cs:=#[_,_,_,_,_,_,_]) (i:=3) _ (block_setCell (cs:=#[_,_,_,_,_,_,_]) (i:=2) _ (block_setCell (cs:=#[_,_,_,_,_,_,_]) (i:=1) _ (block_setCell (cs:=#[_,_,_,_,_,_,_]) (i:=0) _ (hn3)))))));have ks:∀ k,k≠w.heap.size->(((((((W3.setCell w.heap.size (.int .i64 r.Gi)).setCell (Tab w.heap.size 1) (.int .i64 r.Gh)).setCell (Tab w.heap.size 2) (.int .i64 r.Gc)).setCell (Tab w.heap.size 3) (.int .i64 r.Gg)).setCell (Tab w.heap.size 4) (.string r.tag)).setCell (Tab w.heap.size 5) (.string r.near)).setCell (Tab w.heap.size 6) (.string r.sep)).heap[k]?=W3.heap[k]?:=fun k e=>(bw _ _ _ _ e).trans ((bw _ _ _ _ e).trans ((bw _ _ _ _ e).trans ((bw _ _ _ _ e).trans ((bw _ _ _ _ e).trans ((bw _ _ _ _ e).trans ((bw _ _ _ _ e).trans (rfl)))))));have hb4:Below w.heap.size w (((((((W3.setCell w.heap.size (.int .i64 r.Gi)).setCell (Tab w.heap.size 1) (.int .i64 r.Gh)).setCell (Tab w.heap.size 2) (.int .i64 r.Gc)).setCell (Tab w.heap.size 3) (.int .i64 r.Gg)).setCell (Tab w.heap.size 4) (.string r.tag)).setCell (Tab w.heap.size 5) (.string r.near)).setCell (Tab w.heap.size 6) (.string r.sep)):=(((((((cJ.o).setCell (p:=w.heap.size) (show w.heap.size<=w.heap.size by omega) _).setCell (p:=⟨w.heap.size,1,none⟩) (show w.heap.size<=w.heap.size by omega) _).setCell (p:=⟨w.heap.size,2,none⟩) (show w.heap.size<=w.heap.size by omega) _).setCell (p:=⟨w.heap.size,3,none⟩) (show w.heap.size<=w.heap.size by omega) _).setCell (p:=⟨w.heap.size,4,none⟩) (show w.heap.size<=w.heap.size by omega) _).setCell (p:=⟨w.heap.size,5,none⟩) (show w.heap.size<=w.heap.size by omega) _).setCell (p:=⟨w.heap.size,6,none⟩) (show w.heap.size<=w.heap.size by omega) _;have R3':=aa ((ks (w.heap.size+1) hne).trans R3.o);have R4:=aa r4;have eI:=aa hb4;clear r4 ks hb4 hn3;refine lR 5 fun K hK=>?_;go_simp;refine hK.o _ _ (HS.o _ eI.o) ?_;clear hK K z0 z1 z2 z3 z4 z5 z6 zf za;refine aP Tcf rfl ?_;simp only [cQ,cL,km];exact HK.o _ _ (w.heap.size+1) w.heap.size _ eI.o h1 h2 hne R3'.o R4.o
theorem JA (Q:Exit->Act->World->Prop)(w:World)(r:aY)(bs Bq ba:Nat)(hq:w.heap[Bq]?=some (.cells (Taj r) 35 (0,0)))(ha:w.heap[ba]?=some (.cells (Taj r) 35 (0,0)))(hs:Src w bs)(kq:Bq≠bs)(Sr:ba≠bs)(he:0<=r.Gc/\r.Gc<=100000)
  (HK:Hid (∀ (u32 u33 u34 u35 u36 u37 u38:Value) (n:Int) (W':World),1<=n/\n<=3->Src W' bs->cR (fun i=>i=bs) w W'->Q .normal ⟨#[c0,c1,c2,.pointer (some bs),c4,.pointer (some Bq),c6,c7,.pointer (some ba),c9,c10,c11,c12,c13,c14,c15,c16,c17,c18,c19,c20,c21,c22,c23,c24,c25,c26,c27,c28,c29,c30,c31,u32,u33,u34,u35,u36,u37,u38,c39,c40,c41,c42,c43,c44,c45,c46,c47,c48,c49,c50,c51,c52,c53,c54,c55,c56,c57,c58,c59,c60,c61,c62,c63,c64,c65,c66],[]⟩ (W'.setCell (Tab ba 2) (.int .i64 (max 1 (r.Gc - n))))))
  (hQ:∀ c (a:Act) (d:Tmp) (v:Value) w,Q (.panic c) (a.put (some d) v) w->Q (.panic c) a w) :
  (Ai Tryz.f12 8).wp prog Q ⟨#[c0,c1,c2,.pointer (some bs),c4,.pointer (some Bq),c6,c7,.pointer (some ba),c9,c10,c11,c12,c13,c14,c15,c16,c17,c18,c19,c20,c21,c22,c23,c24,c25,c26,c27,c28,c29,c30,c31,c32,c33,c34,c35,c36,c37,c38,c39,c40,c41,c42,c43,c44,c45,c46,c47,c48,c49,c50,c51,c52,c53,c54,c55,c56,c57,c58,c59,c60,c61,c62,c63,c64,c65,c66],[]⟩ w:=by
 conv=>arg 2;whnf
 have ah8:=aq hq;have HS:Hid (∀ w':World,cR (fun i=>i=bs) w w'->w'.heap[Bq]?=some (.cells (Taj r) 35 (0,0))):=aa fun w' e=>(e.block _ ah8 kq).trans hq;have HA:=aa ha;have XM:=aa hs;clear hq ha hs;refine aL (fun w'=>w'.heap[Bq]?=some (.cells (Taj r) 35 (0,0))) 7 [] Tcf (HS.o _ (cR.of_below ((bj _ _).drew))) (fun hHeld=>?_);refine cH hQ 0 hHeld ?_;try simp only [ak]
 (refine o7 (i:=1) (v:=?_) rfl rfl Tcf (fun _ _ _ h=>hQ _ _ _ _ _ h) (Or.inl ⟨Tci,?_⟩) hHeld ?_;rotate_left;(intro w hSw;have s2:=cz hSw 2 _ rfl;clear hSw;go_simp;(try (with_reducible rfl)));(try simp only [aS]))
 refine cH hQ 2 hHeld ?_;try simp only [ak];refine lR 3 fun K hK=>?_;go_simp;refine (bO bs 1 3 w.drew Tcg Tcg Tcg (XM.o.keep fun i _=>rfl)).mono ?_;rintro e w6 ⟨n,rfl,hn1,hn2,hs6,hm6⟩;have hm6':cR (fun i=>i=bs) w w6:=⟨hm6.os,hm6.tape,hm6.output,hm6.size,hm6.block⟩;refine hK.o _ _ (HS.o _ hm6') ?_;clear hK K hHeld;have hHeld:=HS.o _ hm6';have HM6:=aa hm6';clear hm6 hm6';have HS6:=aa hs6;clear hs6;have hw1:IntKind.i64.wrap (r.Gc - n)=r.Gc - n:=dy _ Tcd;refine cH hQ 4 hHeld ?_;try simp only [ak];refine cH hQ 5 hHeld ?_;try simp only [ak];refine cH hQ 6 hHeld ?_;try simp only [ak];have ha6:=(HM6.o.block _ (aq HA.o) Sr).trans HA.o;have z2:=cz ha6 2 _ rfl;have zf:=uy ha6;clear ha6;refine aP Tcf rfl ?_;simp only [cQ,cL,km];go_wp2;exact HK.o _ _ _ _ _ _ _ n w6 ⟨hn1,hn2⟩ HS6.o HM6.o
theorem JP (h:rC r):(1<rE r↔Db r=2)/\(¬ 1<rE r->(Db r=1↔r.Gg=1)):=by
 have h0:=oA (show 0<=r.Gi by have:=h.l.1;omega) (show 0<=r.Gh by have:=h.s.1;omega);unfold rE Db;constructor
 ·constructor
  ·intro q
   rw [aw Tcd]
  ·intro q
   by_cases c:1<r.Gi*r.Gh
   ·omega
   ·rw [bh c] at q
    split at q <;> cases q
 ·intro q
  rw [bh Tcd];constructor
  ·intro c
   split at c
   ·assumption
   ·cases c
  ·intro c
   rw [aw c]
theorem G6 (h:rC r)(xs:List (List (Int × Int))):(xO g r xs).2=Ho r.Gc (rE r) r.Gg (kt g r) (iU xs):=by
 obtain ⟨w1,w2⟩:=JP h;unfold xO Ho
 by_cases hn:1<rE r
 ·rw [aw (w1.1 hn),aw hn]
  unfold DV;rw [Jy]
 ·rw [bh (fun q=>hn (w1.2 q)),bh hn]
  by_cases hp:r.Gg=1
  ·rw [aw ((w2 hn).2 hp),aw hp]
   exact Jj _ _
  ·rw [bh (fun q=>hp ((w2 hn).1 q)),bh hp]
theorem Jh (hs:∀ d n,kI g r' d n↔kI g r d n)(hx:tK g r xs)(hy:tK g r' ys)(hl:xs.length=g.Gb.length)(hl':ys.length=g.Gb.length):xs=ys:=by
 refine Bk fun i=>?_
 by_cases hi:i<g.Gb.length
 ·obtain ⟨d,hd⟩:=aj g.Gb i hi
  obtain ⟨x,hx'⟩:=aj xs i Tcd;obtain ⟨y,hy'⟩:=aj ys i Tcd;rw [hx',hy']
  congr 1
  exact (hx i d x hd hx').1.eq (hy i d y hd hy').1 fun n=>(hs d n).symm
 ·rw [xj Tcd,xj Tcd]
theorem GK (hp:kP g r=0)(hp':kP g r'=0)(he:r'.Gc<=r.Gc)(hn:rE r'<=rE r)(ah9:r'.Gg=r.Gg)(Kj:kt g r'=kt g r)(hs:∀ d n,kI g r' d n↔kI g r d n)(ai0:E9 g)(hx:tK g r xs)(hy:tK g r' ys)(hl:xs.length=g.Gb.length)(hl':ys.length=g.Gb.length)(h:AC g r xs=0):AC g r' ys=0:=by
 obtain rfl:=Jh hs hx hy hl hl';unfold AC at h ⊢;rw [aw hp] at h;rw [aw hp']
 have h2:(xO g r xs).2=true:=by
  cases hh:(xO g r xs).2 with
  | true=>rfl
  | false=>rw [hh,bh Tcg] at h;cases h
 rw [aw];have sB:=tK.runs ai0 hx hl;rw [G6 (rC.of hp)] at h2;rw [G6 (rC.of hp'),ah9,Kj];refine IZ he (fun x hx=>(sB.yy x hx).2.2.1) _ hn ?_ h2;have q:=rC.of hp';have h0:1*1<=r'.Gi*r'.Gh:=tW q.l.1 q.s.1 Tcg (by have:=q.l.1;omega);unfold rE;omega
theorem iw.other {w0 w:World}{Bg Bq:Nat}{a:bN}(h:iw w0 Bg Bq g a r w)(b j:Nat)(v:Value)(h1:w0.heap.size<b)(h2:Bg<b)(h3:Bq≠b):iw w0 Bg Bq g a r (w.setCell (b,j) v) :=
 ⟨h.src.keep fun i hi=>bw _ _ _ _ (show i≠b by omega),h.bl.setCell (p:=⟨b,j,none⟩) (show w0.heap.size<=b by omega) v,h.gr.mv ⟨Tcq,fun k hk ho=>⟨ho,bw _ _ _ _ (show k≠b by omega)⟩⟩,(bw _ _ _ _ (show Bg≠b by omega)).trans h.gb,(bw _ _ _ _ h3).trans h.qb,h.rq,
  ⟨by simpa [World.setCell] using h.sf.1,fun i l hl=>by
   rw [cd (w:=w) (bw w ⟨b,j,none⟩ v 0 (show 0≠b by omega))]
   exact h.sf.2 i l hl⟩⟩
def Zp (r:aY)(e:Int):aY:=⟨r.Gi,r.Gh,e,r.Gg,r.tag,r.near,r.sep⟩
def C0 (r:aY)(l:Int):aY:=⟨l,r.Gh,r.Gc,r.Gg,r.tag,r.near,r.sep⟩
theorem Gn (h:kP g r=0)(hr:rC r')(h1:r'.Gg=r.Gg)(h2:r'.near=r.near)(h3:r'.tag=r.tag)(h4:r'.sep=r.sep):kP g r'=0:=by
 unfold kP at h ⊢;split at h
 ·rename_i hm
  rw [aw hm];unfold yZ at h ⊢
  have hb:Dr r'=true:=by
   unfold Dr Ek;simp only [eh,fk];exact ⟨⟨⟨hr.l,hr.s⟩,hr.ls⟩,hr.e⟩
  have hn:xM g r'=xM g r:=by unfold xM OC;rw [h1,h2]
  rw [bh (by rw [hb];decide),h1,hn,h3,h4];split at h
  ·cases h
  ·exact h
 ·rename_i hm
  exact absurd h hm
theorem Tb5 {p:Prop}(h:p:=by
 go_wp2_with fail
 refine XV.o.mono ?_
 rintro e w11 ⟨rfl,hb11⟩
 have C7:=aa (B3.o.trans (hb11.mono B3.o.size))
 clear hb11
 go_wp2
 go_ret
 exact ⟨rfl,C7.o⟩):p:=h
theorem Tba {p:Prop}(h:p:=by
 rw [Yx]
 have HS12:=aa (HS11.o.below hb12)
 clear Yx hpz hzl hb12 HS11
 have XV:=aa (DR _ HS12.o.sf)
 have B3:=aa HS12.o.bl
 exact Tb5):p:=h
theorem TdQ {p:Prop}(h:p:=by have:=XE.o.e;have:=Zt.o.2;show e1<=4096;omega):p:=h
theorem DD (l:List Int)(v:Value)(w:World)(hr:Hs w v l)(hl:∀ x∈l,-9223372036854775808<=x/\x<=9223372036854775807)(hS:AW w) :
  Calls prog 12 #[v] w fun e w'=>e=.returned (.bool true)/\Below w.heap.size w w':=by
 have HR:=aa hr;clear hr;have MD:=aa hS;clear hS;go_enter func12,ntmps12
 go_wp2_with fail
 refine (ED l v w HR.o hl).mono ?_;rintro e w1 ⟨rfl,hs1,hz1,hb1⟩
 go_wp2_with fail
 refine (Ca w.heap.size w1 hs1).mono ?_;intro e w2 hG;obtain ⟨g,a,rfl,hgr,MC,hs2,hb2,hz2⟩:=hG.open2 hb1 hz1;have Tt:=aa (MD.o.below hb2);clear hs1 hz1 hb1 hG;have XT:=aa MC.gin;have Nj:Hid (g.Gb.length<=4/\g.F9.length<=44):=aa ⟨MC.tame.dl,MC.tame.vl⟩;clear MC;have bA:=ae w2 (.cells (Tae g a) 31);have Zr:=aa (b9 w2 (.cells (Tae g a) 31));have Lm:=aa (hgr.lt.keep (cR.bl bA));have XM:=aa (hs2.keep (w':=w2.alloc (.cells (Tae g a) 31)) fun i hi=>bA.block i Tcd);have cJ:=aa (hb2.trans (bA.mono hb2.size));have Tu:=aa (Tt.o.below bA);clear hgr hs2 hb2 bA Tt
 go_upto_region 3 with (fail)
 generalize hW3:World.alloc w2 _=W3 at *;generalize Ms:w2.heap.size=Bg at *;clear hW3 Ms
 have gL:=cr Zr.o
 obtain ⟨g0,g1,g2,g3,g4,g5,g6,g7,g8⟩:=xr gL;clear gL;have CD:=Nj.o.1;have mb:=Nj.o.2;have SA:=aa (wX g a w.heap.size W3 ((ck.moves aN.moves).mv ⟨bk _,fun b _ hb=>⟨hb.1,rfl⟩⟩ Lm.o.F9) Tcd (fun v hv=>(XT.o.tx.vol v hv).1) XM.o)
 go_wp2_with fail
 clear g0 g1 g2 g3 g4 g5 g6 g7 g8;refine SA.o.mono ?_;rintro e w4 ⟨r,rfl,Kg,hs4,hm4⟩;clear SA;have h0w:=MD.o.1;have hA:=ae w4 (.cells (Taj r) 35);have hN:=b9 w4 (.cells (Taj r) 35);have ye:Bg≠w.heap.size:=by omega
 have HST:Hid (iw w Bg w4.heap.size g a r (w4.alloc (.cells (Taj r) 35))):=aa
  ⟨hs4.keep fun i hi=>hA.block i (rr hi hs4.lt),(cJ.o.trans (hm4.below cJ.o.size (fun k e=>by omega))).trans (hA.mono (cA cJ.o.size hm4.size)),(Lm.o.keep hm4).keep (cR.bl hA),
   (hA.block _ (cC (aq Zr.o) hm4.size)).trans ((hm4.block _ (aq Zr.o) ye).trans Zr.o),hN,Kg,(Tu.o.mod hm4 Tcd).below hA⟩
 have kq:Bg<w4.heap.size:=cC (aq Zr.o) hm4.size;clear hA hN Kg hs4 hm4 Zr Lm XM cJ Tu;unfold mO
 go_upto_region 4 with (fail)
 generalize hW5:World.alloc w4 _=W5 at *;generalize PF:w4.heap.size=Bq at *;clear hW5 PF;have gL:=HST.o.gc;obtain ⟨g0,g1,g2,g3,g4,g5,g6,g7,g8⟩:=xr gL;have qL:=HST.o.qc;obtain ⟨q0,q1,q2,q3,q4,q5,q6⟩:=se qL;clear gL qL;have Ub:=aa (rA g a r W5 HST.o.gr XT.o HST.o.rq HST.o.sf)
 go_wp2_with fail
 clear g0 g1 g2 g3 g4 g5 g6 g7 g8 q0 q1 q2 q3 q4 q5 q6;refine Ub.o.mono ?_;clear Ub;rintro e w6 ⟨v1,xs,rfl,hb6,Uv,vh,-,-⟩;have HS6:=aa (HST.o.below hb6);have hsz5:=HST.o.bl.size;have hz6:=hb6.size;have ai3:=aq HS6.o.qb;clear hb6 HST
 by_cases he:AC g r xs=0
 ·have hp:kP g r=0:=by
   unfold AC at he;split at he
   ·assumption
   ·exact he
  rw [aw hp] at vh;have hro:=rC.of hp
  have tP:(pM g).2=0:=by
   unfold kP at hp;split at hp
   ·assumption
   ·rename_i hm
    exact absurd hp hm
  have HH:=aa (⟨he,hp,Uv,vh,Fb XT.o tP⟩:_/\_/\_/\_/\_);have XE:=aa hro;rw [he];clear he hp Uv vh tP hro
  go_upto_region 7 with (fail)
  refine JG _ w6 r Bq HS6.o.qb (aa ?_) (fun _ _ _ _ _ h=>h);intro u30 u31 ba bb W7 hb7 h1 h2 hne Zq sy;have HS7:=aa (HS6.o.below hb7);have hz7:=hb7.size;have Sr:=aq Zq;have pC:=aq sy;have HNA:=aa Zq;have K7:=aa sy;clear Zq sy hb7 HS6
  go_upto_region 8 with (fail)
  refine JA _ W7 r w.heap.size Bq ba HS7.o.qb HNA.o HS7.o.src Tcd Tcd (by have:=XE.o.e;omega) (aa ?_) (fun _ _ _ _ _ h=>h);intro u32 u33 u34 u35 u36 u37 u38 n W8 hn hs8 hm8;have HS8:=aa (HS7.o.call hs8 hm8 h0w ye Tcd);have ha8:=(hm8.block _ Sr Tcd).trans HNA.o;have hb8:=(hm8.block _ pC Tcd).trans K7.o;have HS9:=aa (HS8.o.other ba 2 (.int .i64 (max 1 (r.Gc - n))) Tcd Tcd Tcd);have HA9:=aa (show (W8.setCell (Tab ba 2) (.int .i64 (max 1 (r.Gc - n)))).heap[ba]?=some (.cells #[.int .i64 (Zp r (max 1 (r.Gc - n))).Gi,.int .i64 (Zp r (max 1 (r.Gc - n))).Gh,.int .i64 (Zp r (max 1 (r.Gc - n))).Gc,.int .i64 (Zp r (max 1 (r.Gc - n))).Gg,.string (Zp r (max 1 (r.Gc - n))).tag,.string (Zp r (max 1 (r.Gc - n))).near,.string (Zp r (max 1 (r.Gc - n))).sep] 35 (0,0)) from block_setCell (i:=2) _ ha8);have J1:=aa ((bw W8 ⟨ba,2,none⟩ (.int .i64 (max 1 (r.Gc - n))) bb (fun e=>hne e.symm)).trans hb8);have hz8:=hm8.size;have Zt:Hid (1<=max 1 (r.Gc - n)/\max 1 (r.Gc - n)<=r.Gc):=aa (by have:=XE.o.e;omega);clear hs8 hm8 ha8 hb8 HS8 HS7 HNA K7;generalize max 1 (r.Gc - n)=e1 at *;generalize hW9:World.setCell W8 _ _=W9 at *;clear hW9;have b0:=cz J1.o 0 _ rfl;have bf:=uy J1.o
  by_cases hl1:1<r.Gi
  ·have hd:decide (r.Gi > 1)=true:=eA hl1
   have Yg:IntKind.i64.wrap (r.Gi - 1)=r.Gi - 1:=dy _ (by have:=XE.o.l;omega);have HS10:=aa (HS9.o.other bb 0 (.int .i64 (r.Gi - 1)) Tcd Tcd Tcd);have Ax:=aa (show (W9.setCell bb (.int .i64 (r.Gi - 1))).heap[bb]?=some (.cells #[.int .i64 (C0 r (r.Gi - 1)).Gi,.int .i64 (C0 r (r.Gi - 1)).Gh,.int .i64 (C0 r (r.Gi - 1)).Gc,.int .i64 (C0 r (r.Gi - 1)).Gg,.string (C0 r (r.Gi - 1)).tag,.string (C0 r (r.Gi - 1)).near,.string (C0 r (r.Gi - 1)).sep] 35 (0,0)) from block_setCell (i:=0) _ J1.o);have ae5:=aa ((bw W9 ⟨bb,0,none⟩ (.int .i64 (r.Gi - 1)) ba hne).trans HA9.o);have Xw:(r.Gi - 1)*r.Gh<=r.Gi*r.Gh:=Int.mul_le_mul_of_nonneg_right Tcd (by have:=XE.o.s;omega);have ag3:Hid (rC (C0 r (r.Gi - 1))):=aa ⟨(show 1<=r.Gi - 1/\r.Gi - 1<=6 by have:=XE.o.l;omega),XE.o.s,Int.le_trans Xw XE.o.ls,XE.o.e,XE.o.p⟩;have WO:Hid (rE (C0 r (r.Gi - 1))<=rE r):=aa (show ((r.Gi - 1)*r.Gh).toNat<=(r.Gi*r.Gh).toNat by omega);clear hl1 Xw HS9 J1 HA9
   go_upto_region 11 with (fail)
   clear b0 bf hd Yg;generalize hW10:World.setCell W9 _ _=W10 at *;clear hW10;have hro1:rC (Zp r e1):=⟨XE.o.l,XE.o.s,XE.o.ls,⟨Zt.o.1,TdQ⟩,XE.o.p⟩;have hp1:=Gn HH.o.2.1 hro1 rfl rfl rfl rfl;have hp2:=Gn HH.o.2.1 ag3.o rfl rfl rfl rfl;have hi:=HS10.o.rq;have hi1:dK (Zp r e1):=⟨hi.l,hi.s,(show -9223372036854775808<=e1/\e1<=9223372036854775807 by have:=Zt.o;have:=XE.o.e;omega),hi.p,hi.t,hi.n,hi.q⟩;have hi2:dK (C0 r (r.Gi - 1)):=⟨(show -9223372036854775808<=r.Gi - 1/\r.Gi - 1<=9223372036854775807 by have:=XE.o.l;omega),hi.s,hi.e,hi.p,hi.t,hi.n,hi.q⟩;have Mk:=aa (⟨hp1,hp2,hi2⟩:_/\_/\_);have gL:=HS10.o.gc;obtain ⟨g0,g1,g2,g3,g4,g5,g6,g7,g8⟩:=xr gL;have qL:=cz ae5.o;obtain ⟨q0,q1,q2,q3,q4,q5,q6⟩:=se qL;clear gL qL;have HC1:=aa (rA g a (Zp r e1) W10 HS10.o.gr XT.o hi1 HS10.o.sf);clear hp1 hp2 hi hi1 hi2 hro1
   go_wp2_with fail
   clear g0 g1 g2 g3 g4 g5 g6 g7 g8 q0 q1 q2 q3 q4 q5 q6;refine HC1.o.mono ?_;clear HC1;rintro e w11 ⟨v2,ys,rfl,hb11,hpy,Nz,-,-⟩;rw [aw Mk.o.1] at Nz;have hE1:AC g (Zp r e1) ys=0:=GK HH.o.2.1 Mk.o.1 Zt.o.2 (bk _) rfl rfl (fun _ _=>Iff.rfl) HH.o.2.2.2.2 HH.o.2.2.1 hpy HH.o.2.2.2.1 Nz HH.o.1;rw [hE1];have HS11:=aa (HS10.o.below hb11);have C7:=aa ((hb11.block _ (aq Ax.o)).trans Ax.o);clear hE1 hpy Nz hb11 HS10 ae5 Ax;have gL:=HS11.o.gc;obtain ⟨g0,g1,g2,g3,g4,g5,g6,g7,g8⟩:=xr gL;have qL:=cz C7.o;obtain ⟨q0,q1,q2,q3,q4,q5,q6⟩:=se qL;clear gL qL;have HC2:=aa (rA g a (C0 r (r.Gi - 1)) w11 HS11.o.gr XT.o Mk.o.2.2 HS11.o.sf)
   go_wp2_with fail
   clear g0 g1 g2 g3 g4 g5 g6 g7 g8 q0 q1 q2 q3 q4 q5 q6;refine HC2.o.mono ?_;clear HC2;rintro e w12 ⟨v3,zs,rfl,hb12,hpz,hzl,-,-⟩;rw [aw Mk.o.2.1] at hzl;have Yx:AC g (C0 r (r.Gi - 1)) zs=0:=GK HH.o.2.1 Mk.o.2.1 (Int.le_refl _) WO.o rfl rfl (fun _ _=>Iff.rfl) HH.o.2.2.2.2 HH.o.2.2.1 hpz HH.o.2.2.2.1 hzl HH.o.1;exact Tba
  ·have hd:decide (r.Gi > 1)=false:=cN hl1
   have HS10:=HS9;have Ax:Hid (W9.heap[bb]?=some (.cells #[.int .i64 (C0 r r.Gi).Gi,.int .i64 (C0 r r.Gi).Gh,.int .i64 (C0 r r.Gi).Gc,.int .i64 (C0 r r.Gi).Gg,.string (C0 r r.Gi).tag,.string (C0 r r.Gi).near,.string (C0 r r.Gi).sep] 35 (0,0))):=J1;have ae5:=HA9;have ag3:Hid (rC (C0 r r.Gi)):=XE;have WO:Hid (rE (C0 r r.Gi)<=rE r):=aa (bk _);clear hl1 HS9 J1 HA9;generalize hW10:W9=W10 at *;clear hW10
   go_upto_region 11 with (fail)
   clear b0 bf hd;have hro1:rC (Zp r e1):=⟨XE.o.l,XE.o.s,XE.o.ls,⟨Zt.o.1,TdQ⟩,XE.o.p⟩;have hp1:=Gn HH.o.2.1 hro1 rfl rfl rfl rfl;have hp2:=Gn HH.o.2.1 ag3.o rfl rfl rfl rfl;have hi:=HS10.o.rq;have hi1:dK (Zp r e1):=⟨hi.l,hi.s,(show -9223372036854775808<=e1/\e1<=9223372036854775807 by have:=Zt.o;have:=XE.o.e;omega),hi.p,hi.t,hi.n,hi.q⟩;have hi2:dK (C0 r (r.Gi)):=⟨(show -9223372036854775808<=r.Gi/\r.Gi<=9223372036854775807 by have:=XE.o.l;omega),hi.s,hi.e,hi.p,hi.t,hi.n,hi.q⟩;have Mk:=aa (⟨hp1,hp2,hi2⟩:_/\_/\_);have gL:=HS10.o.gc;obtain ⟨g0,g1,g2,g3,g4,g5,g6,g7,g8⟩:=xr gL;have qL:=cz ae5.o;obtain ⟨q0,q1,q2,q3,q4,q5,q6⟩:=se qL;clear gL qL;have HC1:=aa (rA g a (Zp r e1) W10 HS10.o.gr XT.o hi1 HS10.o.sf);clear hp1 hp2 hi hi1 hi2 hro1
   go_wp2_with fail
   clear g0 g1 g2 g3 g4 g5 g6 g7 g8 q0 q1 q2 q3 q4 q5 q6;refine HC1.o.mono ?_;clear HC1;rintro e w11 ⟨v2,ys,rfl,hb11,hpy,Nz,-,-⟩;rw [aw Mk.o.1] at Nz;have hE1:AC g (Zp r e1) ys=0:=GK HH.o.2.1 Mk.o.1 Zt.o.2 (bk _) rfl rfl (fun _ _=>Iff.rfl) HH.o.2.2.2.2 HH.o.2.2.1 hpy HH.o.2.2.2.1 Nz HH.o.1;rw [hE1];have HS11:=aa (HS10.o.below hb11);have C7:=aa ((hb11.block _ (aq Ax.o)).trans Ax.o);clear hE1 hpy Nz hb11 HS10 ae5 Ax;have gL:=HS11.o.gc;obtain ⟨g0,g1,g2,g3,g4,g5,g6,g7,g8⟩:=xr gL;have qL:=cz C7.o;obtain ⟨q0,q1,q2,q3,q4,q5,q6⟩:=se qL;clear gL qL;have HC2:=aa (rA g a (C0 r (r.Gi)) w11 HS11.o.gr XT.o Mk.o.2.2 HS11.o.sf)
   go_wp2_with fail
   clear g0 g1 g2 g3 g4 g5 g6 g7 g8 q0 q1 q2 q3 q4 q5 q6;refine HC2.o.mono ?_;clear HC2;rintro e w12 ⟨v3,zs,rfl,hb12,hpz,hzl,-,-⟩;rw [aw Mk.o.2.1] at hzl;have Yx:AC g (C0 r (r.Gi)) zs=0:=GK HH.o.2.1 Mk.o.2.1 (Int.le_refl _) WO.o rfl rfl (fun _ _=>Iff.rfl) HH.o.2.2.2.2 HH.o.2.2.1 hpz HH.o.2.2.2.1 hzl HH.o.1;exact Tba
 ·have hee:(AC g r xs != 0)=true:=by simpa using he
  clear he Uv vh;have XV:=aa (DR _ HS6.o.sf);have B3:=aa HS6.o.bl
  exact Tb5
open Go.ChangeShapes Go.WideShapes Go.ChangeAt Go.WideMaps Go.WideElems
def nC {H : Type} : List (String × DataW H) := [("volumegroup/names.suffixes", Rows.laid_volumegroup_names_suffixes)]
theorem BU : prog.globalNamed "volumegroup/names.suffixes" = some 0 := by kernel_rfl
theorem BB:(prog.globals[0]?).map (·.type)=some 248:=by kernel_rfl
theorem Cj (os:Os)(args:Array Value):laidMetH prog nC ((World.doorLaid prog 400 os).forCall (fun _ _=>0) ⟨#[],args,[]⟩).memory :=
 laidMetH_of_parts3 (fuel:=8) (laidMet_of_run' 8 Tcf Tcf) Tcf Tcf
theorem vW {W:World}(h:laidMetH prog nC W):AW W:=by
 rw [MakeChecks.laidMetH_plain _ _ _ Tcf] at h;obtain ⟨ps,⟨g0,t0,cs0,f0,p0,q0,hg0,ht0,hv0,hd0,_,_⟩,_,_⟩:=h;obtain rfl:=gj (BU.symm.trans hg0);obtain rfl:=gj (BB.symm.trans ht0);obtain ⟨xs,m1,rfl,hx1,hlen,hn,Vh⟩:=DataW.trod_array underlying248 hd0;have c1:prog.cellsOf 9=1:=by kernel_rfl
 have c5:prog.cellsOf 248=5:=by kernel_rfl
 simp only [Prod.mk.injEq,DataW.agg.injEq] at hx1;rw [c5] at hlen;have hx2:=hx1.1;unfold Rows.laid_volumegroup_names_suffixes at hx2;injection hx2 with hx2
 obtain ⟨l⟩:=cs0;have hl:l.length=5:=by simpa using hlen
 have key:∀ (i:Nat) (s:List UInt8),([] :: nV)[i]?=some s->l[i]?=some (.string ⟨s.toArray⟩):=fun i s hs=>by
  have hi:i<5:=by
   have:=(List.getElem?_eq_some_iff.1 hs).1;simpa [nV] using this
  have he:=Vh i hi;obtain ⟨x,hx⟩:=aj xs i Tcd;rw [hx,c1] at he;obtain ⟨t,e1,e2,_⟩:=DataW.trod_string underlying9 he;have QF:(xs.map (·.1))[i]?=some x.1:=by rw [rI,hx];rfl
  rw [<- hx2,e2] at QF
  have h1:l[i]?=some (.string t):=by
   have:=fj (fun z:List Value=>z[0]?) e1;simpa [xF,pk] using this
  have h2:t.data.toList=s:=by
   rcases (show i=0\/i=1\/i=2\/i=3\/i=4 by omega) with rfl | rfl | rfl | rfl | rfl <;>
    (have e3:=gj hs;subst e3;simpa [Rows.laid_volumegroup_names_suffixes] using QF.symm)
  rw [h1,bytes_eta t,h2]
 have hlt:0<W.heap.size:=by
  have:=World.var?_cell hg0 hv0 0;have h0:=key 0 [] rfl;have hc:W.cell? (Tab 0 0)=some (.string ⟨#[]⟩):=by simpa [h0] using this
  exact Nat.pos_of_ne_zero fun e=>by simp [World.cell?,xp (by omega:W.heap.size<=0)] at hc
 refine ⟨hlt,fun i s hs=>?_⟩;have:=World.var?_cell hg0 hv0 i;rw [this];simpa using key i s hs
end Go.Proofs.YtjdfihglehfelaaGreatDoor
