/- Lemmas: NeeD, NeeE. -/
import Derived.Test.YtjdfihglehfelaaGreatDoorPk25
import Derived.Test.YtjdfihglehfelaaGreatDoorPk28
import Derived.Deep.AppendLies
set_option maxRecDepth 100000
set_option maxHeartbeats 32000000
set_option linter.all false
namespace Go.Proofs.YtjdfihglehfelaaGreatDoor
open Go.RowKit Go.Maps Go.Shelf
theorem Mod.belowAt {F:Nat→Prop}{a b c:World}(h:Mod F a b)(hb:Below a.heap.size b c):Mod F a c :=
 ⟨hb.os.trans h.os,hb.tape.trans h.tape,hb.output.trans h.output,Nat.le_trans h.size hb.size,fun k hk hF=>(hb.block k hk).trans (h.block k hk hF)⟩
theorem Eg {B b2 n:Nat}{k:TypeId}{f:Value→Option Value}{w w':World}{y:Value}{l:List ByteArray}(hy:RdS aF 1 (fun b=>B≤b) w [y] l)(hm:Mod (fun b=>b=b2) w w')(hb:bi Tryz.prog k w b2 n f):RdS aF 1 (fun b=>B≤b) w' [y] l:=by
 obtain ⟨p,c,e,h1,h2,h3⟩:=hy;refine ⟨p,c,e,h1,h2,fun h0=>?_⟩;obtain ⟨b,off,e2,hlt,hok,hc⟩:=h3 h0
 have hbc:w'.heap[b]?=w.heap[b]?:=by
  refine hm.block b hlt ?_;rintro rfl;obtain ⟨x0,hx0⟩:=aj l 0 h0;obtain ⟨us,hul,hvs,hcv⟩:=hc 0 x0 hx0;obtain rfl:us=_:=hvs;have:=hcv 0 _ rfl;obtain ⟨D,⟨es,clock,e,_⟩,_⟩:=hb;simp [World.cell?,e] at this
 exact ⟨b,off,e2,Nat.lt_of_lt_of_le hlt hm.size,hok,fun i x hx=>by
  obtain ⟨us,hul,hvs,hcv⟩:=hc i x hx
  exact ⟨us,hul,hvs,fun j z hz=>(World.cell?_of_block (a:=⟨b,_,none⟩) hbc).trans (hcv j z hz)⟩⟩
theorem gQ.mod {B:Nat}{w w':World}{bm b2 n:Nat}{k:TypeId}{f:Value→Option Value}{F9:List ay}{A:List (ay × Value)}(h:gQ B w bm F9 A)(hm:Mod (fun b=>b=b2) w w')(hb:bi Tryz.prog k w b2 n f)(hne:bm≠b2):gQ B w' bm F9 A :=
 ⟨h.map.block (hm.block _ h.map.lt hne),h.fd,fun p hp=>Eg (h.rd p hp) hm hb,h.le⟩
theorem ww {ok:Nat→Prop}{w:World}:∀ (l:List ByteArray) (cs:List Value),Flat aF 1 ok w cs l→cs=l.map Value.string
 | [],cs,h=>h
 | x :: l,cs,⟨u,r,e,_,hv,_,hr⟩=>by
  obtain rfl:u=[.string x]:=hv;rw [e,ww l r hr];rfl
theorem yG {ok:Nat→Prop}(l:List ByteArray)(v:Value)(w:World)(hr:RdS aF 1 ok w [v] l)(hlen:l.length≤1000000) :
  Calls Tryz.prog 103 #[v] w (Dx w.heap.size w l):=by
 by_cases h0:0<l.length
 ·obtain ⟨i0,hi,hz0,hz1,hz2⟩:=info_parts o5
  obtain ⟨p,cap,e,hlc,hcap,hp⟩:=hr;obtain rfl:=List.singleton_inj.1 e;obtain ⟨b,off,rfl,hbw,hob,hc⟩:=hp h0;obtain ⟨cs,hf,hcs⟩:=jy (fun u x h y hy=>by obtain rfl:u=_:=h;obtain rfl:=List.mem_singleton.1 hy;rfl) l off hc;have hl:=Flat.length l cs hf;have hlb:l.length*16≤1000000*16:=Nat.mul_le_mul hlen (Nat.le_refl _);refine (AnyE.slices_Clone Tryz.cloneS i0 _ 1 16 hi hz0 hz1 hz2 rfl (by decide) Tryz.sizeOf9 b off l.length cap cs w hl (by unfold maxLen;omega) (by omega) hcs (qZ l cs hf)).mono ?_;rintro e w' ⟨v',rfl,ho,_,hb'⟩;refine ⟨v',rfl,?_,hb'⟩;unfold dF;rw [← ww l cs hf];exact ho
 ·obtain ⟨p,c,rfl,hr'⟩:=vB hr h0 (fun b=>ok b∨w.heap.size≤b) w
  clear hr;have HR:=aa hr';clear hr';have HN:Hid (l=[]):=aa (List.eq_nil_of_length_eq_zero (by omega));clear h0 hlen;cases p with
  | none =>
   refine (AnyE.slices_Clone_nil Tryz.cloneS _ _ w).mono ?_;rintro e w' ⟨rfl,rfl⟩;exact ⟨_,rfl,by rw [HN.out];exact dF.nil _ _,Below.refl _ _⟩
  | some a =>
   have q22:∀ (w:World) (a:Option Addr) (n c n' c':Nat),(binOp .eql 26 (.slice a n c) (.slice none n' c')).run Tryz.prog w=.ok (.bool a.isNone) w:=fun w a n c n' c'=>Lib.run_eql_slice_nil w _ _ a n c n' c' Tryz.underlying26;go_enter Tryz.func103,Tryz.ntmps103;go_wp2;go_ret;exact ⟨.slice (some ⟨w.heap.size,0,none⟩) 0 0,rfl,by rw [HN.out];exact ⟨rfl,.inr ⟨w.heap.size,0,#[],rfl,Nat.le_refl _,heap_alloc_new w _,Nat.le_refl _,by unfold maxLen;omega,rfl,rfl⟩⟩,(RowKit.Below.refl _ _).alloc (Nat.le_refl _) _⟩
theorem dF.last {w:World}{B:Nat}{v:Value}{l:List ByteArray}{x:ByteArray}(h:dF w B v (l++[x])) :
  ∃ g cap,v=.slice (some ⟨g,0,none⟩) (l.length+1) cap∧l.length+1≤cap∧cap≤9223372036854775807∧w.cell? ⟨g,l.length,none⟩=some (.string x)∧dF w B (.slice (some ⟨g,0,none⟩) l.length cap) l:=by
 have h':w.ownsRow B 9 1 v (l.length+1) (l.map Value.string++[.string x]):=by
  unfold dF at h;rw [List.length_append,List.map_append] at h;exact h
 obtain ⟨g,cap,hv,hB,hlt⟩:=h'.form (by omega);subst hv;have hc:=h'.cells (g:=g) rfl l.length (.string x) (by rw [List.getElem?_append_right (by simp)];simp);rw [Addr.add_lit,Nat.zero_add] at hc
 have hcap:l.length+1≤cap∧cap≤maxLen:=by
  rcases h'.2 with ⟨e,_⟩ | ⟨g',cap',cur,e,_,_,h1,h2,_⟩
  ·cases e
  ·cases e
   exact ⟨h1,h2⟩
 unfold maxLen at hcap;exact ⟨g,cap,rfl,hcap.1,hcap.2,hc,ownsRow_pop (by simp) h'⟩
theorem uz {g:af}(hu:uw g)(nm:ByteArray):((dU g.F9 nm).getD []).length≤1000:=by
 unfold dU;cases hf:aM g.F9 nm with
 | none=>simp
 | some v=>exact hu.ul v (List.mem_of_find?_eq_some hf)
theorem rW {g:af}(hu:uw g)(nm:ByteArray):∀ x∈(dU g.F9 nm).getD [],x.size≤maxLen:=by
 unfold dU;cases hf:aM g.F9 nm with
 | none=>simp
 | some v=>exact hu.un v (List.mem_of_find?_eq_some hf)
def ET (F9:List ay)(nm:ByteArray)(w:World)(e:Ending)(w':World):Prop:=∃ bm met,e=.returned (.map (some bm))∧bi Tryz.prog 9 w' bm met.length (oN met)∧(∀ x,x∈met↔Reach (dU F9) ((dU F9 nm).getD []) x)∧met.length≤1000∧Below w.heap.size w w'∧w.heap.size≤bm
attribute [local go_sem] run_makeMap_plain
theorem AY {ok:Nat→Prop}(g:af)(a:bN)(nm:ByteArray)(w:World)(hr:RdS aN 6 ok w [.slice a.vp g.F9.length a.vc] g.F9)(hu:uw g)(hnm:nm.size≤maxLen) :
  Calls Tryz.prog 99 #[.agg #[.string g.name,.int .u64 g.id,.int .i64 g.seq,.int .i64 g.Gd,.int .i64 g.next,.slice a.tp g.tags.length a.tc,.slice a.dp g.Gb.length a.dc,.slice a.vp g.F9.length a.vc,.slice a.hp g.history.length a.hc],.string nm] w (ET g.F9 nm w):=by
 have HG:=aa hr;clear hr;have HU:=aa hu;clear hu;have HB1:=aa (ae w (.cells #[.string g.name,.int .u64 g.id,.int .i64 g.seq,.int .i64 g.Gd,.int .i64 g.next,.slice a.tp g.tags.length a.tc,.slice a.dp g.Gb.length a.dc,.slice a.vp g.F9.length a.vc,.slice a.hp g.history.length a.hc] 31));have hN1:=heap_alloc_new w (.cells #[.string g.name,.int .u64 g.id,.int .i64 g.seq,.int .i64 g.Gd,.int .i64 g.next,.slice a.tp g.tags.length a.tc,.slice a.dp g.Gb.length a.dc,.slice a.vp g.F9.length a.vc,.slice a.hp g.history.length a.hc] 31)
 have gL:∀ (i:Nat) (z:Value),[.string g.name,.int .u64 g.id,.int .i64 g.seq,.int .i64 g.Gd,.int .i64 g.next,.slice a.tp g.tags.length a.tc,.slice a.dp g.Gb.length a.dc,.slice a.vp g.F9.length a.vc,.slice a.hp g.history.length a.hc][i]?=some z→(w.alloc (.cells #[.string g.name,.int .u64 g.id,.int .i64 g.seq,.int .i64 g.Gd,.int .i64 g.next,.slice a.tp g.tags.length a.tc,.slice a.dp g.Gb.length a.dc,.slice a.vp g.F9.length a.vc,.slice a.hp g.history.length a.hc] 31)).cell? ⟨w.heap.size,i,none⟩=some z:=fun i z hz=>by
  simp only [World.cell?,hN1];simpa using hz
 go_enter Tryz.func99,Tryz.ntmps99
 go_upto_region 1 with (fail)
 generalize hW1:World.alloc w _=W1 at *;have g0:=gL 0 _ rfl;have g1:=gL 1 _ rfl;have g2:=gL 2 _ rfl;have g3:=gL 3 _ rfl;have g4:=gL 4 _ rfl;have g5:=gL 5 _ rfl;have g6:=gL 6 _ rfl;have g7:=gL 7 _ rfl;have g8:=gL 8 _ rfl;clear gL hN1 hW1
 go_wp2_with fail
 clear g0 g1 g2 g3 g4 g5 g6 g7 g8;refine (AU (ok:=ok) g a W1 ((RdS.moves aN.moves).mv (Mv.of HB1.out) HG.out) HU.out).mono ?_;rintro e w2 ⟨bl,A,rfl,hlk,hb2,hbl⟩;have HLK:=aa hlk;clear hlk;have HB2:=aa (HB1.out.trans (hb2.mono HB1.out.size));clear hb2 hbl HB1;have hA:=ae w2 (.map #[] 0);have HM:=aa (bi.made Tryz.prog 9 w2);have HLK2:=aa (HLK.out.below hA);have HB3:=aa (HB2.out.trans (hA.mono HB2.out.size));have hlt:=HLK.out.map.lt;have hwz:=HB2.out.size;clear hA HLK HB2
 go_upto_region 3 with (fail)
 generalize hW3:World.alloc w2 _=W3 at *;generalize hbm:w2.heap.size=bm at *;clear hW3;obtain ⟨p0,c0,-,hl2,hr0⟩:=HLK2.out.look nm hnm;have HR0:=aa hr0;clear hr0;have hlen0:=uz HU.out nm;have HZ0:=aa (rW HU.out nm);generalize hl0:(dU g.F9 nm).getD []=l0 at *;have HL0:=aa hl0;clear hl0
 go_wp2_with fail
 clear hl2;refine (yG l0 _ W3 HR0.out (by omega)).mono ?_;rintro e w4 ⟨td0,rfl,how,hb4⟩;have HMD:Hid (Mod (fun b=>b=bm) W3 w4):=aa (Mod.of_below hb4);have HOW:=aa how;clear how;have HM4:=aa (HM.out.block (hb4.block bm HM.out.lt));clear hb4;have HBI:Hid (nX (dU g.F9) l0 [] l0):=aa nX.start
 have hN0:nK (g.F9.map (·.name)) 1000 [] l0≤1002000:=by
  have h1:=Ae (g.F9.map (·.name)) [];rw [List.length_map] at h1;have h2:=HU.out.vl;have h3:(BG (g.F9.map (·.name)) [])*1001≤1000*1001:=Nat.mul_le_mul_right _ (by omega);unfold nK;unfold BG at h3;omega
 have HMV:Hid (bi Tryz.prog 9 w4 bm 0 (oN [])):=aa (HM4.out.congr fun key _ _=>by unfold oN;split <;> rfl);clear HM4
 go_upto_region 4 with (fail)
 go_loopg [7] (nK (g.F9.map (·.name)) 1000 [] l0) (fun gk td wr=>∃ met todo:List ByteArray,dF wr W3.heap.size td todo∧Mod (fun b=>b=bm) W3 wr∧bi Tryz.prog 9 wr bm met.length (oN met)∧nX (dU g.F9) l0 met todo∧nK (g.F9.map (·.name)) 1000 met todo≤gk∧gk≤1002000∧met.length+BG (g.F9.map (·.name)) met≤1000∧∀ x∈todo,x.size≤maxLen)
 case atStart=>exact ⟨[],l0,HOW.out,HMD.out,HMV.out,HBI.out,Nat.le_refl _,hN0,by have:=Ae (g.F9.map (·.name)) [];have:=HU.out.vl;rw [List.length_map] at *;simp only [List.length_nil];omega,HZ0.out⟩
 case round =>
  clear HOW HMD HMV HBI hN0 HZ0 hlen0;obtain ⟨met,todo,how,hmd,hmv,hbi,hbn,hgk,hcn,hsz⟩:=hrel;have HOW:=aa how;clear how;have HMD:=aa hmd;clear hmd;have HMV:=aa hmv;clear hmv;have HBI:=aa hbi;clear hbi;have HBN:=aa hbn;clear hbn;have HCN:=aa hcn;clear hcn;have HSZ:=aa hsz;clear hsz;have HBW:Hid (Below w.heap.size w wr):=aa (HB3.out.trans (HMD.out.below HB3.out.size (fun b e=>by omega)));have hbmlt:=HM.out.lt;rcases List.eq_nil_or_concat todo with htn | ⟨init,x,htn⟩
  ·subst htn
   obtain ⟨tp,tc,e,_,_⟩:=(HOW.out.rd (ok:=fun _=>True) (fun _ _=>trivial)).cap;subst e;go_wp2;go_ret;exact ⟨bm,met,rfl,HMV.out,by rw [HL0.out];exact HBI.out.done,by have:=HCN.out;omega,HBW.out,by omega⟩
  ·rw [List.concat_eq_append] at htn
   subst htn;obtain ⟨gb,cap,e,hc1,hc2,hcell,hpop⟩:=HOW.out.last;subst e
   have hinl:init.length≤1002000:=by
    have:=HBN.out;unfold nK at this;rw [List.length_append] at this;omega
   have HPOP:=aa hpop;clear hpop;have hxs:=HSZ.out x (by simp);have HLKW:=aa (HLK2.out.mod HMD.out HM.out (by omega));obtain ⟨lp,lc,hl1,-,-⟩:=HLKW.out.look x hxs;have hmk:=(bi.look HMV.out oM Tryz.underlying130 (wY wr) (key:=.string x) (gG x hxs)).1;rw [xk] at hmk;have HLS:Hid ((dU g.F9 x).isSome=(aM g.F9 x).isSome):=aa (by unfold dU;simp);clear HOW;cases hf:(aM g.F9 x).isSome with
   | false =>
    rw [hf] at hl1 HLS;have HF:=aa hf;clear hf hmk;have HSK:=aa (HBI.out.skip (.inl HLS.out));go_wp2
    go_roundg (nK (g.F9.map (·.name)) 1000 met init)
    case measure=>exact Nat.lt_of_lt_of_le (lw _ _ _ _ _) HBN.out
    case rel=>exact ⟨met,init,HPOP.out,HMD.out,HMV.out,HSK.out,Nat.le_refl _,by have:=lw (g.F9.map (·.name)) 1000 met init x;have:=HBN.out;omega,HCN.out,fun y hy=>HSZ.out y (List.mem_append_left _ hy)⟩
   | true =>
    rw [hf] at hl1 HLS;cases hh:bI met x with
    | true =>
     rw [hh] at hmk;have HF:=aa hf;clear hf;have HSK:=aa (HBI.out.skip (.inr (ny.1 hh)));have HH:=aa hh;clear hh;go_wp2
     go_roundg (nK (g.F9.map (·.name)) 1000 met init)
     case measure=>exact Nat.lt_of_lt_of_le (lw _ _ _ _ _) HBN.out
     case rel=>exact ⟨met,init,HPOP.out,HMD.out,HMV.out,HSK.out,Nat.le_refl _,by have:=lw (g.F9.map (·.name)) 1000 met init x;have:=HBN.out;omega,HCN.out,fun y hy=>HSZ.out y (List.mem_append_left _ hy)⟩
    | false =>
     rw [hh] at hmk
     have hmem:x∈g.F9.map (·.name):=by
      obtain ⟨v,hv⟩:=Option.isSome_iff_exists.1 hf;exact List.mem_map.2 ⟨v,List.mem_of_find?_eq_some hv,by simpa using List.find?_some hv⟩
     have hlx:dU g.F9 x=some ((dU g.F9 x).getD []):=by
      obtain ⟨l,hl⟩:=Option.isSome_iff_exists.1 HLS.out;rw [hl];rfl
     have hxm:=lX.1 hh;have HMO:=aa (HBI.out.more hlx);have hll:=uz HU.out x;have HLZ:=aa (rW HU.out x);have HBM:=aa (Ap (g.F9.map (·.name)) 1000 met init ((dU g.F9 x).getD []) x hmem hxm hll);have HCM:=aa (Bn (g.F9.map (·.name)) met x hmem hxm);clear hmem hlx hxm;have HF:=aa hf;clear hf;have HH:=aa hh;clear hh;obtain ⟨w',hst,hm',hg',hz'⟩:=bi.store HMV.out oM Tryz.underlying130 (by have:=HCN.out;unfold maxLen;omega) (key:=.string x) (gG x hxs) (.bool true);obtain ⟨qp,qc,-,hl2,hqr⟩:=(HLKW.out.mod (Mod.grown hg') HMV.out (by omega)).look x hxs;have HQR:=aa hqr;clear hqr;have HPOP2:Hid (dF w' W3.heap.size (.slice (some ⟨gb,0,none⟩) init.length cap) init):=aa (HPOP.out.blk fun k e=>oJ hg' (World.ownsRow.lt HPOP.out k e).2 (by have:=(World.ownsRow.lt HPOP.out k e).1;omega));have HMD2:=aa (HMD.out.trans (Mod.grown hg') (fun i e=>.inl e));have HMV2:Hid (bi Tryz.prog 9 w' bm (met.length+1) (oN (met++[x]))):=aa (hm'.congr fun key _ _=>uH met x key);have hwz2:=HMD2.out.size;clear hm' hg' hz' HLKW;generalize hLX:(dU g.F9 x).getD []=lx at *;have HLX:=aa hLX;clear hLX
     go_wp2_with (at_builtin;refine mW (ok:=fun b=>W1.heap.size≤b) rfl _ _ rfl W3.heap.size _ init lx rfl ?c1 qp qc rfl ?c2 ?c3 ?c4 ?_)
     case c1=>exact HPOP2.out
     case c2=>exact HQR.out
     case c3=>omega
     intro v' w5 hown5 hb5 _;have HOW5:=aa hown5;clear hown5;have HMD5:=aa (HMD2.out.belowAt hb5);have HMV5:=aa (HMV2.out.block (hb5.block bm (by have:=HM.out.lt;omega)));clear hb5;go_wp2
     go_roundg (nK (g.F9.map (·.name)) 1000 (met++[x]) (init++lx))
     case measure=>exact Nat.lt_of_lt_of_le HBM.out HBN.out
     case rel=>exact ⟨met++[x],init++lx,HOW5.out,HMD5.out,by rw [List.length_append];exact HMV5.out,HMO.out,Nat.le_refl _,by have:=HBM.out;have:=HBN.out;omega,by have:=HCM.out;have:=HCN.out;rw [List.length_append];simp only [List.length_cons,List.length_nil];omega,fun y hy=>by
      rcases List.mem_append.1 hy with hy | hy
      ·exact HSZ.out y (List.mem_append_left _ hy)
      ·exact HLZ.out y hy⟩
end Go.Proofs.YtjdfihglehfelaaGreatDoor
namespace Go.Proofs.YtjdfihglehfelaaGreatDoor
open Go.RowKit Go.Maps Go.Shelf
theorem yo {ok:Nat→Prop}(l:List ByteArray)(x:ByteArray)(v:Value)(w:World)(h:RdS aF 1 ok w [v] l)(hl:l.length≤1000000) :
  Calls Tryz.prog 161 #[v,.string x] w fun e w'=>(∃ r:Int,e=.returned (.int .i64 r)∧decide (0≤r)=bI l x)∧w=w':=by
 obtain ⟨p,cap,rfl,hc1,hc2⟩:=h.cap;have HH:=aa h;clear h;go_enter Tryz.func161,Tryz.ntmps161;go_wp2
 go_loop [8,5] (fun i _=>∃ k:Nat,k≤l.length∧i=.int .i64 k∧bI (l.take k) x=false) (fun i _=>l.length - (intOf i).toNat)
 case atStart=>exact ⟨0,Nat.zero_le _,rfl,rfl⟩
 case round =>
  obtain ⟨k,hk,rfl,hall⟩:=hrel;have HALL:=aa hall;clear hall
  by_cases hlt:k<l.length
  ·obtain ⟨y,hy⟩:=aj l k hlt
   obtain ⟨b,off,us,rfl,hob,hbw,hul,hvs,hcv⟩:=HH.out.elem hy;obtain rfl:us=_:=hvs;have q0:=hcv 0 _ rfl;rw [Nat.mul_one,Nat.add_zero] at q0;have HANY:Hid (bI (l.take (k+1)) x=decide (y=x)):=aa (by rw [take_snoc' l k y hy,fU,HALL.out,Bool.false_or]);have HANY2:Hid (y=x→bI l x=true):=aa fun h=>ny.2 (h ▸ List.mem_of_getElem? hy);clear hy HALL hcv hul
   by_cases hyx:y=x
   ·have hb:(x.toList == y.toList)=true:=by rw [hyx];simp
    have HR:=aa (HANY2.out hyx);have HYX:=aa hyx;clear hyx;go_wp2;go_ret;exact ⟨⟨k,rfl,by rw [HR.out];simp⟩,rfl⟩
   ·have hb:(x.toList == y.toList)=false:=by
     rw [Bool.eq_false_iff];intro e;rw [ByteArray.toList_eq,ByteArray.toList_eq] at e;have e2:x.data.toList=y.data.toList:=by simpa using e
     exact hyx (by rw [bytes_eta y,bytes_eta x,e2])
    have HR:=aa (HANY.out.trans (decide_eq_false hyx));have HYX:=aa hyx;clear hyx;go_wp2;go_round
    case rel=>exact ⟨k+1,by omega,by go_num,HR.out⟩
    case measure=>simp [intOf];omega
  ·obtain rfl:k=l.length:=by omega
   rw [List.take_length] at HALL;go_wp2;go_ret;exact ⟨⟨-1,rfl,by rw [HALL.out];rfl⟩,rfl⟩
theorem eT {ok:Nat→Prop}(l:List ByteArray)(x:ByteArray)(v:Value)(w:World)(h:RdS aF 1 ok w [v] l)(hl:l.length≤1000000) :
  Calls Tryz.prog 102 #[v,.string x] w fun e w'=>e=.returned (.bool (bI l x))∧w=w':=by
 go_enter Tryz.func102,Tryz.ntmps102
 go_wp2_with fail
 refine (yo l x v w h hl).mono ?_;rintro e w2 ⟨⟨r,rfl,hr2⟩,rfl⟩;have HR:=aa hr2;clear hr2;go_wp2;go_ret;exact ⟨ah HR.out,rfl⟩
theorem zt (x:ByteArray)(Bx bm n:Nat)(met:List ByteArray)(w:World)(hx:w.cell? ⟨Bx,0,none⟩=some (.map (some bm)))(hm:bi Tryz.prog 9 w bm n (oN met))(hs:x.size≤maxLen) :
  Calls Tryz.prog 101 #[.string x,.pointer (some ⟨Bx,0,none⟩)] w fun e w'=>e=.returned (.bool (bI met x))∧w=w':=by
 have hmk:=(bi.look hm oM Tryz.underlying130 (wY w) (key:=.string x) (gG x hs)).1;rw [xk] at hmk;clear hm;go_enter Tryz.func101,Tryz.ntmps101;go_wp2;go_ret;exact ⟨rfl,rfl⟩
theorem Dw {ok:Nat→Prop}(g:af)(a:bN)(Bx bm n:Nat)(met:List ByteArray)(w:World)(hr:RdS aN 6 ok w [.slice a.vp g.F9.length a.vc] g.F9)(hu:uw g)(hx:w.cell? ⟨Bx,0,none⟩=some (.map (some bm)))(hbx:Bx<w.heap.size)(hm:bi Tryz.prog 9 w bm n (oN met)) :
  Calls Tryz.prog 100 #[.agg #[.string g.name,.int .u64 g.id,.int .i64 g.seq,.int .i64 g.Gd,.int .i64 g.next,.slice a.tp g.tags.length a.tc,.slice a.dp g.Gb.length a.dc,.slice a.vp g.F9.length a.vc,.slice a.hp g.history.length a.hc],.func (.func 101) #[] #[.pointer (some ⟨Bx,0,none⟩)]] w (Dx w.heap.size w (gD ay.name (bI met) g.F9)):=by
 have HG:=aa hr;have HU:=aa hu;have HM:=aa hm;clear hm;have HX:=aa hx;clear hx;have hvl:=hu.vl;obtain ⟨vp,vc,hvpc,hvc1,hvc2⟩:=hr.cap;clear hr hu;injection hvpc with e1 e2 e3
 obtain ⟨gtp,gtc,gdp,gdc,gvp,gvc,ghp,ghc⟩:=a;dsimp only at e1 e2 e3;subst e1;subst e3;clear e2;have HB:=aa (ae w (.cells #[.string g.name,.int .u64 g.id,.int .i64 g.seq,.int .i64 g.Gd,.int .i64 g.next,.slice gtp g.tags.length gtc,.slice gdp g.Gb.length gdc,.slice gvp g.F9.length gvc,.slice ghp g.history.length ghc] 31));have g7:(w.alloc (.cells #[.string g.name,.int .u64 g.id,.int .i64 g.seq,.int .i64 g.Gd,.int .i64 g.next,.slice gtp g.tags.length gtc,.slice gdp g.Gb.length gdc,.slice gvp g.F9.length gvc,.slice ghp g.history.length ghc] 31)).cell? ⟨w.heap.size,7,none⟩=some (.slice gvp g.F9.length gvc):=aD rfl rfl;go_enter Tryz.func100,Tryz.ntmps100
 go_upto_region 3 with (fail)
 generalize hW1:World.alloc w _=W1 at *;clear hW1 g7
 go_loopw [5,11] (fun l i wr=>∃ k:Nat,k≤g.F9.length∧i=.int .i64 k∧dF wr w.heap.size l (gD ay.name (bI met) (g.F9.take k))∧Below w.heap.size w wr) (fun _ i _=>g.F9.length - (intOf i).toNat)
 case atStart=>exact ⟨0,Nat.zero_le _,rfl,dF.nil _ _,HB.out⟩
 case round =>
  clear HB;obtain ⟨k,hk,rfl,hown,hB⟩:=hrel;have HOW:=aa hown;clear hown;have HB:=aa hB;clear hB;have hpl:=lq ay.name (bI met) (g.F9.take k);rw [List.length_take] at hpl
  by_cases hlt:k<g.F9.length
  ·obtain ⟨v,hv⟩:=aj g.F9 k hlt
   obtain ⟨b,off,us,rfl,hob,hbw,hul,hvs,hcv⟩:=HG.out.elem hv;have hns:=HU.out.vn v (List.mem_of_getElem? hv);obtain ⟨tv,sv,rfl,htr,hsr⟩:=hvs;obtain ⟨tp,tc,rfl,_,_⟩:=htr.cap;obtain ⟨sp,sc,rfl,_,_⟩:=hsr.cap;have hbk:wr.heap[b]?=w.heap[b]?:=HB.out.block b hbw;have q0:=bK hbk (hcv 0 _ rfl);have q1:=ai hbk (hcv 1 _ rfl);have q2:=ai hbk (hcv 2 _ rfl);have q3:=ai hbk (hcv 3 _ rfl);have q4:=ai hbk (hcv 4 _ rfl);have q5:=ai hbk (hcv 5 _ rfl);have HPS:=aa (rJ ay.name (bI met) hv);clear hv hcv hul hbk htr hsr;have hA:=ae wr (.cells #[.string v.name,.int .u64 v.id,.bool v.hidden,.bool v.ro,.slice tp v.tags.length tc,.slice sp v.Gf.length sc] 55);have HBv:=aa (heap_alloc_new wr (.cells #[.string v.name,.int .u64 v.id,.bool v.hidden,.bool v.ro,.slice tp v.tags.length tc,.slice sp v.Gf.length sc] 55));have HB2:=aa (HB.out.trans (hA.mono HB.out.size));have HOW2:=aa (HOW.out.below hA);clear hA
   go_upto_region 5 with (fail)
   clear q0 q1 q2 q3 q4 q5;generalize hW2:World.alloc wr _=W2 at *;generalize hBv:wr.heap.size=Bv at *;clear hW2 HB HOW;have v0:W2.cell? ⟨Bv,0,none⟩=some (.string v.name):=by simp [World.cell?,HBv.out]
   have hwz:=HB2.out.size;have HN1:=aa (zt v.name Bx bm n met W2 ((HB2.out.cell (p:=⟨Bx,0,none⟩) hbx).trans HX.out) (HM.out.block (HB2.out.block bm HM.out.lt)) hns);obtain ⟨lp,lc,e,_,_⟩:=(HOW2.out.rd (ok:=fun _=>True) (fun _ _=>trivial)).cap;subst e;have HCT:=aa (eT (ok:=fun _=>True) _ v.name _ W2 (HOW2.out.rd (ok:=fun _=>True) (fun _ _=>trivial)) (by omega));generalize hPL:gD ay.name (bI met) (g.F9.take k)=pl at *;have HPL:=aa hPL;clear hPL;cases hh:bI met v.name with
   | false =>
    rw [hh] at HN1 HPS;rw [Bool.false_and,if_neg (by simp)] at HPS;have HH:=aa hh;clear hh;clear HCT
    go_wp2_with (refine HN1.out.mono ?_;rintro e w3 ⟨rfl,rfl⟩)
    go_roundw
    case rel=>exact ⟨k+1,by omega,by go_num,by rw [HPS.out];exact HOW2.out,HB2.out⟩
    case measure=>simp [intOf];omega
   | true =>
    rw [hh] at HN1 HPS;rw [Bool.true_and] at HPS;have HH:=aa hh;clear hh;cases hc:bI pl v.name with
    | true =>
     rw [hc] at HCT HPS;rw [if_neg (by simp)] at HPS;have HC:=aa hc;clear hc
     go_wp2_with (first | (refine HN1.out.mono ?_;rintro e w3 ⟨rfl,rfl⟩) | (refine HCT.out.mono ?_;rintro e w3 ⟨rfl,rfl⟩))
     go_roundw
     case rel=>exact ⟨k+1,by omega,by go_num,by rw [HPS.out];exact HOW2.out,HB2.out⟩
     case measure=>simp [intOf];omega
    | false =>
     rw [hc] at HCT HPS;rw [if_pos (by simp)] at HPS;have HC:=aa hc;clear hc
     go_wp2_with (first | (refine HN1.out.mono ?_;rintro e w3 ⟨rfl,rfl⟩) | (refine HCT.out.mono ?_;rintro e w3 ⟨rfl,rfl⟩) | (at_builtin;refine dz rfl _ _ rfl w.heap.size _ pl v.name rfl ?c1 W2.heap.size 1 rfl ?c2 ?c3 ?c4 ?_))
     case c1=>exact HOW2.out.alloc _
     case c2=>exact aD rfl rfl
     case c3=>omega
     case c4=>simp;omega
     intro v' w1 hown1 hb1 _;have HB4:=aa ((HB2.out.alloc hwz _).trans hb1);have HOW4:=aa hown1;clear hb1 hown1;go_wp2;go_roundw
     case rel=>exact ⟨k+1,by omega,by go_num,by rw [HPS.out];exact HOW4.out,HB4.out⟩
     case measure=>simp [intOf];omega
  ·obtain rfl:k=g.F9.length:=by omega
   rw [List.take_length] at HOW;go_wp2;go_ret;exact ⟨_,rfl,HOW.out,HB.out⟩
end Go.Proofs.YtjdfihglehfelaaGreatDoor
