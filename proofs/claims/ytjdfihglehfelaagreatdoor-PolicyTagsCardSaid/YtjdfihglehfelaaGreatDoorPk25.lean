/- Lemmas: ModZa, ModZb. -/
import Derived.Test.YtjdfihglehfelaaGreatDoorPk24
set_option maxRecDepth 100000
set_option maxHeartbeats 32000000
set_option linter.all false
namespace Go.Proofs.YtjdfihglehfelaaGreatDoor
open Go.RowKit Go.Maps Go.Shelf
def kK (W:World)(L:List (az × Nat))(M:List (ByteArray × Int × Int)):Prop:=∀ p∈L,W.heap[p.2]?=some (.cells ((bz M p.1).map Value.bool).toArray 4 (0,0))
structure uF (ok:Nat→Prop)(W:World)(L:List (az × Nat))(bm:Nat):Prop where
 map:bi Tryz.prog 9 W bm L.length (vG L)
 nb:(L.map (·.2)).Nodup
 nn:(L.map (·.1.name)).Nodup
 lt:∀ p∈L,p.2<W.heap.size∧¬ ok p.2∧p.2≠bm
 de:∀ p∈L,0≤p.1.Gc∧p.1.Gc≤1000000
def Gm (L:List (az × Nat)):Nat→Prop:=fun b=>∃ p∈L,p.2=b
theorem ut {α β:Type}{f:α→β}{l:List α}(h:(l.map f).Nodup){x y:α}(hx:x∈l)(hy:y∈l)(e:f x=f y):x=y:=by
 induction l with
 | nil=>cases hx
 | cons a l ih =>
  rw [List.map_cons,List.nodup_cons] at h;rcases List.mem_cons.1 hx with hx2 | hx2 <;> rcases List.mem_cons.1 hy with hy2 | hy2
  ·rw [hx2,hy2]
  ·exact absurd (by rw [← hx2,e];exact List.mem_map_of_mem hy2) h.1
  ·exact absurd (by rw [← hy2,← e];exact List.mem_map_of_mem hx2) h.1
  ·exact ih h.2 hx2 hy2
theorem kK.below {w w':World}{L:List (az × Nat)}{M:List (ByteArray × Int × Int)}(h:kK w L M)(hb:Below w.heap.size w w'):kK w' L M:=fun p hp=>(hb.block p.2 (lt_of_block (h p hp))).trans (h p hp)
theorem kK.bools {w:World}{L:List (az × Nat)}{M:List (ByteArray × Int × Int)}(h:kK w L M){d:az}{b:Nat}(hp:(d,b)∈L)(st n:Nat):uL w b st (((bz M d).drop st).take n):=fun i x hx=>by
 have hb:=h _ hp;dsimp only at hb;rw [List.getElem?_take] at hx;split at hx
 ·rw [List.getElem?_drop] at hx
  simp only [World.cell?,hb];simpa using hx
 ·cases hx
theorem kK.zero {w:World}{L:List (az × Nat)}{M:List (ByteArray × Int × Int)}(h:kK w L M)(nm:ByteArray)(st:Int):kK w L (M++[(nm,st,0)]):=fun p hp=>by
 rw [vQ];exact h p hp
theorem kK.set {w:World}{L:List (az × Nat)}{M:List (ByteArray × Int × Int)}{d:az}{b:Nat}{st:Int}{j:Nat}(h:kK w L (M++[(d.name,st,(j:Int))]))(hb:(L.map (·.2)).Nodup)(hn:(L.map (·.1.name)).Nodup)(hp:(d,b)∈L)(h0:0≤st) :
  kK (w.setCell ⟨b,st.toNat+j,none⟩ (.bool true)) L (M++[(d.name,st,((j+1:Nat):Int))]):=fun p hpL=>by
 by_cases e:p.2=b
 ·obtain rfl:p=(d,b):=ut hb hpL hp e
  have:=block_setCell (i:=st.toNat+j) (.bool true) (h _ hp);rw [this,List.setIfInBounds_toArray,← List.map_set,xH M d st j h0]
 ·rw [Below.heap_setCell _ _ _ _ e,h p hpL]
  have hne:¬ d.name=p.1.name:=fun q=>e (by rw [ut hn hpL hp q.symm]);rw [lQ M p.1 _ hne,lQ M p.1 _ hne]
theorem E8 (w:World):(zeroValue 195).run Tryz.prog w=.ok (.slice none 0 0) w:=by kernel_rfl
def F4 (L:List (az × Nat))(M:List (ByteArray × Int × Int))(s:aB)(w:World)(e:Ending)(w':World):Prop :=
 e=.returned (.int .i64 (if nP (aX s) M s.Ga=true then 15 else 0))∧Mod (Gm L) w w'∧(nP (aX s) M s.Ga=false→kK w' L (M++dC (aX s) s.Ga))
theorem sK {ok:Nat→Prop}(L:List (az × Nat))(M:List (ByteArray × Int × Int))(bm Bt:Nat)(v:ay)(s:aB)(u1 u2:List Value)(w:World)(htk:w.cell? ⟨Bt,0,none⟩=some (.map (some bm)))(hBt:Bt<w.heap.size)(hL:uF ok w L bm)(hLt:∀ p∈L,p.2≠Bt)(hT:kK w L M)
  (hv:aN ok w u1 v) (hs:bC ok w u2 s) (hf:wM s) (hx1:1≤aX s) (hin:∀ a∈s.Ga,a.vol=false→a.on.size≤maxLen∧∃ d,bH (L.map (·.1)) a.on=some d∧0≤a.start∧aX s≤d.Gc - a.start) :
  Calls Tryz.prog 152 #[.agg u1.toArray,.agg u2.toArray,.pointer (some ⟨Bt,0,none⟩)] w (F4 L M s w):=by
 have HLM:=aa hL;clear hL;have HLT:=aa hLt;clear hLt;have HT:=aa hT;clear hT;have HIN:=aa hin;clear hin;have HTK:=aa htk;clear htk;obtain ⟨tv,sv,rfl,htr,hsr⟩:=hv;obtain ⟨tp,tc,rfl,_,_⟩:=htr.cap;obtain ⟨sp,sc,rfl,_,_⟩:=hsr.cap;obtain ⟨av,stv,rfl,har,hst⟩:=hs;obtain ⟨ap,ac,rfl,_,_⟩:=har.cap;obtain ⟨stp,stc,rfl,_,_⟩:=hst.cap;have HAR:=aa har;clear har hst htr hsr;have hal:=hf.ar;have hl0:=hf.l0;have hl1:=hf.l1;clear hf;have hxb:aX s≤32768:=by have:=(zV (k:=s.kind) (l:=s.length) (n:=s.Ga.length) (by omega)).2;unfold aX;omega
 have HXE:Hid (aX s=iB s.kind s.length s.Ga.length):=aa rfl;have hA1:=ae w (.cells #[.string v.name,.int .u64 v.id,.bool v.hidden,.bool v.ro,.slice tp v.tags.length tc,.slice sp v.Gf.length sc] 55);have hA2:=ae (w.alloc (.cells #[.string v.name,.int .u64 v.id,.bool v.hidden,.bool v.ro,.slice tp v.tags.length tc,.slice sp v.Gf.length sc] 55)) (.cells #[.int .i64 s.start,.int .i64 s.length,.int .i64 s.kind,.slice ap s.Ga.length ac,.int .i64 s.chunk,.slice stp s.stale.length stc,.string s.log,.string s.pool,.int .i64 s.device,.int .i64 s.mode,.int .i64 s.done] 79);have HBs:=aa (heap_alloc_new (w.alloc (.cells #[.string v.name,.int .u64 v.id,.bool v.hidden,.bool v.ro,.slice tp v.tags.length tc,.slice sp v.Gf.length sc] 55)) (.cells #[.int .i64 s.start,.int .i64 s.length,.int .i64 s.kind,.slice ap s.Ga.length ac,.int .i64 s.chunk,.slice stp s.stale.length stc,.string s.log,.string s.pool,.int .i64 s.device,.int .i64 s.mode,.int .i64 s.done] 79));have HB:=aa (hA1.trans (hA2.mono hA1.size));clear hA1 hA2;go_enter Tryz.func152,Tryz.ntmps152
 go_upto_region 1 with (fail)
 rw [World.size_alloc] at HBs;have hBsw:w.heap.size<w.heap.size+1:=Nat.lt_succ_self _;generalize hW1:World.alloc (World.alloc w _) _=W1 at *;generalize hBs:w.heap.size+1=Bs at *;clear hW1
 have sL:∀ (i:Nat) (z:Value),[.int .i64 s.start,.int .i64 s.length,.int .i64 s.kind,.slice ap s.Ga.length ac,.int .i64 s.chunk,.slice stp s.stale.length stc,.string s.log,.string s.pool,.int .i64 s.device,.int .i64 s.mode,.int .i64 s.done][i]?=some z→W1.cell? ⟨Bs,i,none⟩=some z:=fun i z hz=>by
  simp only [World.cell?,HBs.out];simpa using hz
 have s3:=sL 3 _ rfl;clear sL;go_wp2;clear s3;have HM1:Hid (Mod (Gm L) w W1):=aa (Mod.of_below HB.out);have HT1:=aa (HT.out.below HB.out)
 go_loopw [13] (fun i wr=>∃ k:Nat,k≤s.Ga.length∧i=.int .i64 k∧Mod (Gm L) w wr∧kK wr L (M++dC (aX s) (s.Ga.take k))∧nP (aX s) M s.Ga=nP (aX s) (M++dC (aX s) (s.Ga.take k)) (s.Ga.drop k)∧wr.heap[Bs]?=some (.cells #[.int .i64 s.start,.int .i64 s.length,.int .i64 s.kind,.slice ap s.Ga.length ac,.int .i64 s.chunk,.slice stp s.stale.length stc,.string s.log,.string s.pool,.int .i64 s.device,.int .i64 s.mode,.int .i64 s.done] 79 (0,0))) (fun i _=>s.Ga.length - (intOf i).toNat)
 case atStart=>exact ⟨0,Nat.zero_le _,rfl,HM1.out,by rw [List.take_zero];simpa [dC] using HT1.out,by rw [List.take_zero,List.drop_zero];simp [dC],HBs.out⟩
 case round =>
  clear HM1 HT1 HBs HB;obtain ⟨k,hk,rfl,hm,ht,he,hbs⟩:=hrel;have HM:=aa hm;clear hm;have HT:=aa ht;clear ht;have HE:=aa he;clear he;have HBs:=aa hbs;clear hbs
  by_cases hlt:k<s.Ga.length
  ·obtain ⟨r,hr⟩:=aj s.Ga k hlt
   obtain ⟨b,off,us,rfl,hob,hbw,hul,hva,hca⟩:=HAR.out.elem hr;obtain rfl:us=_:=hva;have hbk:wr.heap[b]?=w.heap[b]?:=HM.out.block b hbw (fun ⟨p,hp,e⟩=>(HLM.out.lt p hp).2.1 (e ▸ hob));have q0:=bK hbk (hca 0 _ rfl);have q1:=ai hbk (hca 1 _ rfl);have q2:=ai hbk (hca 2 _ rfl);have HMK:=aa (xC (aX s) s.Ga k r hr);have HOV:=aa (HE.out.trans (Ee (aX s) (M++dC (aX s) (s.Ga.take k)) hr));have HIR:=aa (HIN.out r (List.mem_of_getElem? hr));clear hr hul hca hbk;have hA:=ae wr (.cells #[.bool r.vol,.string r.on,.int .i64 r.start] 60);have HBa:=aa (heap_alloc_new wr (.cells #[.bool r.vol,.string r.on,.int .i64 r.start] 60));have HM2:=aa (HM.out.trans (Mod.of_below (F:=fun _=>False) hA) (fun _ f=>f.elim));have HT2:=aa (HT.out.below hA);have hBsl:=lt_of_block HBs.out;have HBs2:=aa ((hA.block _ hBsl).trans HBs.out);clear hA
   go_upto_region 4 with (fail)
   clear q0 q1 q2;generalize hW2:World.alloc wr _=W2 at *;generalize hBa:wr.heap.size=Ba at *;clear hW2 HM HT HBs HE;have a0:W2.cell? ⟨Ba,0,none⟩=some (.bool r.vol):=by simp [World.cell?,HBa.out]
   cases hvol:r.vol with
   | true =>
    rw [hvol] at a0;have HV:=aa hvol;clear hvol;go_wp2;go_roundw
    case rel=>exact ⟨k+1,by omega,by go_num,HM2.out,by rw [HMK.out,if_pos HV.out];exact HT2.out,by rw [HOV.out,if_pos HV.out,HMK.out,if_pos HV.out],HBs2.out⟩
    case measure=>simp [intOf];omega
   | false =>
    rw [hvol] at a0;obtain ⟨hsz,d,hfd,hst0,hst1⟩:=HIR.out hvol;have HV:=aa hvol;clear hvol;obtain ⟨bd,hdL,hdn,htf⟩:=Dv hfd;have hdE:=HLM.out.de _ hdL;have hdl:=HLM.out.lt _ hdL;dsimp only at hdE hdl;clear hfd;have HDN:=aa hdn;clear hdn;have HDL:=aa hdL;clear hdL;have HFB:Hid (∀ p∈L,p.2<W2.heap.size):=aa fun p hp=>Nat.lt_of_lt_of_le (HLM.out.lt p hp).1 HM2.out.size
    go_upto_region 5 with (fail)
    clear a0;obtain ⟨st,hst⟩:∃ st:Nat,r.start=st:=⟨r.start.toNat,by omega⟩;obtain ⟨n,hn⟩:∃ n:Nat,aX s=n:=⟨(aX s).toNat,by omega⟩;obtain ⟨E,hE⟩:∃ E:Nat,d.Gc=E:=⟨d.Gc.toNat,by omega⟩;rw [show d.Gc.toNat=E by omega] at htf;rw [hn,hE,hst] at hst1;rw [hn] at hx1 hxb;rw [hE] at hdE;rw [hst] at hst0 HBa;have HTK2:=aa ((HM2.out.cell (p:=⟨Bt,0,none⟩) hBt (fun ⟨p,hp,e⟩=>HLT.out p hp e)).trans HTK.out);have hBt2:=Nat.lt_of_lt_of_le hBt HM2.out.size;have HMP:=aa (HLM.out.map.block (HM2.out.block _ HLM.out.map.lt (fun ⟨p,hp,e⟩=>(HLM.out.lt p hp).2.2 e)))
    have HLK:Hid (∀ w',bi Tryz.prog 9 w' bm L.length (vG L)→(Instr.lookup 194 (.map (some bm)) (.string r.on) false).run Tryz.prog w'=.ok (.slice (some ⟨bd,0,none⟩) E E) w'):=aa fun w' hm=>by
     have:=(bi.look hm oM Tryz.underlying194 (E8 w') (key:=.string r.on) (gG r.on hsz)).1
     rwa [htf] at this
    have HST:=aa hst;clear hst;have HN:=aa hn;clear hn;have HEE:=aa hE;clear hE;clear htf
    have hS:∀ w':World,Below W2.heap.size W2 w'→(w'.cell? ⟨Bt,0,none⟩=some (.map (some bm))∧w'.cell? ⟨Ba,1,none⟩=some (.string r.on)∧w'.cell? ⟨Ba,2,none⟩=some (.int .i64 (st:Int))∧(Instr.lookup 194 (.map (some bm)) (.string r.on) false).run Tryz.prog w'=.ok (.slice (some ⟨bd,0,none⟩) E E) w'∧w'.cell? ⟨Bs,0,none⟩=some (.int .i64 s.start)∧w'.cell? ⟨Bs,1,none⟩=some (.int .i64 s.length)∧w'.cell? ⟨Bs,2,none⟩=some (.int .i64 s.kind)∧w'.cell? ⟨Bs,3,none⟩=some (.slice (some ⟨b,off,none⟩) s.Ga.length ac)∧w'.cell? ⟨Bs,4,none⟩=some (.int .i64 s.chunk)∧w'.cell? ⟨Bs,5,none⟩=some (.slice stp s.stale.length stc)∧w'.cell? ⟨Bs,6,none⟩=some (.string s.log)∧w'.cell? ⟨Bs,7,none⟩=some (.string s.pool)∧w'.cell? ⟨Bs,8,none⟩=some (.int .i64 s.device)∧w'.cell? ⟨Bs,9,none⟩=some (.int .i64 s.mode)∧w'.cell? ⟨Bs,10,none⟩=some (.int .i64 s.done)):=fun w' e=>by
     have h2:=(e.block Bs (lt_of_block HBs2.out)).trans HBs2.out;have h3:=(e.block Ba (lt_of_block HBa.out)).trans HBa.out;exact ⟨(e.cell (p:=⟨Bt,0,none⟩) hBt2).trans HTK2.out,by simp [World.cell?,h3],by simp [World.cell?,h3],HLK.out w' (HMP.out.block (e.block _ HMP.out.lt)),by simp [World.cell?,h2],by simp [World.cell?,h2],by simp [World.cell?,h2],by simp [World.cell?,h2],by simp [World.cell?,h2],by simp [World.cell?,h2],by simp [World.cell?,h2],by simp [World.cell?,h2],by simp [World.cell?,h2],by simp [World.cell?,h2],by simp [World.cell?,h2]⟩
    have HS:=aa hS;clear hS;refine aL (fun w'=>w'.cell? ⟨Bt,0,none⟩=some (.map (some bm))∧w'.cell? ⟨Ba,1,none⟩=some (.string r.on)∧w'.cell? ⟨Ba,2,none⟩=some (.int .i64 (st:Int))∧(Instr.lookup 194 (.map (some bm)) (.string r.on) false).run Tryz.prog w'=.ok (.slice (some ⟨bd,0,none⟩) E E) w'∧w'.cell? ⟨Bs,0,none⟩=some (.int .i64 s.start)∧w'.cell? ⟨Bs,1,none⟩=some (.int .i64 s.length)∧w'.cell? ⟨Bs,2,none⟩=some (.int .i64 s.kind)∧w'.cell? ⟨Bs,3,none⟩=some (.slice (some ⟨b,off,none⟩) s.Ga.length ac)∧w'.cell? ⟨Bs,4,none⟩=some (.int .i64 s.chunk)∧w'.cell? ⟨Bs,5,none⟩=some (.slice stp s.stale.length stc)∧w'.cell? ⟨Bs,6,none⟩=some (.string s.log)∧w'.cell? ⟨Bs,7,none⟩=some (.string s.pool)∧w'.cell? ⟨Bs,8,none⟩=some (.int .i64 s.device)∧w'.cell? ⟨Bs,9,none⟩=some (.int .i64 s.mode)∧w'.cell? ⟨Bs,10,none⟩=some (.int .i64 s.done)) 11 [] (by kernel_rfl) (HS.out _ (Below.refl _ _).drew) (fun hHeld=>?_);refine tkF 0 hHeld ?_;try simp only [ak];refine tkF 1 hHeld ?_;try simp only [ak];refine tkF 2 hHeld ?_;try simp only [ak];refine tkF 3 hHeld ?_;try simp only [ak];refine tkF 4 hHeld ?_;try simp only [ak];refine tkF 5 hHeld ?_;try simp only [ak];refine tkF 6 hHeld ?_;try simp only [ak];refine tkF 7 hHeld ?_;try simp only [ak];refine tkF 8 hHeld ?_;try simp only [ak];refine au (i:=9) rfl rfl (by kernel_rfl) (fun K hK=>?_);go_simp;refine (ji _ _ _ _ _ _ _ _ _ _ _ _ _ _ _ _ (by omega) (by omega) (by omega)).mono ?_;rintro e w3 ⟨rfl,hb3⟩;rw [← HXE.out,HN.out];have HB3:Hid (Below W2.heap.size W2 w3):=aa ⟨hb3.os,hb3.tape,hb3.output,hb3.size,hb3.block⟩;clear hb3;refine hK.out _ _ (HS.out _ HB3.out) ?_;clear hK K;refine au (i:=10) rfl rfl (by kernel_rfl) (fun K hK=>?_);go_simp;refine hK.out _ _ (HS.out _ HB3.out) ?_;clear hK K hHeld;refine aP (by kernel_rfl) rfl ?_;simp only [List.drop_succ_cons,List.drop_zero]
    go_upto_region 6 with (fail)
    have hlen:(((bz (M++dC (aX s) (s.Ga.take k)) d).drop st).take n).length=n:=by rw [List.length_take,List.length_drop,gP];have:=HEE.out;omega
    have HT3:=aa (HT2.out.below HB3.out)
    have HRUN:Hid ((((bz (M++dC (aX s) (s.Ga.take k)) d).drop st).take n).any id=tV (M++dC (aX s) (s.Ga.take k)) r.on r.start (aX s)):=aa (by
     have:=D5 (M++dC (aX s) (s.Ga.take k)) d r.start (aX s) (by rw [HST.out];omega) (by rw [HN.out];omega) (by rw [HST.out,HN.out,HEE.out];omega);rw [HST.out,HN.out] at this;rw [HST.out,HN.out,← HDN.out]
     exact this)
    have HCALL:=aa (oC _ bd st (E - st) w3 (HT3.out.bools HDL.out st n) (Nat.lt_of_lt_of_le (HFB.out _ HDL.out) HB3.out.size) (by rw [hlen];omega));rw [hlen] at HCALL;clear hlen;rw [HV.out] at HMK HOV;rw [if_neg (by simp)] at HMK HOV;have HM3:=aa (HM2.out.trans (Mod.of_below (F:=fun _=>False) HB3.out) (fun _ f=>f.elim));have HBs3:=aa ((HB3.out.block Bs (lt_of_block HBs2.out)).trans HBs2.out);clear HM2 HT2 HBs2 HS HBa HTK2 HMP HLK
    go_wp2_with fail
    refine HCALL.out.mono ?_;rintro e w4 ⟨rfl,hb4⟩;rw [HRUN.out];have HT4:=aa (HT3.out.below hb4);have HM4:=aa (HM3.out.trans (Mod.of_below (F:=fun _=>False) hb4) (fun _ f=>f.elim));have HBs4:=aa ((hb4.block Bs (lt_of_block HBs3.out)).trans HBs3.out);clear HCALL HRUN HT3 HM3 HBs3 hb4 HB3;cases hrun:tV (M++dC (aX s) (s.Ga.take k)) r.on r.start (aX s) with
    | true =>
     rw [hrun,if_pos rfl] at HOV;have HX:=aa hrun;clear hrun;go_wp2;go_ret;exact ⟨by rw [HOV.out];rfl,HM4.out,fun h=>by rw [HOV.out] at h;cases h⟩
    | false =>
     rw [hrun,if_neg (by simp)] at HOV;have HX:=aa hrun;clear hrun;have HMM:Hid (M++dC (aX s) (s.Ga.take (k+1))=(M++dC (aX s) (s.Ga.take k))++[(d.name,(st:Int),(n:Int))]):=aa (by rw [HMK.out,← List.append_assoc,HDN.out,HST.out,HN.out]);have HOV2:Hid (nP (aX s) M s.Ga=nP (aX s) (M++dC (aX s) (s.Ga.take (k+1))) (s.Ga.drop (k+1))):=aa (by rw [HOV.out,HMK.out,List.append_assoc]);clear HMK HOV
     go_upto_region 9 with (fail)
     go_loopw [35,9] (fun i _ wi=>∃ j:Nat,j≤n∧i=.int .i64 j∧Mod (Gm L) w wi∧kK wi L ((M++dC (aX s) (s.Ga.take k))++[(d.name,(st:Int),(j:Int))])∧wi.heap[Bs]?=some (.cells #[.int .i64 s.start,.int .i64 s.length,.int .i64 s.kind,.slice (some ⟨b,off,none⟩) s.Ga.length ac,.int .i64 s.chunk,.slice stp s.stale.length stc,.string s.log,.string s.pool,.int .i64 s.device,.int .i64 s.mode,.int .i64 s.done] 79 (0,0))) (fun i _ _=>n - (intOf i).toNat)
     case atStart=>exact ⟨0,Nat.zero_le _,rfl,HM4.out,HT4.out.zero _ _,HBs4.out⟩
     case round =>
      clear HM4 HT4 HBs4;obtain ⟨j,hj,rfl,hm,ht,hbs⟩:=hrel;have HM:=aa hm;clear hm;have HT:=aa ht;clear ht;have HBs:=aa hbs;clear hbs
      by_cases hlt2:j<n
      ·have hb:=HT.out _ HDL.out
       have HSET:=aa (HT.out.set HLM.out.nb HLM.out.nn HDL.out (by omega));rw [Int.toNat_natCast] at HSET;have HMS:=aa (HM.out.setCell (p:=⟨bd,st+j,none⟩) (.inl ⟨_,HDL.out,rfl⟩) (.bool true));have hne:Bs≠bd:=by have:=(HLM.out.lt _ HDL.out).1;dsimp only at this;omega
       have HBS:=aa ((Below.heap_setCell wr ⟨bd,st+j,none⟩ (.bool true) Bs hne).trans HBs.out)
       have c0:wr.cell? ⟨bd,st+j,none⟩=some (.bool (tkB ((M++dC (aX s) (s.Ga.take k))++[(d.name,(st:Int),(j:Int))]) d.name (st+j))):=by
        dsimp only at hb;simp only [World.cell?,hb];have hg:=gU (M:=(M++dC (aX s) (s.Ga.take k))++[(d.name,(st:Int),(j:Int))]) (d:=d) (i:=st+j) (by have:=HEE.out;omega);generalize bz _ d=bl at hg ⊢;simp [hg]
       have f0:wr.frozen? ⟨bd,st+j,none⟩=false:=by
        dsimp only at hb;simp [World.frozen?,hb]
       clear hb;generalize tkB _ d.name (st+j)=x at *;go_wp2;go_roundw
       case rel=>exact ⟨j+1,by omega,by go_num,HMS.out,HSET.out,HBS.out⟩
       case measure=>simp [intOf];omega
      ·obtain rfl:j=n:=by omega
       rw [← HMM.out] at HT;go_wp2;go_roundw
       case rel=>exact ⟨k+1,by omega,by go_num,HM.out,HT.out,HOV2.out,HBs.out⟩
       case measure=>simp [intOf];omega
  ·obtain rfl:k=s.Ga.length:=by omega
   rw [List.take_length] at HT;have HR:Hid (nP (aX s) M s.Ga=false):=aa (by rw [HE.out,List.drop_length];rfl);go_wp2;go_ret;exact ⟨by rw [HR.out];rfl,HM.out,fun _=>HT.out⟩
theorem laidB:laidOutB Tryz.prog=true:=by kernel_rfl
theorem DY:(199:TypeId)<Tryz.prog.types.size:=of_decide_eq_true (by kernel_rfl)
theorem EW:Tryz.prog.keyTypeAt 2 199=true:=by kernel_rfl
theorem Em:WideMaps.KeyLaw Tryz.prog 199:=deep_law_laid laidB (m:=2) (by omega) DY EW (by rw [Tryz.underlying199])
theorem EI:Keyed Tryz.prog 199:=Keyed.of_law Em
theorem EZ:Tryz.prog.keyType 199=true:=by
 obtain ⟨n,hn⟩:∃ n,Tryz.prog.types.size=n+1:=⟨Tryz.prog.types.size - 1,by have:0<Tryz.prog.types.size:=of_decide_eq_true (by kernel_rfl);omega⟩;have hc:Tryz.prog.cutTypes.any (·.2 == 199)=false:=by kernel_rfl
 have hs:Tryz.prog.stoodInHeld 199=false:=by kernel_rfl
 unfold Program.keyType;rw [hn];simp [Program.keyTypeAt,Tryz.underlying199,Tryz.underlying9,Tryz.underlying3,hc,hs]
theorem DX (p:ByteArray)(d:Int)(hp:p.size≤maxLen)(hd:(Lit.int .i64 d).wf=true):∃ kl,keyOf Tryz.prog 199 (.agg #[.string p,.int .i64 d])=some kl:=by
 obtain ⟨n,hn⟩:∃ n,Tryz.prog.types.size=n+1:=⟨Tryz.prog.types.size - 1,by have:0<Tryz.prog.types.size:=of_decide_eq_true (by kernel_rfl);omega⟩;have hf:(Value.agg #[.string p,.int .i64 d]).formed Tryz.prog 199=true:=by simp [Value.formed,Tryz.underlying199,show Tryz.prog.cellsOf 199=2 by kernel_rfl]
 have e1:Tryz.prog.cellsOf 9=1:=by kernel_rfl
 have e2:Tryz.prog.cellsOf 3=1:=by kernel_rfl
 have e3:Tryz.prog.cellsOf 199=2:=by kernel_rfl
 have hl:Tryz.prog.keyLits (n+1+1) 199 [.string p,.int .i64 d]=some [.string p.data.toList,.int .i64 d]:=by
  simp [Program.keyLits,Tryz.underlying199,Tryz.underlying9,Tryz.underlying3,e1,e2,e3,hp,hd]
 refine ⟨.string (keyBytes [.string p.data.toList,.int .i64 d]),?_⟩;unfold keyOf;rw [Tryz.underlying199];simp only [];rw [EZ,hf,hn];simp only [Bool.and_self,if_true];rw [show (Value.agg #[.string p,.int .i64 d]).cells.toList=[.string p,.int .i64 d] from rfl,hl];rfl
theorem wY (w:World):(zeroValue 4).run Tryz.prog w=.ok (.bool false) w:=by kernel_rfl
open Classical in
noncomputable def iV (pre:List (ay × aB))(key:Value):Option Value:=if ∃ q∈pre,q.2.kind=6∧key=.agg #[.string q.2.pool,.int .i64 q.2.device] then some (.bool true) else none
def pY (pre:List (ay × aB))(s:aB):Bool:=pre.any fun p=>decide (p.2.kind=6)&&(decide (p.2.pool=s.pool)&&decide (p.2.device=s.device))
theorem AZ (pre:List (ay × aB))(s:aB):(iV pre (.agg #[.string s.pool,.int .i64 s.device])).getD (.bool false)=.bool (pY pre s):=by
 unfold iV
 by_cases h:pY pre s=true
 ·rw [h,if_pos]
  ·rfl
  ·obtain ⟨q,hq,e⟩:=List.any_eq_true.1 h
   simp only [Bool.and_eq_true,decide_eq_true_eq] at e;exact ⟨q,hq,e.1,by rw [e.2.1,e.2.2]⟩
 ·rw [if_neg]
  ·rw [Bool.eq_false_iff.2 h]
   rfl
  ·rintro ⟨q,hq,e,k⟩
   simp only [Value.agg.injEq,Array.mk.injEq,List.cons.injEq,Value.string.injEq,Value.int.injEq,and_true,true_and] at k;exact h (List.any_eq_true.2 ⟨q,hq,by simp [e,k.1,k.2]⟩)
theorem yU (pre:List (ay × aB))(v:ay)(s:aB)(h:s.kind=6)(key:Value):iV (pre++[(v,s)]) key=upd (iV pre) (.agg #[.string s.pool,.int .i64 s.device]) (.bool true) key:=by
 by_cases hk:key=.agg #[.string s.pool,.int .i64 s.device]
 ·subst hk
  rw [upd_same];unfold iV;rw [if_pos ⟨(v,s),by simp,h,rfl⟩]
 ·rw [bP hk]
  unfold iV
  congr 1
  refine propext ⟨?_,?_⟩
  ·rintro ⟨q,hq,e,k⟩
   rcases List.mem_append.1 hq with hq | hq
   ·exact ⟨q,hq,e,k⟩
   ·obtain rfl:=List.mem_singleton.1 hq
    exact absurd k hk
  ·rintro ⟨q,hq,e,k⟩
   exact ⟨q,List.mem_append_left _ hq,e,k⟩
theorem yN (pre:List (ay × aB))(v:ay)(s:aB)(h:¬ s.kind=6)(key:Value):iV (pre++[(v,s)]) key=iV pre key:=by
 unfold iV
 congr 1
 refine propext ⟨?_,?_⟩
 ·rintro ⟨q,hq,e,k⟩
  rcases List.mem_append.1 hq with hq | hq
  ·exact ⟨q,hq,e,k⟩
  ·obtain rfl:=List.mem_singleton.1 hq
   exact absurd e h
 ·rintro ⟨q,hq,e,k⟩
  exact ⟨q,List.mem_append_left _ hq,e,k⟩
def FU (bm:Nat)(pre:List (ay × aB))(v:ay)(s:aB)(w:World)(e:Ending)(w':World):Prop :=
 e=.returned (.int .i64 (BL pre v s))∧Mod (fun b=>b=bm) w w'∧(BL pre v s=0→bi Tryz.prog 199 w' bm (pre.length+1) (iV (pre++[(v,s)])))
theorem sO {ok:Nat→Prop}(pre:List (ay × aB))(bm Bt:Nat)(v:ay)(s:aB)(u1 u2:List Value)(w:World)(htk:w.cell? ⟨Bt,0,none⟩=some (.map (some bm)))(hBt:Bt<w.heap.size)(hM:bi Tryz.prog 199 w bm pre.length (iV pre))(hl:pre.length≤1000000)
  (hv:aN ok w u1 v) (hs:bC ok w u2 s) (hp:s.pool.size≤maxLen) (hd:(Lit.int .i64 s.device).wf=true) :
  Calls Tryz.prog 154 #[.agg u1.toArray,.agg u2.toArray,.pointer (some ⟨Bt,0,none⟩)] w (FU bm pre v s w):=by
 obtain ⟨tv,sv,rfl,htr,hsr⟩:=hv;obtain ⟨tp,tc,rfl,_,_⟩:=htr.cap;obtain ⟨sp,sc,rfl,_,_⟩:=hsr.cap;obtain ⟨av,stv,rfl,har,hst⟩:=hs;obtain ⟨ap,ac,rfl,_,_⟩:=har.cap;obtain ⟨stp,stc,rfl,_,_⟩:=hst.cap;clear har hst htr hsr;have hA1:=ae w (.cells #[.string v.name,.int .u64 v.id,.bool v.hidden,.bool v.ro,.slice tp v.tags.length tc,.slice sp v.Gf.length sc] 55);have hA2:=ae (w.alloc (.cells #[.string v.name,.int .u64 v.id,.bool v.hidden,.bool v.ro,.slice tp v.tags.length tc,.slice sp v.Gf.length sc] 55)) (.cells #[.int .i64 s.start,.int .i64 s.length,.int .i64 s.kind,.slice ap s.Ga.length ac,.int .i64 s.chunk,.slice stp s.stale.length stc,.string s.log,.string s.pool,.int .i64 s.device,.int .i64 s.mode,.int .i64 s.done] 79);have HBs:=aa (heap_alloc_new (w.alloc (.cells #[.string v.name,.int .u64 v.id,.bool v.hidden,.bool v.ro,.slice tp v.tags.length tc,.slice sp v.Gf.length sc] 55)) (.cells #[.int .i64 s.start,.int .i64 s.length,.int .i64 s.kind,.slice ap s.Ga.length ac,.int .i64 s.chunk,.slice stp s.stale.length stc,.string s.log,.string s.pool,.int .i64 s.device,.int .i64 s.mode,.int .i64 s.done] 79));have HB:=aa (hA1.trans (hA2.mono hA1.size));clear hA1 hA2;obtain ⟨kl,hkl⟩:=DX s.pool s.device hp hd;have HK:=aa hkl;clear hkl hp hd;have HM:=aa (hM.block (HB.out.block _ hM.lt));clear hM;have ht:=(HB.out.cell (p:=⟨Bt,0,none⟩) hBt).trans htk;have HE:Hid (BL pre v s=if s.kind=6 then (if pY pre s=true then 9 else 0) else 0):=aa rfl;clear htk;go_enter Tryz.func154,Tryz.ntmps154
 go_upto_region 1 with (fail)
 rw [World.size_alloc] at HBs;generalize hW1:World.alloc (World.alloc w _) _=W1 at *;generalize hBs:w.heap.size+1=Bs at *;clear hW1;have hlk:=(bi.look HM.out EI Tryz.underlying197 (wY W1) HK.out).1;rw [AZ] at hlk;obtain ⟨w',hst,hc',hg',hz'⟩:=bi.store HM.out EI Tryz.underlying197 (Nat.lt_of_le_of_lt hl (by decide)) HK.out (.bool true);have HC:=aa hc';clear hc';have HMM:Hid (Mod (fun b=>b=bm) w w'):=aa ((Mod.of_below HB.out).trans (Mod.grown hg') (fun i e=>.inl e));clear hg' hz'
 have sL:∀ (i:Nat) (z:Value),[.int .i64 s.start,.int .i64 s.length,.int .i64 s.kind,.slice ap s.Ga.length ac,.int .i64 s.chunk,.slice stp s.stale.length stc,.string s.log,.string s.pool,.int .i64 s.device,.int .i64 s.mode,.int .i64 s.done][i]?=some z→W1.cell? ⟨Bs,i,none⟩=some z:=fun i z hz=>by
  simp only [World.cell?,HBs.out];simpa using hz
 have s2:=sL 2 _ rfl;have s7:=sL 7 _ rfl;have s8:=sL 8 _ rfl;clear sL
 by_cases hk:s.kind=6
 ·have hkb:(s.kind != 6)=false:=by simpa using hk
  rw [if_pos hk] at HE;have HK6:=aa hk;clear hk;cases hh:pY pre s with
  | true =>
   rw [hh] at hlk HE;have HH:=aa hh;clear hh;clear hst;go_wp2;go_ret;exact ⟨by rw [HE.out];rfl,Mod.of_below HB.out,fun h=>by rw [HE.out] at h;cases h⟩
  | false =>
   rw [hh] at hlk HE;have HH:=aa hh;clear hh;go_wp2;go_ret;exact ⟨by rw [HE.out];rfl,HMM.out,fun _=>HC.out.congr fun key _ _=>yU pre v s HK6.out key⟩
 ·have hkb:(s.kind != 6)=true:=by simpa using hk
  rw [if_neg hk] at HE;have HK6:=aa hk;clear hk;clear hlk hst;go_wp2;go_ret;exact ⟨by rw [HE.out];rfl,Mod.of_below HB.out,fun _=>(HM.out.mono (Nat.le_succ _)).congr fun key _ _=>yN pre v s HK6.out key⟩
end Go.Proofs.YtjdfihglehfelaaGreatDoor
