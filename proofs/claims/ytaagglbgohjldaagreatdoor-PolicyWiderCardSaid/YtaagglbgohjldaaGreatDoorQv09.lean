/- Lemmas: Mpv, Chk, ModA, Box, MkT. -/
import Derived.Test.YtaagglbgohjldaaGreatDoorQv08
set_option maxRecDepth 100000
set_option maxHeartbeats 32000000
set_option linter.all false
namespace Go.Proofs.YtaagglbgohjldaaGreatDoor
open Go.Proofs.Tryz
open Go Go.Maps Go.MapKept Go.ChangeMaps
variable {o:Option Value}
def FJ (v:Value):Option (DataW Value × List MemPlace):=some (.held v,[])
def zK:Option Value->DataW Value
 | some v=>.held v
 | none=>.nil
theorem oQ {v:Value}(h:zK o=.held v):o=some v:=by
 cases o with
 | none=>cases h
 | some u=>cases h;rfl
theorem oP (h:zK o=.nil):o=none:=by
 cases o with
 | none=>rfl
 | some u=>cases h
def bi (P:Program)(k:TypeId)(w:World)(b n:Nat)(f:Value->Option Value):Prop :=
 ∃ D:DataW Value,w.ownsMap P k FJ b n D/\∀ key kl,keyOf P k key=some kl->D.atKey kl .nil=zK (f key)
open Classical in
noncomputable def upd (f:Value->Option Value)(key v:Value):Value->Option Value:=fun x=>if x=key then some v else f x
theorem upd_same (f:Value->Option Value)(key v:Value):upd f key v key=some v:=by simp [upd]
theorem bP {f:Value->Option Value}{key v x:Value}(h:x≠key):upd f key v x=f x:=by simp [upd,h]
variable {P:Program}{k:TypeId}{w w':World}{b n:Nat}{f:Value->Option Value}
variable {g:Nat}{t e:TypeId}{key:Value}{kl:Lit}
theorem bi.made (P:Program)(k:TypeId)(w:World):bi P k (w.alloc (.map #[] 0)) w.heap.size 0 (fun _=>none) :=
 ⟨.map [],World.ownsMap_made w P k FJ,fun _ _ _=>rfl⟩
theorem bi.lt (h:bi P k w b n f):b<w.heap.size:=by
 obtain ⟨D,h,_⟩:=h;exact h.lt
theorem bi.mono {m:Nat}(h:bi P k w b n f)(hm:n<=m):bi P k w b m f:=by
 obtain ⟨D,h,hf⟩:=h;exact ⟨D,h.mono hm,hf⟩
theorem bi.block (h:bi P k w b n f)(hb:w'.heap[b]?=w.heap[b]?):bi P k w' b n f:=by
 obtain ⟨D,⟨es,clock,h1,h2⟩,hf⟩:=h;exact ⟨D,⟨es,clock,hb.trans h1,h2⟩,hf⟩
theorem bi.congr {g:Value->Option Value}(h:bi P k w b n f)(hg:∀ key kl,keyOf P k key=some kl->g key=f key):bi P k w b n g:=by
 obtain ⟨D,h,hf⟩:=h;exact ⟨D,h,fun key kl hk=>by rw [hg key kl hk];exact hf key kl hk⟩
theorem bi.ne (h:bi P k w b n f){cs:Array Value}{z:Nat × Nat}(hg:w.heap[g]?=some (.cells cs t z)):b≠g:=by
 obtain ⟨D,⟨es,clock,h1,_⟩,_⟩:=h;rintro rfl;rw [h1] at hg;cases hg
theorem bi.look (h:bi P k w b n f)(K:Keyed P k)(ht:P.underlying t=some (.map k e)){z:Value}(hz:(zeroValue e).run P w=.ok z w)(hkey:keyOf P k key=some kl) :
  (Instr.lookup t (.map (some b)) key false).run P w=.ok ((f key).getD z) w/\(Instr.lookup t (.map (some b)) key true).run P w=.ok (.tuple #[(f key).getD z,.bool (f key).isSome]) w:=by
 obtain ⟨D,⟨es,clock,hb,F,_,rfl⟩,hf⟩:=h;have NW:=hf key kl hkey;constructor
 ·rcases Maps.fit_look false K ht hz hb F hkey with ⟨hrun,_,hat⟩ | ⟨e0,y,_,_,hrun,hRv,hat,_⟩
  ·rw [hat] at NW;rw [oP NW.symm];exact hrun
  rw [hat] at NW
  cases hRv
  rw [oQ NW.symm];exact hrun
 rcases Maps.fit_look true K ht hz hb F hkey with ⟨hrun,_,hat⟩ | ⟨e0,y,_,_,hrun,hRv,hat,_⟩
 ·rw [hat] at NW;rw [oP NW.symm];exact hrun
 rw [hat] at NW
 cases hRv
 rw [oQ NW.symm];exact hrun
theorem bi.store (h:bi P k w b n f)(K:Keyed P k)(ht:P.underlying t=some (.map k e))(hn:n<maxLen)(hkey:keyOf P k key=some kl)(v:Value) :
  ∃ w',(Instr.mapUpdate t (.map (some b)) key v).run P w=.ok () w'/\bi P k w' b (n+1) (upd f key v)/\w.grownBy w' (some b)/\w'.heap.size=w.heap.size:=by
 obtain ⟨D,h,hf⟩:=h;have hm:=h.isMap;obtain ⟨w',hrun,h1,h2⟩:=h.store (d:=.held v) (ps:=[]) K ht hn hkey rfl;refine ⟨w',hrun,⟨_,h1,fun x kx hx=>?_⟩,h2.grown,?_⟩
 ·by_cases Lt:x=key
  ·subst Lt;rw [hkey] at hx;cases hx
   rw [upd_same,Maps.atKey_put_same hm (K.key hkey)];rfl
  rw [bP Lt,Maps.atKey_put_other (fun e=>Lt (K.inj hx (by rw [e];exact hkey))),hf x kx hx]
 obtain ⟨es,c,es',c',_,rfl⟩:=h2;simp [setBlock]
theorem oJ {row:Nat}(h:w.grownBy w' (some row))(hg:g<w.heap.size)(hne:g≠row):w'.heap[g]?=w.heap[g]?:=h.block g hg (fun e=>hne (by injection e))
end Go.Proofs.YtaagglbgohjldaaGreatDoor
namespace Go.Proofs.YtaagglbgohjldaaGreatDoor
open Go.Proofs.Tryz
open Go.RowKit Go.Maps
variable {w w':World}{B:Nat}{v:Value}{l:List ByteArray}{ok:Nat->Prop}
structure eX where
 least:Int
 greatest:Int
 F9:Bool
 several:Bool
 chunk:Int
 stale:Bool
 pool:Bool
 log:Bool
 mode:Bool
 done:Bool
def shapeOf (k:Int):Option eX :=
 if k=1 then some ⟨1,1,false,true,0,false,false,false,false,false⟩
 else if k=2 then some ⟨2,6,false,true,1,false,false,false,false,false⟩
 else if k=3 then some ⟨2,6,true,false,1024,true,false,true,false,false⟩
 else if k=4 then some ⟨3,6,true,false,1,true,false,false,false,false⟩
 else if k=5 then some ⟨2,2,true,false,64,false,false,false,false,false⟩
 else if k=6 then some ⟨0,0,false,false,0,false,true,false,false,false⟩
 else if k=7 then some ⟨3,3,true,false,64,false,false,false,true,false⟩
 else if k=8 then some ⟨2,2,false,true,0,false,false,false,false,true⟩
 else if k=9 then some ⟨0,0,false,true,0,false,false,false,false,false⟩
 else if k=10 then some ⟨0,0,false,true,0,false,false,false,false,false⟩
 else none
def yu:eX:=⟨0,0,false,false,0,false,false,false,false,false⟩
def Tak (x0:eX):Tab #[.int .i64 x0.least,.int .i64 x0.greatest,.bool x0.F9,.bool x0.several,.int .i64 x0.chunk,.bool x0.stale,.bool x0.pool,.bool x0.log,.bool x0.mode,.bool x0.done]:=⟨⟩
def jR (x:eX):Value:=.agg (Tak x)
def eH:Value->Option Value
 | .int .i64 k=>(shapeOf k).map jR
 | _=>none
def eZ (v:ay):Int:=match v.Gf with
 | [s]=>s.kind
 | _=>0
def fF (n l:Int):Int:=min (n+min (max l 0) 1073741824) 1073741824
def C8 (v:ay):Int:=v.Gf.foldl (fun n s=>fF n s.length) 0
def fq (ext ch:Int)(x:eX):Bool :=
 if x.chunk=0 then ch == 0 else if x.chunk=1 then decide (1<=ch)&&ext % ch == 0 else decide (1<=ch)&&decide (ch<=x.chunk)
def bR (st:Bool)(e:Int)(l:List Int)(i:Nat):Bool:=st&&decide (0<=l.getD i 0)&&decide (l.getD i 0<e)&&(decide (i=0)||decide (l.getD (i - 1) 0<l.getD i 0))
def dP (s:aB)(x:eX):Bool:=(List.range s.stale.length).all (bR x.stale (s.Ga.length+if s.log.toList.isEmpty then 0 else 1) s.stale)
def bE (n lo hi:Int)(used:Bool):Bool:=if used then decide (lo<=n)&&decide (n<=hi) else n == 0
def bT (x:eX)(a:aR):Bool:=a.vol == x.F9&&(!a.vol||a.start == 0)
def bJ (ext:Int)(s:aB)(start:Int):Bool:=match shapeOf s.kind with
 | none=>false
 | some x=>s.start == start&&decide (1<=s.length)&&decide (s.length<=32768)&&decide (x.least<=s.Ga.length)&&decide (s.Ga.length<=x.greatest)&&s.Ga.all (bT x) &&
   fq ext s.chunk x&&(x.log||s.log.toList.isEmpty)&&(x.pool||s.pool.toList.isEmpty)&&dP s x&&bE s.device 1 65535 x.pool&&bE s.mode 1 2 x.mode&&bE s.done 0 s.length x.done &&
   !(s.kind == 2&&!(s.length % s.Ga.length == 0))&&!(s.kind == 4&&!(s.length % (s.Ga.length - 1) == 0))
def dD (s:aB)(pool:Bool):List ByteArray:=((s.Ga.filter (·.vol)).map (·.on))++(if s.log.toList.isEmpty then [] else [s.log])++(if pool&&s.kind == 6 then [s.pool] else [])
def dF (w:World)(B:Nat)(v:Value)(l:List ByteArray):Prop:=w.ownsRow B 9 1 v l.length (l.map Value.string)
theorem dF.nil (w:World)(B:Nat):dF w B (.slice none 0 0) []:=gS w B _ 1
theorem dF.blk (h:dF w B v l)(hk:∀ k,v.ownBlock=some k->w'.heap[k]?=w.heap[k]?):dF w' B v l:=aC h hk
theorem dF.below (h:dF w B v l)(hb:Below w.heap.size w w'):dF w' B v l:=h.blk fun k e=>hb.block k (fh h k e).2
theorem dF.rd (h:dF w B v l)(gw:∀ b,v.ownBlock=some b->ok b):ck aF 1 ok w [v] l:=by
 obtain ⟨h1,h2⟩:=h;rcases h2 with ⟨rfl,hn⟩ | ⟨g,cap,cur,rfl,hb,hg,vr,hcm,hcs,ht⟩
 ·exact Tci
 refine ⟨some ⟨g,0,none⟩,cap,rfl,vr,TcV,fun _=>⟨g,0,rfl,(Array.getElem?_eq_some_iff.1 hg).1,gw g rfl,fun i x hx=>⟨[.string x],rfl,rfl,fun j z hz=>?_⟩⟩⟩;have hil:i<l.length:=(List.getElem?_eq_some_iff.1 hx).1;have hc:(l.map Value.string)[i]?=some (Value.string x):=by simp [hx]
 match j,hz with
 | 0,hz =>
  obtain rfl:Value.string x=z:=by simpa using hz
  rw [<- ht,ri TcC] at hc;rw [cell_of_row w g (0+i*1+0) cur _ (0,0) hg];simpa using hc
theorem dF.mono {B':Nat}(h:dF w B v l)(hB:B'<=B):dF w B' v l:=by
 exact Tbz
theorem dz {ops:Array Oper}{rest:List Oper}{o:Oper}{a:Act}{Q:Exit->Act->World->Prop}(hgd:o.guard=none)(s x:Operand)
  (ho:o.op=.call { callee:=.builtin .append,args:=#[s,x],argTypes:=#[26,26] })
  (B:Nat) (v:Value) (l:List ByteArray) (p:ByteArray) (hs:a.eval s=v) (hown:dF w B v l) (g c:Nat) (hx:a.eval x=.slice (some g) 1 c)
  (hc:w.cell? g=some (.string p)) (hl:l.length<=100000000) (hB:B<=w.heap.size)
  (h:∀ v' w',dF w' B v' (l++[p])->Below B w w'->w.grownBy w' v.ownBlock->wpList prog ops Q rest (a.put o.dst v') w'):wpList prog ops Q (o :: rest) a w:=by
 obtain ⟨i0,hi,hz0,hz1,hz2⟩:=cy o5;refine tE w hgd s x 26 ho B 9 i0 _ 1 16 underlying26 hi hz0 hz1 hz2 rfl TcF v l.length (l.map Value.string) hs hown ⟨g,0,none⟩ 1 c [.string p] hx rfl (fun j u hu=>?_) TcQ TcN TcC hB (fun v' w' ho' hg _=>?_)
 ·rw [iz,eJ]
  match j,hu with
  | 0,hu =>
   obtain rfl:Value.string p=u:=by simpa using hu
   exact hc
 refine h v' w' ?_ ((bj B w).grown hg hB (fun k hk=>(fh hown k hk).1)) hg;unfold dF;rw [gl,cD];exact ho'
theorem Tca {p:Prop}(h:p:=by
 unfold eZ
 match eE:v.Gf,h1,hs with
 | [x],_,hs =>
  obtain rfl:x=s:=by simpa using hs
  rfl):p:=h
theorem Tb3 {p:Prop}(h:p:=by
 unfold eZ
 match eE:v.Gf with
 | [x]=>rw [eE] at h1;exact absurd rfl h1
 | []=>rfl
 | _ :: _ :: _=>rfl):p:=h
theorem Tco {p:Prop}(h:p:=by
 go_wp2;go_ret;exact ⟨rfl,HB.o⟩):p:=h
theorem kU (v:ay)(u:List Value)(w:World)(hv:aN ok w u v)(hl:v.Gf.length<=1000000000) :
  Calls prog 148 #[.agg u.toArray] w fun e w'=>e=.returned (.int .i64 (eZ v))/\Below w.heap.size w w':=by
 obtain ⟨tv,sv,rfl,ew,fL⟩:=hv;obtain ⟨tp,tc,rfl,_,_⟩:=ew.cap;obtain ⟨sp,sc,rfl,hsc1,hsc2⟩:=fL.cap;have HS:=aa fL;clear fL;have HB:=aa (ae w (.cells (Taf v tp tc sp sc) 68));by_cases h1:v.Gf.length=1
 ·obtain ⟨s,hs⟩:=aj v.Gf 0 TcC;have hk:eZ v=s.kind:=by
   exact Tca
  obtain ⟨b,off,us,rfl,_,cX,ez,eE,hcv⟩:=HS.o.elem hs;obtain ⟨a,st,rfl,_,_⟩:=eE;have c2:=(HB.o.cell (p:=⟨b,off+0*11+2,none⟩) cX).trans (hcv 2 _ rfl);rw [Nat.zero_mul,fg] at c2;clear hcv ez hs;rw [hk];clear hk;have hq:((v.Gf.length:Int) == 1)=true:=by rw [h1];rfl
  have h2:0<v.Gf.length:=by omega
  have H1:=aa h1;clear h1;go_enter func148,ntmps148;exact Tco
 have hk:eZ v=0:=by
  exact Tb3
 rw [hk];clear hk;have hq:((v.Gf.length:Int) == 1)=false:=by simp;omega
 go_enter func148,ntmps148;exact Tco
theorem CV (n d:Int)(w:World)(h0:0<=n)(h1:n<=1000000000000)(h2:1<=d)(h3:d<=1000000) :
  Calls prog 153 #[.int .i64 n,.int .i64 d] w fun e w'=>e=.returned (.int .i64 ((n+d - 1) / d))/\w=w':=by
 have hq0:0<=(n+d - 1) / d:=lz TcC TcC;have hq1:(n+d - 1) / d<=n+d - 1:=mS _ TcC;go_enter func153,ntmps153;go_wp2;go_ret;exact ⟨rfl,rfl⟩
def pV (a b:ByteArray)(e:Int):Bool:=e == 0&&a.toList == b.toList
theorem mJ (a b:ByteArray)(k:Int)(w:World) :
  Calls prog 182 #[.string a,.string b,.int .i64 k] w fun e w'=>e=.returned (.bool (pV a b k))/\w=w':=by
 go_enter func182,ntmps182
 by_cases h:k=0
 ·subst h;go_wp2;go_ret;exact ⟨ah (by simp [pV]),rfl⟩
 have h1:(k == 0)=false:=by simpa using h
 go_wp2;go_ret;exact ⟨ah (by simp [pV,h1]),rfl⟩
theorem di (n lo hi:Int)(used:Bool)(w:World) :
  Calls prog 178 #[.int .i64 n,.int .i64 lo,.int .i64 hi,.bool used] w fun e w'=>e=.returned (.bool (bE n lo hi used))/\w=w':=by
 go_enter func178,ntmps178;cases used with
 | true =>
  by_cases h1:lo<=n
  ·by_cases h2:n<=hi
   ·go_wp2;go_ret;exact ⟨ah (by simp [bE,h1,h2]),rfl⟩
   go_wp2;go_ret;exact ⟨ah (by simp [bE,h2]),rfl⟩
  go_wp2;go_ret;exact ⟨ah (by rw [bE,aw rfl,cN (by omega:¬ lo<=n)];rfl),rfl⟩
 | false =>
  go_wp2
  all_goals
   go_ret;exact ⟨ah (by simp [bE]),rfl⟩
theorem Be {α β:Type}(f:β->α->β)(b:β)(l:List α)(k:Nat)(x:α)(h:l[k]?=some x):(l.take (k+1)).foldl f b=f ((l.take k).foldl f b) x:=by
 rw [take_snoc' l k x h,List.foldl_append];rfl
theorem lT (n l:Int)(h0:0<=n):0<=fF n l/\fF n l<=1073741824:=by unfold fF;omega
theorem uZ:∀ (l:List aB) (n:Int),0<=n->n<=1073741824->0<=l.foldl (fun n s=>fF n s.length) n/\l.foldl (fun n s=>fF n s.length) n<=1073741824
 | [],n,h0,h1=>⟨h0,h1⟩
 | s :: l,n,h0,_=>uZ l _ (lT n s.length h0).1 (lT n s.length h0).2
theorem TdQ {p:Prop}(h:p:=by rw [HF.o];rfl):p:=h
theorem yz (v:ay)(u:List Value)(w:World)(hv:aN ok w u v)(hl:v.Gf.length<=1000000000) :
  Calls prog 151 #[.agg u.toArray] w fun e w'=>e=.returned (.int .i64 (C8 v))/\Below w.heap.size w w':=by
 obtain ⟨tv,sv,rfl,ew,fL⟩:=hv;obtain ⟨tp,tc,rfl,_,_⟩:=ew.cap;obtain ⟨sp,sc,rfl,hsc1,hsc2⟩:=fL.cap;have HS:=aa fL;clear fL;have HB:=aa (ae w (.cells (Taf v tp tc sp sc) 68));go_enter func151,ntmps151;go_wp2
 go_loopw [3,9] (fun n i wr=>∃ k:Nat,k<=v.Gf.length/\i=.int .i64 k/\n=.int .i64 ((v.Gf.take k).foldl (fun n s=>fF n s.length) 0)/\Below w.heap.size w wr) (fun _ i _=>v.Gf.length - (intOf i).toNat)
 exact ⟨0,cg _,rfl,rfl,HB.o⟩;obtain ⟨k,hk,rfl,rfl,hB⟩:=hrel;have pB:=uZ (v.Gf.take k) 0 TcC TcC;by_cases hlt:k<v.Gf.length
 ·obtain ⟨s,hs⟩:=aj v.Gf k hlt;obtain ⟨b,off,us,rfl,_,cX,ez,eE,hcv⟩:=HS.o.elem hs;obtain ⟨a,st,rfl,py,hst⟩:=eE;obtain ⟨ap,ac,rfl,_,_⟩:=py.cap;obtain ⟨eN,eR,rfl,_,_⟩:=hst.cap;have cT:wr.heap[b]?=w.heap[b]?:=hB.block b cX;obtain ⟨q0,q1,q2,q3,q4,q5,q6,q7,q8,q9,q10⟩:=ak5 cT hcv;have HF:=aa (Be (fun n s=>fF n (aB.length s)) 0 v.Gf k s hs);generalize (v.Gf.take k).foldl (fun n s=>fF n (aB.length s)) 0=m at *;clear hcv ez hs cT py hst;go_wp2;go_roundw;exact ⟨k+1,TcC,TcG,TdQ,hB.alloc hB.size _⟩;simp [intOf];omega
 obtain rfl:k=v.Gf.length:=by omega
 go_wp2;go_ret;exact ⟨cz (by rw [jz (bk _)];rfl),hB⟩
theorem zw (l:List aR)(k:Nat)(x:aR)(h:l[k]?=some x):((l.take (k+1)).filter (·.vol)).map (·.on)=((l.take k).filter (·.vol)).map (·.on)++if x.vol then [x.on] else []:=by
 rw [take_snoc' l k x h,List.filter_append,gl];cases hx:x.vol <;> simp [List.filter_cons,hx]
def Dx (B:Nat)(w:World)(l:List ByteArray)(e:Ending)(w':World):Prop:=∃ v,e=.returned v/\dF w' B v l/\Below w.heap.size w w'
theorem kN (s:aB)(pool:Bool)(u:List Value)(w:World)(hv:bC ok w u s)(hl:s.Ga.length<=1000000) :
  Calls prog 149 #[.agg u.toArray,.bool pool] w (Dx w.heap.size w (dD s pool)):=by
 obtain ⟨av,Oz,rfl,py,hst⟩:=hv;obtain ⟨ap,ac,rfl,aq0,aq1⟩:=py.cap;obtain ⟨eN,eR,rfl,_,_⟩:=hst.cap;have HA:=aa py;clear py hst;have HU:Hid (dD s pool=_):=aa (dD.eq_1 s pool);go_enter func149,ntmps149;go_wp2
 go_loopw [5,11] (fun l i wr=>∃ k:Nat,k<=s.Ga.length/\i=.int .i64 k/\dF wr (w.heap.size+1) l (((s.Ga.take k).filter (·.vol)).map (·.on))/\wr.heap[w.heap.size]?=some (.cells (Tae s ap ac eN eR) 114 (0,0))/\Below w.heap.size w wr) (fun _ i _=>s.Ga.length - (intOf i).toNat)
 exact ⟨0,cg _,rfl,dF.nil _ _,b9 w _,ae w _⟩;obtain ⟨k,hk,rfl,hown,PX,hB⟩:=hrel;have hwr:w.heap.size<wr.heap.size:=aq PX;by_cases hlt:k<s.Ga.length
 ·obtain ⟨x,hx⟩:=aj s.Ga k hlt;obtain ⟨b,off,us,rfl,_,cX,ez,eE,hcv⟩:=HA.o.elem hx;obtain rfl:us=_:=eE;have cT:wr.heap[b]?=w.heap[b]?:=hB.block b cX;obtain ⟨q0,q1,q2⟩:=Mn cT hcv;have HN:=aa (zw s.Ga k x hx);have hal:(((s.Ga.take k).filter (·.vol)).map (·.on)).length<=1000000:=by
   rw [fW];exact cA (tk _ _) (by rw [ey];omega)
  generalize ((s.Ga.take k).filter (·.vol)).map (·.on)=al at *;have Fc:=aa PX;clear PX;clear hcv ez hx cT;cases I2:x.vol with
  | false =>
   rw [I2] at q0;go_wp2;go_roundw;exact ⟨k+1,TcC,TcG,by rw [HN.o,I2];simp only [pj,fY,eM];exact hown.alloc _,(cj _ _ _ hwr).trans Fc.o,hB.alloc hB.size _⟩;simp [intOf];omega
  | true =>
   rw [I2] at q0;have NU:=((ae wr (.cells #[.bool true,.string x.on,.int .i64 x.start] 53)));have HOW:=aa hown;clear hown
   go_wp2_with (at_builtin;refine dz rfl _ _ rfl (w.heap.size+1) _ al x.on rfl ?c1 (wr.heap.size+1) 1 rfl ?c2 TcC ?c3 ?_)
   case c1=>exact (HOW.o.alloc _).alloc _
   case c2=>exact aD TcD rfl
   case c3=>simp;omega
   intro v' w1 hown1 hb1 hg1;have hB1:Below w.heap.size w w1:=((hB.alloc hB.size _).alloc TcH _).trans (hb1.mono TcC);have Vf:=aa ((hb1.block w.heap.size TcC).trans ((cj _ _ _ TcH).trans ((cj _ _ _ hwr).trans Fc.o)));clear hb1 hg1;go_wp2;go_roundw;exact ⟨k+1,TcC,TcG,by rw [HN.o,I2];exact hown1,Vf.o,hB1⟩;simp [intOf];omega
 obtain rfl:k=s.Ga.length:=by omega
 rw [jz (bk _)] at hown;have hal:((s.Ga.filter (·.vol)).map (·.on)).length<=1000000:=by
  rw [fW];exact cA (tk _ _) hl
 generalize (s.Ga.filter (·.vol)).map (·.on)=al at *;have y2:=cr PX 2 _ rfl;have y6:=cr PX 6 _ rfl;have y7:=cr PX 7 _ rfl;have Fc:=aa PX;clear PX;have HOW:=aa hown;clear hown;cases Fi:s.log.toList.isEmpty with
 | true =>
  have al3:(if s.log.toList.isEmpty then ([]:List ByteArray) else [s.log])=[]:=by rw [Fi];rfl
  have MR:=aa al3;clear al3;cases pool with
  | false =>
   have HE:Hid (dD s false=al):=aa (by rw [HU.o,MR.o];simp);clear HU;go_wp2;go_ret;exact ⟨_,rfl,by rw [HE.o];exact dF.mono HOW.o TcC,hB⟩
  | true =>
   by_cases hk:s.kind=6
   ·have HE:Hid (dD s true=al++[s.pool]):=aa (by rw [HU.o,MR.o,hk];simp);have Vg:(s.kind == 6)=true:=by simpa using hk
    have TL:=hB.size;clear HU;go_wp2_with (at_builtin;refine dz rfl _ _ rfl (w.heap.size+1) _ (al) s.pool rfl ?a1 wr.heap.size 1 rfl ?a2 ?a3 ?a4 ?_)
    case a1=>exact HOW.o.alloc _
    case a2=>exact aD rfl rfl
    case a3=>omega
    case a4=>simp;omega
    intro v' w9 hown9 hb9 _;have HO9:=aa hown9;clear hown9;have J1:=aa ((hB.alloc hB.size _).trans (hb9.mono TcC));clear hb9;go_wp2;go_ret;exact ⟨_,rfl,by rw [HE.o];exact dF.mono HO9.o TcC,J1.o⟩
   have HE:Hid (dD s true=al):=aa (by rw [HU.o,MR.o];simp [hk]);have Vg:(s.kind == 6)=false:=by simpa using hk
   clear HU;go_wp2;go_ret;exact ⟨_,rfl,by rw [HE.o];exact dF.mono HOW.o TcC,hB⟩
 | false =>
  have al3:(if s.log.toList.isEmpty then ([]:List ByteArray) else [s.log])=[s.log]:=by rw [Fi];rfl
  have MR:=aa al3;clear al3;go_wp2_with (at_builtin;refine dz rfl _ _ rfl (w.heap.size+1) _ al s.log rfl ?d1 wr.heap.size 1 rfl ?d2 TcC ?d3 ?_)
  case d1=>exact HOW.o.alloc _
  case d2=>exact aD rfl rfl
  case d3=>simp;omega
  intro v1 w1 hown1 hb1 _;have HO1:=aa hown1;clear hown1;have hB1:Below w.heap.size w w1:=(hB.alloc hB.size _).trans (hb1.mono TcC);have MS:=(hb1.block w.heap.size TcC).trans ((cj _ _ _ hwr).trans Fc.o);have y2:=cr MS 2 _ rfl;have y7:=cr MS 7 _ rfl;have hw1:w.heap.size<w1.heap.size:=aq MS;clear hb1 MS;cases pool with
  | false =>
   have HE:Hid (dD s false=(al++[s.log])):=aa (by rw [HU.o,MR.o];simp);clear HU;go_wp2;go_ret;exact ⟨_,rfl,by rw [HE.o];exact dF.mono HO1.o TcC,hB1⟩
  | true =>
   by_cases hk:s.kind=6
   ·have HE:Hid (dD s true=(al++[s.log])++[s.pool]):=aa (by rw [HU.o,MR.o,hk];simp);have Vg:(s.kind == 6)=true:=by simpa using hk
    have TL:=hB1.size;clear HU;go_wp2_with (at_builtin;refine dz rfl _ _ rfl (w.heap.size+1) _ ((al++[s.log])) s.pool rfl ?b1 w1.heap.size 1 rfl ?b2 ?b3 ?b4 ?_)
    case b1=>exact HO1.o.alloc _
    case b2=>exact aD rfl rfl
    case b3=>simp;omega
    case b4=>simp;omega
    intro v' w9 hown9 hb9 _;have HO9:=aa hown9;clear hown9;have J1:=aa ((hB1.alloc hB1.size _).trans (hb9.mono TcC));clear hb9;go_wp2;go_ret;exact ⟨_,rfl,by rw [HE.o];simp only [cV,List.cons_append,List.nil_append];exact dF.mono HO9.o TcC,J1.o⟩
   have HE:Hid (dD s true=(al++[s.log])):=aa (by rw [HU.o,MR.o];simp [hk]);have Vg:(s.kind == 6)=false:=by simpa using hk
   clear HU;go_wp2;go_ret;exact ⟨_,rfl,by rw [HE.o];exact dF.mono HO1.o TcC,hB1⟩
def dm (x:eX):List Value:=[.int .i64 x.least,.int .i64 x.greatest,.bool x.F9,.bool x.several,.int .i64 x.chunk,.bool x.stale,.bool x.pool,.bool x.log,.bool x.mode,.bool x.done]
def TaF (x0:eX):Tab #[.int .i64 x0.least,.int .i64 x0.greatest,.bool x0.F9,.bool x0.several,.int .i64 x0.chunk,.bool false,.bool x0.pool,.bool x0.log,.bool x0.mode,.bool x0.done]:=⟨⟩
def TaG (x0:eX):Tab #[.int .i64 x0.least,.int .i64 x0.greatest,.bool x0.F9,.bool x0.several,.int .i64 x0.chunk,.bool true,.bool x0.pool,.bool x0.log,.bool x0.mode,.bool x0.done]:=⟨⟩
theorem Tdq {p:Prop}(h:p:=by have:=List.mem_range.1 hj;omega):p:=h
theorem TeT {p:Prop}(h:p:=by rw [G1.o,cN (show ¬ 0<=n by omega)];simp):p:=h
theorem TeS {p:Prop}(h:p:=by rw [G1.o,cN (show ¬ n<(e:Int) by omega)];simp):p:=h
theorem TeE {p:Prop}(h:p:=by rw [G1.o,cN (show ¬ k=0 by omega),cN (show ¬ m<n by omega)];simp):p:=h
theorem TeR {p:Prop}(h:p:=by rw [G1.o,eA (show k=0 by omega)];simp [h0,h1]):p:=h
theorem TcZ {p:Prop}(h:p:=by simp [h]):p:=h
theorem Teb {p:Prop}(h:p:=by rw [he,Fi];simp):p:=h
theorem xY (s:aB)(x:eX)(u:List Value)(w:World)(hv:bC ok w u s)(ha:s.Ga.length<=1000000)(hl:s.stale.length<=1000000) :
  Calls prog 180 #[.agg u.toArray,.agg (dm x).toArray] w fun e w'=>e=.returned (.bool (dP s x))/\Below w.heap.size w w':=by
 unfold dm;obtain ⟨av,Oz,rfl,py,hst⟩:=hv;obtain ⟨ap,ac,rfl,aq0,aq1⟩:=py.cap;obtain ⟨eN,eR,rfl,hsc1,hsc2⟩:=hst.cap;have HA:=aa hst;clear py hst;have HM:Hid (dP s x=_):=aa (dP.eq_1 s x);obtain ⟨e,he,Vh⟩:∃ e:Nat,(e:Int)=(s.Ga.length+if s.log.toList.isEmpty then 0 else 1:Int)/\e<=1000001:=by
  cases s.log.toList.isEmpty
  ·exact ⟨s.Ga.length+1,TcD,TcC⟩
  exact ⟨s.Ga.length,TcD,TcC⟩
 rw [<- he] at HM;cases hst:x.stale with
 | true =>
  rw [hst] at HM;clear hst;have cm:=aa ((ae w (.cells (Tae s ap ac eN eR) 114)).trans ((ae (w.alloc (.cells (Tae s ap ac eN eR) 114)) (.cells (TaG x) 192)).mono (ae w (.cells (Tae s ap ac eN eR) 114)).size));have x5:((w.alloc (.cells (Tae s ap ac eN eR) 114)).alloc (.cells (TaG x) 192)).cell? (Tac (w.heap.size+1) 5)=some (.bool true):=aD TcD rfl;have s5:((w.alloc (.cells (Tae s ap ac eN eR) 114)).alloc (.cells (TaG x) 192)).cell? (Tac w.heap.size 5)=some (.slice eN s.stale.length eR):=(cd (a:=⟨w.heap.size,5,none⟩) (cj _ _ _ TcD)).trans (aD rfl rfl);cases Fi:s.log.toList.isEmpty with
  | true =>
   have he1:Hid ((e:Int)=(s.Ga.length:Int)):=aa Teb;clear he;go_enter func180,ntmps180;go_wp2;generalize hW:World.alloc (World.alloc w _) _=W at *;have HW:=aa hW;clear hW
   go_loop [19,6,7] (fun i _ _=>∃ k:Nat,k<=s.stale.length/\i=.int .i64 k/\∀ j,j<k->bR true e s.stale j=true) (fun i _ _=>s.stale.length - (intOf i).toNat)
   exact ⟨0,cg _,rfl,fun j hj=>by omega⟩;obtain ⟨k,hk,rfl,hall⟩:=hrel;have cE:=aa hall;clear hall;by_cases hlt:k<s.stale.length
   ·obtain ⟨n,hn⟩:=aj s.stale k hlt;obtain ⟨b,off,us,rfl,_,cX,ez,eE,hcv⟩:=HA.o.elem hn;obtain rfl:us=_:=eE;have q0:=(cm.o.cell (p:=⟨b,off+k*1+0,none⟩) cX).trans (hcv 0 _ rfl);rw [fp,fg] at q0;have hgk:s.stale.getD k 0=n:=by simp [hn]
    have bad:Hid (bR true e s.stale k=false->dP s x=false):=aa fun h=>by
     rw [HM.o,lr];exact ⟨k,List.mem_range.2 hlt,TcZ⟩
    have good:Hid (bR true e s.stale k=true->∀ j,j<k+1->bR true e s.stale j=true):=aa fun h j hj=>by
     by_cases hjk:j=k
     ·exact hjk ▸ h
     exact cE.o j TcC
    have G1:Hid (bR true e s.stale k=_):=aa (bR.eq_1 true e s.stale k);rw [hgk] at G1;clear hgk hcv ez hn;by_cases h0:0<=n
    ·by_cases h1:n<e
     ·have h1':n<(s.Ga.length:Int):=by have:=he1.o;omega
      by_cases hk0:k<1
      ·have j9:Hid (bR true e s.stale k=true):=aa TeR;go_wp2;go_round;exact ⟨k+1,TcC,TcG,good.o j9.o⟩;simp [intOf];omega
      obtain ⟨m,hm⟩:=aj s.stale (k - 1) TcC;obtain ⟨b',off',us',e',_,ak8,TE,Tv,hcv'⟩:=HA.o.elem hm;obtain rfl:us'=_:=Tv;injection e' with e';injection e' with eb eo;subst eb;subst eo;have q1:=(cm.o.cell (p:=⟨b,off+(k - 1)*1+0,none⟩) cX).trans (hcv' 0 _ rfl);rw [fp,fg] at q1;have hgm:s.stale.getD (k - 1) 0=m:=by simp [hm]
      rw [hgm] at G1;clear hgm hcv' TE ak8 hm;by_cases h2:m<n
      ·have j9:Hid (bR true e s.stale k=true):=aa (by rw [G1.o];simp [h0,h1,h2]);go_wp2;go_round;exact ⟨k+1,TcC,TcG,good.o j9.o⟩;simp [intOf];omega
      go_wp2;go_ret;exact ⟨ah (bad.o TeE).symm,cm.o⟩
     have h1':¬ n<(s.Ga.length:Int):=by have:=he1.o;omega
     go_wp2;go_ret;exact ⟨ah (bad.o TeS).symm,cm.o⟩
    go_wp2;go_ret;exact ⟨ah (bad.o TeT).symm,cm.o⟩
   go_wp2;go_ret;refine ⟨ah (Eq.symm ?_),cm.o⟩;rw [HM.o,eL];exact fun j hj=>cE.o j Tdq
  | false =>
   have he1:Hid ((e:Int)=(s.Ga.length:Int)+1):=aa Teb;clear he;go_enter func180,ntmps180;go_wp2;generalize hW:World.alloc (World.alloc w _) _=W at *;have HW:=aa hW;clear hW
   go_loop [19,6,7] (fun i _ _=>∃ k:Nat,k<=s.stale.length/\i=.int .i64 k/\∀ j,j<k->bR true e s.stale j=true) (fun i _ _=>s.stale.length - (intOf i).toNat)
   exact ⟨0,cg _,rfl,fun j hj=>by omega⟩;obtain ⟨k,hk,rfl,hall⟩:=hrel;have cE:=aa hall;clear hall;by_cases hlt:k<s.stale.length
   ·obtain ⟨n,hn⟩:=aj s.stale k hlt;obtain ⟨b,off,us,rfl,_,cX,ez,eE,hcv⟩:=HA.o.elem hn;obtain rfl:us=_:=eE;have q0:=(cm.o.cell (p:=⟨b,off+k*1+0,none⟩) cX).trans (hcv 0 _ rfl);rw [fp,fg] at q0;have hgk:s.stale.getD k 0=n:=by simp [hn]
    have bad:Hid (bR true e s.stale k=false->dP s x=false):=aa fun h=>by
     rw [HM.o,lr];exact ⟨k,List.mem_range.2 hlt,TcZ⟩
    have good:Hid (bR true e s.stale k=true->∀ j,j<k+1->bR true e s.stale j=true):=aa fun h j hj=>by
     by_cases hjk:j=k
     ·exact hjk ▸ h
     exact cE.o j TcC
    have G1:Hid (bR true e s.stale k=_):=aa (bR.eq_1 true e s.stale k);rw [hgk] at G1;clear hgk hcv ez hn;by_cases h0:0<=n
    ·by_cases h1:n<e
     ·have h1':n<(s.Ga.length:Int)+1:=by have:=he1.o;omega
      by_cases hk0:k<1
      ·have j9:Hid (bR true e s.stale k=true):=aa TeR;go_wp2;go_round;exact ⟨k+1,TcC,TcG,good.o j9.o⟩;simp [intOf];omega
      obtain ⟨m,hm⟩:=aj s.stale (k - 1) TcC;obtain ⟨b',off',us',e',_,ak8,TE,Tv,hcv'⟩:=HA.o.elem hm;obtain rfl:us'=_:=Tv;injection e' with e';injection e' with eb eo;subst eb;subst eo;have q1:=(cm.o.cell (p:=⟨b,off+(k - 1)*1+0,none⟩) cX).trans (hcv' 0 _ rfl);rw [fp,fg] at q1;have hgm:s.stale.getD (k - 1) 0=m:=by simp [hm]
      rw [hgm] at G1;clear hgm hcv' TE ak8 hm;by_cases h2:m<n
      ·have j9:Hid (bR true e s.stale k=true):=aa (by rw [G1.o];simp [h0,h1,h2]);go_wp2;go_round;exact ⟨k+1,TcC,TcG,good.o j9.o⟩;simp [intOf];omega
      go_wp2;go_ret;exact ⟨ah (bad.o TeE).symm,cm.o⟩
     have h1':¬ n<(s.Ga.length:Int)+1:=by have:=he1.o;omega
     go_wp2;go_ret;exact ⟨ah (bad.o TeS).symm,cm.o⟩
    go_wp2;go_ret;exact ⟨ah (bad.o TeT).symm,cm.o⟩
   go_wp2;go_ret;refine ⟨ah (Eq.symm ?_),cm.o⟩;rw [HM.o,eL];exact fun j hj=>cE.o j Tdq
 | false =>
  rw [hst] at HM;clear hst;have cm:=aa ((ae w (.cells (Tae s ap ac eN eR) 114)).trans ((ae (w.alloc (.cells (Tae s ap ac eN eR) 114)) (.cells (TaF x) 192)).mono (ae w (.cells (Tae s ap ac eN eR) 114)).size));have x5:((w.alloc (.cells (Tae s ap ac eN eR) 114)).alloc (.cells (TaF x) 192)).cell? (Tac (w.heap.size+1) 5)=some (.bool false):=aD TcD rfl;have s5:((w.alloc (.cells (Tae s ap ac eN eR) 114)).alloc (.cells (TaF x) 192)).cell? (Tac w.heap.size 5)=some (.slice eN s.stale.length eR):=(cd (a:=⟨w.heap.size,5,none⟩) (cj _ _ _ TcD)).trans (aD rfl rfl);cases Fi:s.log.toList.isEmpty with
  | true =>
   have he1:Hid ((e:Int)=(s.Ga.length:Int)):=aa Teb;clear he;go_enter func180,ntmps180;go_wp2;generalize hW:World.alloc (World.alloc w _) _=W at *;have HW:=aa hW;clear hW
   go_loop [19,6,7] (fun i _ _=>∃ k:Nat,k<=s.stale.length/\i=.int .i64 k/\∀ j,j<k->bR false e s.stale j=true) (fun i _ _=>s.stale.length - (intOf i).toNat)
   exact ⟨0,cg _,rfl,fun j hj=>by omega⟩;obtain ⟨k,hk,rfl,hall⟩:=hrel;have cE:=aa hall;clear hall;by_cases hlt:k<s.stale.length
   ·obtain ⟨n,hn⟩:=aj s.stale k hlt;obtain ⟨b,off,us,rfl,_,cX,ez,eE,hcv⟩:=HA.o.elem hn;obtain rfl:us=_:=eE;have q0:=(cm.o.cell (p:=⟨b,off+k*1+0,none⟩) cX).trans (hcv 0 _ rfl);rw [fp,fg] at q0;have hgk:s.stale.getD k 0=n:=by simp [hn]
    have bad:Hid (bR false e s.stale k=false->dP s x=false):=aa fun h=>by
     rw [HM.o,lr];exact ⟨k,List.mem_range.2 hlt,TcZ⟩
    have good:Hid (bR false e s.stale k=true->∀ j,j<k+1->bR false e s.stale j=true):=aa fun h j hj=>by
     by_cases hjk:j=k
     ·exact hjk ▸ h
     exact cE.o j TcC
    have G1:Hid (bR false e s.stale k=_):=aa (bR.eq_1 false e s.stale k);rw [hgk] at G1;clear hgk hcv ez hn;go_wp2;go_ret;exact ⟨ah (bad.o (by rw [G1.o];simp)).symm,cm.o⟩
   go_wp2;go_ret;refine ⟨ah (Eq.symm ?_),cm.o⟩;rw [HM.o,eL];exact fun j hj=>cE.o j Tdq
  | false =>
   have he1:Hid ((e:Int)=(s.Ga.length:Int)+1):=aa Teb;clear he;go_enter func180,ntmps180;go_wp2;generalize hW:World.alloc (World.alloc w _) _=W at *;have HW:=aa hW;clear hW
   go_loop [19,6,7] (fun i _ _=>∃ k:Nat,k<=s.stale.length/\i=.int .i64 k/\∀ j,j<k->bR false e s.stale j=true) (fun i _ _=>s.stale.length - (intOf i).toNat)
   exact ⟨0,cg _,rfl,fun j hj=>by omega⟩;obtain ⟨k,hk,rfl,hall⟩:=hrel;have cE:=aa hall;clear hall;by_cases hlt:k<s.stale.length
   ·obtain ⟨n,hn⟩:=aj s.stale k hlt;obtain ⟨b,off,us,rfl,_,cX,ez,eE,hcv⟩:=HA.o.elem hn;obtain rfl:us=_:=eE;have q0:=(cm.o.cell (p:=⟨b,off+k*1+0,none⟩) cX).trans (hcv 0 _ rfl);rw [fp,fg] at q0;have hgk:s.stale.getD k 0=n:=by simp [hn]
    have bad:Hid (bR false e s.stale k=false->dP s x=false):=aa fun h=>by
     rw [HM.o,lr];exact ⟨k,List.mem_range.2 hlt,TcZ⟩
    have good:Hid (bR false e s.stale k=true->∀ j,j<k+1->bR false e s.stale j=true):=aa fun h j hj=>by
     by_cases hjk:j=k
     ·exact hjk ▸ h
     exact cE.o j TcC
    have G1:Hid (bR false e s.stale k=_):=aa (bR.eq_1 false e s.stale k);rw [hgk] at G1;clear hgk hcv ez hn;go_wp2;go_ret;exact ⟨ah (bad.o (by rw [G1.o];simp)).symm,cm.o⟩
   go_wp2;go_ret;refine ⟨ah (Eq.symm ?_),cm.o⟩;rw [HM.o,eL];exact fun j hj=>cE.o j Tdq
noncomputable def Ai (f:Func)(n:Nat):Code:=((f.body.bind (kX n)).getD .skip)
structure bN where
 tp:Option Addr
 tc:Nat
 dp:Option Addr
 dc:Nat
 vp:Option Addr
 vc:Nat
 hp:Option Addr
 hc:Nat
def uY (g:af)(a:bN):List Value:=[.string g.name,.int .u64 g.id,.int .i64 g.seq,.int .i64 g.Gd,.int .i64 g.next,.slice a.tp g.tags.length a.tc,.slice a.dp g.Gb.length a.dc,.slice a.vp g.F9.length a.vc,.slice a.hp g.history.length a.hc]
structure aY where
 Gi:Int
 Gh:Int
 Gc:Int
 Gg:Int
 tag:ByteArray
 near:ByteArray
 sep:ByteArray
structure dK (r:aY):Prop where
 l:-9223372036854775808<=r.Gi/\r.Gi<=9223372036854775807
 s:-9223372036854775808<=r.Gh/\r.Gh<=9223372036854775807
 e:-9223372036854775808<=r.Gc/\r.Gc<=9223372036854775807
 p:-9223372036854775808<=r.Gg/\r.Gg<=9223372036854775807
 t:r.tag.size<=9223372036854775807
 n:r.near.size<=9223372036854775807
 q:r.sep.size<=9223372036854775807
def FR (l:List ByteArray)(b:Nat)(w:World)(e:Ending)(w':World):Prop:=∃ v:ByteArray,e=.returned (.string v)/\v∈l/\Src w' b/\cR (fun i=>i=b) w w'
theorem qH (b cap:Nat)(p:Option Addr)(l:List ByteArray)(w:World)(h0:0<l.length)(h1:l.length<=1000)(hr:ck aF 1 (fun k=>k≠b) w [.slice p l.length cap] l)(h:Src w b) :
  Calls prog 23 #[.pointer (some b),.slice p l.length cap] w (FR l b w):=by
 have HR:=aa hr;obtain ⟨p',c',e,hc1,hc2⟩:=hr.cap;injection e with e1 _ e3;subst e1;subst e3;clear hr;go_enter func23,ntmps23
 go_wp2_with fail;refine (bY b _ _ TcC TcC h).mono ?_;rintro e w1 ⟨v,rfl,hv1,hv2,hs,hm⟩;obtain ⟨k,rfl⟩:=D4 hv1;obtain ⟨x,hx⟩:=aj l k TcC;obtain ⟨g,off,u,rfl,hgb,hg,_,hv,hcv⟩:=HR.o.elem hx;obtain rfl:u=[.string x]:=hv;have OI:w1.cell? (g,off+k*1)=some (.string x):=by
  rw [hm.cell hg hgb];simpa using hcv 0 _ rfl
 rw [fp] at OI;have HX:=aa hx;clear hx hcv;have hkl:k<l.length:=by omega
 go_wp2;go_ret;exact ⟨x,rfl,ct HX.o,hs,hm⟩
end Go.Proofs.YtaagglbgohjldaaGreatDoor
