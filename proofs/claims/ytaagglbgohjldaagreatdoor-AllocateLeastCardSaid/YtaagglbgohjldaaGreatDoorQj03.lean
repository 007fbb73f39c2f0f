/- Lemmas: SpE, MkRa, MkRb, MkR, MkN, MkPa, MkPb. -/
import Derived.Test.YtaagglbgohjldaaGreatDoorQj02
set_option maxRecDepth 100000
set_option maxHeartbeats 32000000
set_option linter.all false
open Array renaming getElem?_eq_some_iff→DS
open List renaming range→FF,replicate→DE,mem_append→AS
open Go.World renaming alloc→AI,cell?→AN,frozen?→BT,setCell→AF
open Go.Value renaming oneCell'→GS,string→Cd
namespace Go.Proofs.YtaagglbgohjldaaGreatDoor
open Go.Proofs.Tryz
open Go.RowKit Go.Shelf
variable {nm:ByteArray}{x:gy}{ps:List gy}
attribute [local go_sem] Oper.semAt_some
def fM(nm:ByteArray)(ext:Int)(ps:List gy):List (Int × Int):=ps.filterMap fun p=>if p.disk=nm/\0<=p.start/\p.start<ext/\0<p.len then some (p.start,min p.len (ext-p.start)) else none
def Mw{ext:Int}(ps:List gy)(h:x.disk=nm/\0<=x.start/\x.start<ext/\0<x.len):fM nm ext (ps++[x])=fM nm ext ps++[(x.start,min x.len (ext-x.start))]:=by
 simp[fM,E0,h]
def jO{ext:Int}(ps:List gy)(h:¬(x.disk=nm/\0<=x.start/\x.start<ext/\0<x.len)):fM nm ext (ps++[x])=fM nm ext ps:=by
 unfold fM;rw[E0,List.filterMap_cons,bh h];simp
def nR(nm:ByteArray)(ext:Int)(ps:List gy):(fM nm ext ps).length<=ps.length:=List.length_filterMap_le _ _
def DF{ext:Int}:∀p∈fM nm ext ps,0<=p.1/\0<p.2/\p.1+p.2<=ext:=by
 intro p hp;unfold fM at hp;obtain⟨x,_,hx⟩:=List.mem_filterMap.1 hp;by_cases c:x.disk=nm/\0<=x.start/\x.start<ext/\0<x.len
 ·rw[aw c]at hx;injection hx with hx;subst hx;dsimp only;omega
 rw[bh c]at hx
 cases hx
def uI{ext:Int}(h:ext<=1000000):dI (fM nm ext ps)=true:=by
 unfold dI;rw[eL];intro p hp;have:=DF p hp;simp[nT];omega
def xG(Gb:List az)(F9:List ay)(nm:ByteArray)(w:World)(e:Ending)(w':World):Prop :=
 match bH Gb nm with
 |none=>e=.returned (.tuple #[.slice none 0 0,.int .i64 12])/\Below w.1.size w w'
 |some D=>zz w (Mem (fM nm D.Gc (pieces F9))) (fM nm D.Gc (pieces F9)).length e w'
def Teg{p:Prop}(h:p:=by simp only[cW];omega):p:=h
def CG{ok:Nat->Prop}(name:ByteArray)(id seq ext nx:Int)(tp dp vp hp:Option Addr)(tl tc dc vc hl hc:Nat)(Gb:List az)(F9:List ay)(nm:ByteArray)(w:World)(hr:ck aO 7 ok w [.slice dp Gb.length dc] Gb)(hd:Gb.length<=1000)(Sl:∀D∈Gb,D.tags.length<=1000)(vu:∀D∈Gb,0<=D.Gc/\D.Gc<=1000000)
  (hv:ck aN 6 ok w [.slice vp F9.length vc] F9) (mb:F9.length<=1000) (ht:qx F9) (CH:∀p∈pieces F9,0<=p.start/\p.start<=1000000) (aS:(pieces F9).length<=100000) :
  Calls prog 69 #[.agg (Tao name id seq ext nx tl tp tc Gb.length dp dc F9.length vp vc hl hp hc),.string nm] w (xG Gb F9 nm w):=by
 refine callsIn_wide (n:=3) |>.1 ?_;refine callsIn_of_wp_marks func69 rfl trivial ?_ rfl;simp only[ntmps69,List.size_toArray,cS,Ox,Nat.reduceAdd,Nat.reduceSub,Array.replicate_succ,Array.replicate_zero,List.push_toArray,List.append_toArray,List.nil_append,List.cons_append];refine wpIn_wide.2 ?_;have a8:Below w.1.size w ((w.alloc (.cells (Tao name id seq ext nx tl tp tc Gb.length dp dc F9.length vp vc hl hp hc) 31)).alloc (.cells #[nm] 9)):=((bj _ _).alloc (bk _) _).alloc Tc2 _;have RC:((w.alloc (.cells (Tao name id seq ext nx tl tp tc Gb.length dp dc F9.length vp vc hl hp hc) 31)).alloc (.cells #[nm] 9)).1.size=w.1.size+2:=by simp
 have ab:((w.alloc (.cells (Tao name id seq ext nx tl tp tc Gb.length dp dc F9.length vp vc hl hp hc) 31)).alloc (.cells #[nm] 9)).1[w.1.size]?=some (.cells (Tao name id seq ext nx tl tp tc Gb.length dp dc F9.length vp vc hl hp hc) 31 (0,0)):=(cj _ _ _ Tc2).trans (b9 w _);have hn2:((w.alloc (.cells (Tao name id seq ext nx tl tp tc Gb.length dp dc F9.length vp vc hl hp hc) 31)).alloc (.cells #[nm] 9)).1[w.1.size+1]?=some (.cells #[nm] 9 (0,0)):=by
  have:=b9 (w.alloc (.cells (Tao name id seq ext nx tl tp tc Gb.length dp dc F9.length vp vc hl hp hc) 31)) (.cells #[nm] 9);rw[cW]at this;exact this
 replace hr:=aa hr;replace hv:=aa hv;replace ht:=aa ht;replace Sl:=aa Sl;replace vu:=aa vu;replace CH:=aa CH;replace ab:=aa ab;replace hn2:=aa hn2;replace a8:=aa a8;replace RC:=aa RC;go_wp2_with fail;generalize aB:AI (AI w _) _=W2 at *;clear aB;refine(vV (ok:=ok) name id seq ext nx tp dp vp hp tl tc dc F9.length vc hl hc Gb nm W2 ((ck.moves aO.moves).mv ⟨a8.o.size,fun b hb ho=>⟨ho,a8.o.block b hb⟩⟩ hr.o) hd Sl.o).mono ?_;rintro e w3 ⟨hb3,hm⟩;have af:=(hb3.block _ (aq ab.o)).trans ab.o;have ag:=(hb3.block _ (aq hn2.o)).trans hn2.o;have cJ:=Zbl a8 hb3;have aT:w.1.size+2<=w3.1.size:=by have:=hb3.size;have:=RC.o;omega
 clear hb3;unfold xG;cases hf:bH Gb nm with
 |none =>
  rw[hf]at hm;obtain rfl:=hm;clear af ag;have TF:=aa (cJ.o.trans ((ae w3 (.cells Tam 51)).mono cJ.o.size));go_wp2;exact⟨.tuple #[.slice none 0 0,.int .i64 12],by simp[results,Tryz.results69,go_sem],by unfold xG;rw[hf];exact⟨rfl,TF.o⟩⟩
 |some D =>
  rw[hf]at hm;obtain⟨p3,n3,c3,rfl⟩:=hm;have ah:Below w3.1.size w3 ((w3.alloc (.cells (Tas D n3 p3 c3) 51)).alloc (.cells #[.slice none 0 0] 43)):=((bj _ _).alloc (bk _) _).alloc Tc2 _;have ai:((w3.alloc (.cells (Tas D n3 p3 c3) 51)).alloc (.cells #[.slice none 0 0] 43)).1.size=w3.1.size+2:=by simp
  have ao:((w3.alloc (.cells (Tas D n3 p3 c3) 51)).alloc (.cells #[.slice none 0 0] 43)).1[w3.1.size]?=some (.cells (Tas D n3 p3 c3) 51 (0,0)):=(cj _ _ _ Tc2).trans (b9 w3 _);have au:((w3.alloc (.cells (Tas D n3 p3 c3) 51)).alloc (.cells #[.slice none 0 0] 43)).1[w3.1.size+1]?=some (.cells #[.slice none 0 0] 43 (0,0)):=by
   have:=b9 (w3.alloc (.cells (Tas D n3 p3 c3) 51)) (.cells #[.slice none 0 0] 43);rw[cW]at this;exact this
  have av:=(ah.block _ (aq af)).trans af;have aw:=aa ((ah.block _ (aq ag)).trans ag);have YQ:=cr av;obtain⟨y0,y1,y2,y3,y4,y5,y6,y7,y8⟩:=xr YQ;have eI:=Zbl cJ ah;have aA:=aa ao;have WC:=aa au;replace ai:=aa ai;clear YQ ah ao au av af ag;go_wp2_with fail;clear y0 y1 y2 y3 y4 y5 y6 y7 y8;generalize aE:AI (AI w3 _) _=W4 at *;clear aE;refine(Ew name id seq ext nx tp dp vp hp tl tc Gb.length dc F9.length vc hl hc W4).mono ?_;rintro e w5 ⟨rfl,rfl⟩;have hb5:=ae W4 (.cells (Tao name id seq ext nx tl tp tc Gb.length dp dc F9.length vp vc hl hp hc) 31);have aF:=aa (b9 W4 (.cells (Tao name id seq ext nx tl tp tc Gb.length dp dc F9.length vp vc hl hp hc) 31));have aG:=Zbk hb5 aA;have aH:=Zbk hb5 WC;have QS:=Zbk hb5 aw;have eK:=Zbl eI hb5;have aI:Hid (W4.1.size<(W4.alloc (.cells (Tao name id seq ext nx tl tp tc Gb.length dp dc F9.length vp vc hl hp hc) 31)).1.size):=aa Tc2;have Sm:=vu.o D (eV hf);clear hb5;go_wp2;generalize aJ:AI W4 _=W5 at *;have aK:=ai.o;generalize aL:W4.1.size=Bg at *;generalize aM:w3.1.size=Bd at *;generalize aU:W5.1.size=B1 at *;clear aJ aA WC aw eI ai;have aV:=aI.o;have aW:Bd+2<=Bg:=by omega
  clear aK aM aL;refine(wpIn_wide (n:=3)).1 ?_;refine wpIn_rangeFunc_ownH (F:=Fence.wide) rfl Tc1 (gf:=161) (lb:=#[.pointer (some Bg)]) rfl trivial (enters_of func161 Tc3 rfl)
   (zh (3-1) w.1.size Bg W5 vp vc F9 (by simp[AN,aF.o]) Tc1 Tc1 ((ck.moves aN.moves).mv ⟨eK.o.size,fun b hb ho=>⟨hb,eK.o.block b hb⟩⟩ hv.o) ht.o mb) KpT.trans
   (fun W l o o' hl h h1 h2=>⟨belowK_b (w:=W5) Tc1 W l o o' hl h h1 h2,fun k cs t z e _=>(grownBy_putObj' W l o').block k (aq e) (fun q=>by injection q with q;subst q;rw[e]at h;injection h with h;subst h;cases h1)⟩) (bj _ _) (fun _=>rfl)
   (fun pre W=>∃v,W.1[Bd+1]?=some (.cells #[v] 43 (0,0))/\bM W B1 v (fM nm D.Gc pre)/\W.1[Bd]?=some (.cells (Tas D n3 p3 c3) 51 (0,0))/\W.1[w.1.size+1]?=some (.cells #[nm] 9 (0,0))/\Below w.1.size w W/\B1<=W.1.size)
   (fun _ _ _=>False) ?own (fun _ _ _ _ _ h _ _=>h) ?init
   (fun x a' W=>∃Bx,W.1[Bx]?=some (.cells (TaR x) 171 (0,0))/\B1<=Bx/\a'=⟨#[.agg (Tao name id seq ext nx tl tp tc Gb.length dp dc F9.length vp vc hl hp hc),.string nm,.pointer (some w.1.size),.pointer (some (Tac (w.1.size+1) 0)),.slice none 0 0,.int .i64 0,.pointer (some Bd),.bool true,.pointer (some (Tac (Bd+1) 0)),.pointer (some ⟨Bx,0,none⟩),.tuple #[.agg (Tas D n3 p3 c3),true],.agg (Tao name id seq ext nx tl tp tc Gb.length dp dc F9.length vp vc hl hp hc),.string nm,.tuple #[.agg (Tas D n3 p3 c3),true],.agg (Tas D n3 p3 c3),.bool true,.bool true,.bool false,.agg (Tao name id seq ext nx tl tp tc Gb.length dp dc F9.length vp vc hl hp hc),.func (.func 161) #[] #[.pointer (some Bg)],.agg (TaR x),undef,undef,undef,undef,undef,undef,undef,undef,undef,undef,undef,undef,undef,undef,undef,undef,undef,undef,undef,undef,undef,undef,undef,undef,undef,undef,undef,undef,undef,undef,undef,undef,undef,undef,undef,undef,undef,undef,undef],[]⟩) ?ax ?assign ?body ?done ?stop
  case own =>
   rintro pre W W' row ⟨v,h1,h2,h3,h4,h5,h6⟩ hg hr;exact⟨v,xu hg hr h1,keepR hg hr h2,xu hg hr h3,xu hg hr h4,h5.grown hg h5.size (fun k e=>by have:=(hr k e).1;omega),cA h6 hg.size⟩
  case init=>exact⟨.slice none 0 0,aH.o,bM.nil _ _,aG.o,QS.o,eK.o,Tc1⟩
  case ax =>
   rintro x a' _ W W' row ⟨Bx,h1,h2,h3⟩ hg hr;exact⟨Bx,xu hg hr h1,h2,h3⟩
  case assign =>
   rintro l pre x W K ⟨v,h1,h2,h3,h4,h5,h6⟩ hK;have HI:=aa (⟨h1,h2,h3,h4,h5,h6⟩:_/\_/\_/\_/\_/\_);clear h1 h2 h3 h4 h5;have HK:=aa hK;clear hK;simp only[FN,List.zip_toArray,List.zip_cons_cons,List.zip_nil_right,List.foldl_toArray,cF,cq,xT,List.set_cons_succ,List.set_cons_zero];gi_wp2
   have hI:=HI.o;have PX:=ae W (.cells (TaR x) 171);refine HK.o _ _ ((KeepsOthers.alloc _ _).from _) (KpT.of_below PX hI.2.2.2.2.1.size) ⟨v,(PX.block _ (aq hI.1)).trans hI.1,World.ownsRow.alloc hI.2.1 _,(PX.block _ (aq hI.2.2.1)).trans hI.2.2.1,(PX.block _ (aq hI.2.2.2.1)).trans hI.2.2.2.1,hI.2.2.2.2.1.alloc hI.2.2.2.2.1.size _,cA h6 PX.size⟩ ⟨W.1.size,b9 W _,h6,rfl⟩
  case body =>
   rintro l pre x a' W hl ⟨r,hr⟩ ⟨v,h1,h2,h3,h4,h5,h6⟩ ⟨Bx,hx,hBx,rfl⟩ hlt;clear hr r;have x1:=cr hx 1 _ rfl;have x2:=cr hx 2 _ rfl;have x3:=cr hx 3 _ rfl;have d3:=cr h3 3 _ rfl;have n0:=cr h4 0 _ rfl;have l0:=cr h1 0 _ rfl;have mA:=h5.size;have HI:=aa (⟨h1,h2,h3,h4,h5⟩:_/\_/\_/\_/\_);clear h1 h2 h3 h4 h5 hx;by_cases c1:x.disk=nm
   ·have e1:(x.disk.toList==nm.toList)=true:=by rw[c1];simp
    by_cases c2:0<=x.start
    ·by_cases c3:x.start<D.Gc
     ·by_cases c4:0<x.len
      ·have HC:=aa (Mw (ext:=D.Gc) pre ⟨c1,c2,c3,c4⟩);have aX:=Sm.1;have aY:=Sm.2;have hw:IntKind.i64.wrap (D.Gc-x.start)=D.Gc-x.start:=dy _ Tc1;have ez:=nR nm D.Gc pre;have Of:(fM nm D.Gc pre).length<=100000:=by omega
       clear ez;obtain⟨i0,hi,du,On,RC⟩:=gg DT;replace hi:=aa hi;replace du:=aa du;replace On:=aa On;replace RC:=aa RC;replace c1:=aa c1;gi_wp2_with (gi_at_builtin;refine DZ ?_)
       refine aa ?_;refine wpListIn_append_own _ rfl _ _ 43 rfl B1 55 i0 _ 2 16 underlying43 hi.o du.o On.o RC.o rfl Tc4 v (fM nm D.Gc pre).length (bU (fM nm D.Gc pre)) rfl (World.ownsRow.alloc HI.o.2.1 _) ⟨W.1.size,0,none⟩ 1 1 [.int .i64 x.start,.int .i64 (min x.len (D.Gc-x.start))] rfl rfl (fun j u hu=>by rw[iz,eJ];exact aD rfl (by simpa using hu)) Tdc Tda Tc1 Teg ?_;intro v' w1 a5 a7 _;obtain⟨g',aj,rfl⟩:=ownsRow_succ a5;obtain⟨i1,i2,i3,i4,i5⟩:=HI.o;have hA:=ae W (.cells #[.int .i64 x.start,.int .i64 (min x.len (D.Gc-x.start))] 55);have Qs:∀k,v.ownBlock=some k->B1<=k/\∃a9,W.1[k]?=some (.cells a9 55 (0,0)):=fun k e=>⟨(fh i2 k e).1,by
        rcases i2.2 with⟨rfl,_⟩|⟨g,cap,a9,rfl,_,TK,_⟩
        ·cases e
        obtain rfl:g=k:=by injection e
        exact⟨a9,TK⟩⟩
       have kb:∀k,k<W.1.size->v.ownBlock≠some k->w1.1[k]?=W.1[k]?:=fun k hk hn=>(a7.block k (cC hk hA.size) (fun e=>hn e.symm)).trans (hA.block k hk);have Uq:w1.1[Bd+1]?=some (.cells #[v] 43 (0,0)):=(kb _ (aq i1) (fun e=>by have:=(Qs _ e).1;omega)).trans i1;have l1:=cr Uq 0 _ rfl
       have lf:w1.frozen? (Tac (Bd+1) 0)=false:=by simp[BT,Uq]
       have aZ:W.1.size<=w1.1.size:=cA hA.size a7.size;have PD:Below w.1.size W w1:=((bj _ W).alloc mA _).grown a7 (cA mA hA.size) (fun k e=>by have:=(Qs k e).1;omega);have aP:Hid (∀u:Value,KeepsFrom W5.1.size W (w1.setCell (Tac (Bd+1) 0) u)/\KpT w.1.size W (w1.setCell (Tac (Bd+1) 0) u)/\(w1.setCell (Tac (Bd+1) 0) u).1[Bd+1]?=some (.cells #[u] 43 (0,0))/\∀k,k≠Bd+1->(w1.setCell (Tac (Bd+1) 0) u).1[k]?=w1.1[k]?):=aa fun u=>by
        have ks:∀k,k≠Bd+1->(w1.setCell (Tac (Bd+1) 0) u).1[k]?=w1.1[k]?:=fun k e=>bw _ _ _ _ e;have hs:(w1.setCell (Tac (Bd+1) 0) u).1.size=w1.1.size:=by simp[AF]
        refine⟨⟨Tc1,fun k o hk ho hc=>?_⟩,⟨PD.setCell (p:=⟨Bd+1,0,none⟩) (by show w.1.size<=Bd+1;omega) u,fun k cs t z e ht=>?_⟩,block_setCell (i:=0) u Uq,ks⟩
        ·have Vk:=(DS.1 ho).1;have hn1:k≠Bd+1:=fun e=>by
          rw[e,i1]at ho;injection ho with ho;subst ho;cases hc
         have hn2:v.ownBlock≠some k:=fun e=>by
          obtain⟨_,a9,q⟩:=Qs k e;rw[q]at ho;injection ho with ho;subst ho;cases hc
         exact(ks k hn1).trans ((kb k Vk hn2).trans ho)
        have hn1:k≠Bd+1:=fun e'=>by
         rw[e',i1]at e;injection e with e;injection e with _ e _;subst e;cases ht
        have hn2:v.ownBlock≠some k:=fun e'=>by
         obtain⟨_,a9,q⟩:=Qs k e';rw[q]at e;injection e with e;injection e with _ e _;subst e;cases ht
        exact(ks k hn1).trans (kb k (aq e) hn2)
       replace a5:=aa a5;replace PD:=aa PD;replace kb:=aa kb;replace Qs:=aa Qs;clear a7 hA Uq;gi_wp2
       obtain⟨s1,s2,s3,s4⟩:=aP.o (.slice (some g') ((fM nm D.Gc pre).length+1) aj);refine⟨s1,s2,_,s3,?_,(s4 _ Tc1).trans ((kb.o _ (aq i3) (fun e=>by have:=(Qs.o _ e).1;omega)).trans i3),(s4 _ Tc1).trans ((kb.o _ (aq i4) (fun e=>by have:=(Qs.o _ e).1;omega)).trans i4),i5.trans s2.1,cA h6 s2.1.size⟩;rw[HC.o];unfold bM;rw[gJ,cD];exact aC a5.o fun k e=>s4 k (by have:=(fh a5.o k e).1;omega)
      gi_wp2
      exact⟨KeepsFrom.refl _ _,⟨bj _ _,fun _ _ _ _ _ _=>rfl⟩,v,HI.o.1,by rw[jO pre (fun q=>by have:=q.2.2.2;omega)];exact HI.o.2.1,HI.o.2.2.1,HI.o.2.2.2.1,HI.o.2.2.2.2,h6⟩
     gi_wp2
     exact⟨KeepsFrom.refl _ _,⟨bj _ _,fun _ _ _ _ _ _=>rfl⟩,v,HI.o.1,by rw[jO pre (fun q=>by have:=q.2.2.1;omega)];exact HI.o.2.1,HI.o.2.2.1,HI.o.2.2.2.1,HI.o.2.2.2.2,h6⟩
    gi_wp2
    exact⟨KeepsFrom.refl _ _,⟨bj _ _,fun _ _ _ _ _ _=>rfl⟩,v,HI.o.1,by rw[jO pre (fun q=>by have:=q.2.1;omega)];exact HI.o.2.1,HI.o.2.2.1,HI.o.2.2.2.1,HI.o.2.2.2.2,h6⟩
   have e1:=jI c1;gi_wp2
   exact⟨KeepsFrom.refl _ _,⟨bj _ _,fun _ _ _ _ _ _=>rfl⟩,v,HI.o.1,by rw[jO pre (fun q=>c1 q.1)];exact HI.o.2.1,HI.o.2.2.1,HI.o.2.2.2.1,HI.o.2.2.2.2,h6⟩
  case done =>
   rintro Dd xs W hD rfl ⟨v,h1,h2,h3,h4,h5,h6⟩ hK;have l0:=cr h1 0 _ rfl;have ez:=nR nm D.Gc (pieces F9);have aQ:=(DS.1 hK).1;have HK:=aa hK;clear hK;replace h5:=aa h5;replace h2:=aa h2;clear h1 h3 h4;go_wp2_with fail;refine(tJ (fM nm D.Gc (pieces F9)) v W h2.o.rd (uI Sm.2) Tc1).mono ?_;rintro e w7 ⟨v7,x7,rfl,ak,Ur,aR,tb⟩;have am:=(tb.block Dd aQ).trans HK.o;replace ak:=aa ak;replace tb:=aa tb;replace Ur:=aa Ur;go_wp2;refine⟨Tc2,.inl ⟨_,_,rfl,run_takeDeferred am,?_⟩⟩;refine⟨.tuple #[v7,.int .i64 0],by simp[results,Tryz.results69,go_sem],?_⟩;unfold xG;rw[hf];have b8:=tb.o.size;have YT:=h5.o.size;exact⟨v7,x7,rfl,ownsRow_putObj (bM.mono ak.o YT) _ am rfl,Ur.o,aR,(h5.o.trans (tb.o.mono YT)).trans (belowK_b (w:=w) (bk _) w7 Dd _ _ Tc1 am rfl rfl)⟩
  case stop =>
   rintro D c pre W _ _ h _;exact h.elim
end Go.Proofs.YtaagglbgohjldaaGreatDoor
namespace Go.Proofs.YtaagglbgohjldaaGreatDoor
open Go.Proofs.Tryz
open Go.RowKit
variable {X:Nat->Prop}{bs bb Lv L sz B k:Nat}{nv vv sv v:Value}{g:af}{w0 w w':World}{cs:Value->Array Value}{l0:List aB}{ps:List (ByteArray × Int × Int)}{nx lengths:List Int}{xs:Array Value}{α:Type}{t:TypeId}{n:Int}{Ga:List aR}{name:ByteArray}
def zR(Gb:List az)(F9:List ay)(nm:ByteArray)(w:World)(e:Ending)(w':World):Prop :=
 match bH Gb nm with
 |none=>e=.returned (.tuple #[.slice none 0 0,.int .i64 12])/\Below w.1.size w w'
 |some D=>vD w (fun n=>(0<=n/\n<D.Gc)/\¬Mem (fM nm D.Gc (pieces F9)) n) (2*((pieces F9).length+1)) e w'
def TeO{p:Prop}(h:p:=by simp[dI,nT];omega):p:=h
def Di{ok:Nat->Prop}(name:ByteArray)(id seq ext nx:Int)(tp dp vp hp:Option Addr)(tl tc dc vc hl hc:Nat)(Gb:List az)(F9:List ay)(nm:ByteArray)(w:World)(hr:ck aO 7 ok w [.slice dp Gb.length dc] Gb)(hd:Gb.length<=1000)(Sl:∀D∈Gb,D.tags.length<=1000)(vu:∀D∈Gb,0<=D.Gc/\D.Gc<=1000000)
  (hv:ck aN 6 ok w [.slice vp F9.length vc] F9) (mb:F9.length<=1000) (ht:qx F9) (CH:∀p∈pieces F9,0<=p.start/\p.start<=1000000) (ai:(pieces F9).length<=100000) :
  Calls prog 34 #[.agg (Tao name id seq ext nx tl tp tc Gb.length dp dc F9.length vp vc hl hp hc),.string nm] w (zR Gb F9 nm w):=by
 have a5:=ae w (.cells (Tao name id seq ext nx tl tp tc Gb.length dp dc F9.length vp vc hl hp hc) 31);have a8:=b9 w (.cells (Tao name id seq ext nx tl tp tc Gb.length dp dc F9.length vp vc hl hp hc) 31);replace hr:=aa hr;replace hv:=aa hv;replace ht:=aa ht;replace Sl:=aa Sl;replace vu:=aa vu;replace CH:=aa CH;replace a8:=aa a8;replace a5:=aa a5;go_enter func34,ntmps34
 go_wp2_with fail;generalize R0:AI w _=W1 at *;clear R0;refine(CG (ok:=ok) name id seq ext nx tp dp vp hp tl tc dc vc hl hc Gb F9 nm W1 ((ck.moves aO.moves).mv ⟨a5.o.size,fun b hb ho=>⟨ho,a5.o.block b hb⟩⟩ hr.o) hd Sl.o vu.o ((ck.moves aN.moves).mv ⟨a5.o.size,fun b hb ho=>⟨ho,a5.o.block b hb⟩⟩ hv.o) mb ht.o CH.o ai).mono ?_;rintro e w2 hu;unfold xG at hu;cases hf:bH Gb nm with
 |none =>
  rw[hf]at hu;obtain⟨rfl,hb2⟩:=hu;have cm:=Zbl a5 hb2;clear hb2;go_wp2;refine eC (v:=.tuple #[.slice none 0 0,.int .i64 12]) (by simp[results,Tryz.results34,go_sem]) rfl ?_;unfold zR;rw[hf];exact⟨rfl,cm.o⟩
 |some D =>
  rw[hf]at hu;obtain⟨v2,x2,rfl,a9,Sn,aj,hb2⟩:=hu;have Sm:=vu.o D (eV hf);have ah:=(hb2.block _ (aq a8.o)).trans a8.o;have cm:=Zbl a5 hb2;replace a9:=aa a9;replace Sn:=aa Sn;clear hb2;have gL:=cr ah;obtain⟨y0,y1,y2,y3,y4,y5,y6,y7,y8⟩:=xr gL;clear gL ah;go_wp2_with fail;clear y0 y1 y2 y3 y4 y5 y6 y7 y8;refine(vV (ok:=ok) name id seq ext nx tp dp vp hp tl tc dc F9.length vc hl hc Gb nm w2 ((ck.moves aO.moves).mv ⟨cm.o.size,fun b hb ho=>⟨ho,cm.o.block b hb⟩⟩ hr.o) hd Sl.o).mono ?_;rintro e w3 ⟨hb3,hm⟩;rw[hf]at hm;obtain⟨p3,n3,c3,rfl⟩:=hm;have cJ:=Zbl cm hb3;have ak:=aa (bM.below a9.o hb3);clear hb3;have ab:Below w3.1.size w3 ((w3.alloc (.cells (Tas D n3 p3 c3) 51)).alloc (.cells #[.int .i64 0,.int .i64 D.Gc] 55)):=((bj _ _).alloc (bk _) _).alloc Tc2 _;have a7:((w3.alloc (.cells (Tas D n3 p3 c3) 51)).alloc (.cells #[.int .i64 0,.int .i64 D.Gc] 55)).1[w3.1.size+1]?=some (.cells #[.int .i64 0,.int .i64 D.Gc] 55 (0,0)):=by
   have:=b9 (w3.alloc (.cells (Tas D n3 p3 c3) 51)) (.cells #[.int .i64 0,.int .i64 D.Gc] 55);rw[cW]at this;exact this
  replace a7:=aa a7;have eI:=Zbl cJ ab;have am:=aa (bM.below ak.o ab);clear ab;have hx2:x2.length<=(pieces F9).length:=cA aj (nR _ _ _);go_wp2_with fail;generalize ao:AI (AI w3 _) _=W4 at *;clear ao;have YU:xo W4 (.slice (some (Tac (w3.1.size+1) 0)) 1 1) [(0,D.Gc)]:=⟨_,1,rfl,Tc2,Tc1,fun _=>⟨_,0,rfl,aq a7.o,fun i p hp=>by
   match i,hp with
   |0,hp =>
    obtain rfl:(0,D.Gc)=p:=by simpa using hp
    exact⟨cr a7.o _ _ rfl,cr a7.o _ _ rfl⟩⟩⟩
  refine(DK [(0,D.Gc)] x2 _ v2 W4 YU am.o.rd TeO (jC Sn.o (uI Sm.2)) Tc2 Tc1).mono ?_;rintro e w5 ⟨v5,x5,rfl,af,Sp,ag,au,hb5⟩;replace af:=aa af;replace Sp:=aa Sp;replace ag:=aa ag;replace hb5:=aa hb5;clear YU;go_wp2;refine eC (v:=.tuple #[v5,.int .i64 0]) (by simp[results,Tryz.results34,go_sem]) rfl ?_;unfold zR;rw[hf];have YV:=eI.o.size;refine⟨v5,x5,rfl,bM.mono af.o YV,Sp.o.congr (fun n=>?_),ag.o,?_,eI.o.trans (hb5.o.mono YV)⟩
  ·have hm:kO x2 n=true↔Mem (fM nm D.Gc (pieces F9)) n:=(fe x2 n).trans (Sn.o.2 n);have h0:kO [(0,D.Gc)] n=true↔(0<=n/\n<D.Gc):=by simp[kO]
   simp only[cM,eh,tz,h0];rw[<- hm,Bool.not_eq_true]
  simp only[cS,Ox]at au;omega
def TcL{p:Prop}(h:p:=by
 have rf:=sr HA.o;go_wp2;exact HK.o A on s ok ps1 nx1 _ _ _ _ _ _ _ _ _ _ _ _ _ _ _ _ _ _ (oH HA.o _ _ _) hA3 HO.o (((M9.put hA1 hA2 Tc1 0 _).put hA1 hA2 Tc1 1 _).put hA1 hA2 Tc1 2 _ |>.drop HXL) (fun k q=>by have:=Hn.o k q;rw[bw _ _ _ _ (show k≠A by omega),bw _ _ _ _ (show k≠A by omega),bw _ _ _ _ (show k≠A by omega)];exact HX.o k q)):p:=h
def TaV{p:Prop}(h:p:=by
 conv=>arg 2;whnf
 have c0:=M.m.post.bld.c0;obtain⟨dp,ir,c7,l1,l2⟩:=M.m.post.bld.c7;have cX:=M.m.post.bld.Gj;have gO:=M.m.post.bld.lt;have sy:¬bb=bs:=by omega
 have HXL:=M.xl;have dk:=M.m.took.ok hk.dk;have hp:=dk.pos;have hle:=dk.le;refine kW (fun w'=>w'.cell? bb=some (.pointer (some bs))/\w'.cell? (Tac bb 7)=some (.slice dp g.Gb.length ir)) (fun i=>(decide (i<13)&&!([0,1,2,3,5,6,7,8,12]:List Nat).contains i)||i==17) Tc3 ⟨c0,c7⟩ (fun hHeld=>?_);refine gC hQ 0 ?_;refine gC hQ 1 ?_;refine gC hQ 2 ?_;refine gC hQ 3 ?_;refine gC hQ 5 ?_;refine gC hQ 6 ?_;refine gC hQ 7 ?_;refine gC hQ 8 ?_;refine gC hQ 12 ?_;refine cH hQ 4 hHeld ?_;refine cH hQ 9 hHeld ?_;refine cH hQ 10 hHeld ?_;have M7:=M.below ((bj _ _).drew);have pB:bb<w.drew.1.size:=cX;have HX:Hid (∀k,X k->w.drew.1[k]?=w.1[k]?):=aa fun k _=>rfl;have cd0:w.drew.cell? bb=_:=c0;have SQ:w.drew.cell? (Tac bb 7)=_:=c7;generalize hwd:w.drew=wd at *;clear hwd c0 c7 hHeld M;have HS:Hid (∀w':World,w'.1[bb]?=wd.1[bb]?->w'.cell? bb=some (.pointer (some bs))/\w'.cell? (Tac bb 7)=some (.slice dp g.Gb.length ir)):=aa fun w' e=>⟨(cd (w:=wd) e).trans cd0,(cd (w:=wd) e).trans SQ⟩;clear cd0 SQ;refine ja (i:=11) (j:=17) rfl rfl rfl rfl Tc3 (fun K1 hK1=>?_) (fun K1 hK1=>?_)
 ·go_simp;refine(bY bs (g.Gb.length:Int) _ Tc1 Tc1 M7.m.post.bld.src).mono ?_;rintro e w6 ⟨dv,rfl,PL,PM,hsN,yr⟩;obtain⟨dd,rfl⟩:∃u:Nat,dv=u:=⟨dv.toNat,Tc1⟩;have M8:=M7.read hsN yr;replace HX:Hid (∀k,X k->w6.1[k]?=w.1[k]?):=aa fun k q=>((M7.m.post.bld.readPost hsN yr).loc M7.m.post.bld (.inl q)).trans (HX.o k q);have E6:=aa (yr.block bb pB sy);have L5:=cC pB yr.size;refine hK1.o _ _ (fun _=>HS.o _ E6.o) ?_;clear hK1 K1 hsN yr M7;refine ja (i:=13) (j:=17) rfl rfl rfl rfl Tc3 (fun K1 hK1=>?_) (fun K1 hK1=>?_)
  ·go_simp;refine(M8.area hk dd Tc1 n hn1 Tc1).mono ?_;rintro e w7 ⟨on,s,ok,ps1,nx1,rfl,gw,M9,pC,hlc⟩;have HO:=aa gw;clear gw;replace HX:Hid (∀k,X k->w7.1[k]?=w.1[k]?):=aa fun k q=>(hlc k q).trans (HX.o k q);have E7:=aa (pC.trans E6.o);have au0:=M9.m.post.bld.Gj;refine hK1.o _ _ (fun q=>by simp at q) ?_;clear hK1 K1 M8 pC hlc;refine gC hQ 14 ?_;refine gC hQ 15 ?_;refine gC hQ 16 ?_;refine bS (i:=17) rfl rfl Tc3 (fun K1 hK1=>?_);go_simp;have MA:=M9.fresh (.cells Tat 53);have HA:=aa (b9 w7 (.cells Tat 53));have hA1:=M9.m.hB;have hA2:sv.ownBlock≠some w7.1.size:=fun e=>by have:=M9.m.svLt e;omega
   have hA3:L<w7.1.size:=aq M9.lx;have Hn:Hid (∀k,X k->k<w7.1.size):=aa fun k q=>(M9.m.post.bld.xlt k (.inl q)).2;replace HX:Hid (∀k,X k->(w7.alloc (.cells Tat 53)).1[k]?=w.1[k]?):=aa fun k q=>(cj _ _ _ (Hn.o k q)).trans (HX.o k q);refine hK1.o _ _ (fun _=>HS.o _ ((cj _ _ _ au0).trans E7.o)) ?_;clear hK1 K1;have EA:=aa ((cj w7 (.cells Tat 53) _ au0).trans E7.o);generalize DA:w7.alloc _=WA at *;generalize hA:w7.1.size=A at *;clear DA hA;refine eB 18 (fun t ht=>by simp;omega) Tc3 rfl ?_;simp only[cQ,cL];obtain⟨r0,r1,r2⟩:=sv3 (cr HA.o)
   have rf:=sr HA.o;go_wp2;exact HK.o A on s ok ps1 nx1 _ _ _ _ _ _ _ _ _ _ _ _ _ _ _ _ _ _ (oH HA.o _ _ _) hA3 HO.o (((MA.put hA1 hA2 Tc1 0 _).put hA1 hA2 Tc1 1 _).put hA1 hA2 Tc1 2 _ |>.drop HXL) (fun k q=>by have:=Hn.o k q;rw[bw _ _ _ _ (show k≠A by omega),bw _ _ _ _ (show k≠A by omega),bw _ _ _ _ (show k≠A by omega)];exact HX.o k q)
  go_simp;have MA:=M8.fresh (.cells Tat 53);have HA:=aa (b9 w6 (.cells Tat 53));have hA1:=M8.m.hB;have hA2:sv.ownBlock≠some w6.1.size:=fun e=>by have:=M8.m.svLt e;omega
  have hA3:L<w6.1.size:=aq M8.lx;have Hn:Hid (∀k,X k->k<w6.1.size):=aa fun k q=>(M8.m.post.bld.xlt k (.inl q)).2;replace HX:Hid (∀k,X k->(w6.alloc (.cells Tat 53)).1[k]?=w.1[k]?):=aa fun k q=>(cj _ _ _ (Hn.o k q)).trans (HX.o k q);refine hK1.o _ _ (fun _=>HS.o _ ((cj _ _ _ L5).trans E6.o)) ?_;clear hK1 K1;have EA:=aa ((cj w6 (.cells Tat 53) _ L5).trans E6.o);generalize DA:w6.alloc _=WA at *;generalize hA:w6.1.size=A at *;clear DA hA;refine bS (i:=13) rfl rfl Tc3 (fun K1 hK1=>?_);go_simp;refine(MA.area hk dd Tc1 n hn1 Tc1).mono ?_;rintro e w7 ⟨on,s,ok,ps1,nx1,rfl,gw,M9,pC,hlc⟩;have HO:=aa gw;clear gw;replace HX:Hid (∀k,X k->w7.1[k]?=w.1[k]?):=aa fun k q=>(hlc k (.inl q)).trans (HX.o k q);replace HA:=aa ((hlc A (.inr rfl)).trans HA.o);refine hK1.o _ _ (fun q=>by simp at q) ?_;clear hK1 K1 pC hlc;refine gC hQ 14 ?_;refine gC hQ 15 ?_;refine gC hQ 16 ?_;refine eB 18 (fun t ht=>by simp;omega) Tc3 rfl ?_;simp only[cQ,cL];obtain⟨r0,r1,r2⟩:=sv3 (cr HA.o)
  exact TcL
 go_simp;have MA:=M7.fresh (.cells Tat 53);have HA:=aa (b9 wd (.cells Tat 53));have hA1:=M7.m.hB;have hA2:sv.ownBlock≠some wd.1.size:=fun e=>by have:=M7.m.svLt e;omega
 have hA3:L<wd.1.size:=aq M7.lx;have Hn:Hid (∀k,X k->k<wd.1.size):=aa fun k q=>(M7.m.post.bld.xlt k (.inl q)).2;replace HX:Hid (∀k,X k->(wd.alloc (.cells Tat 53)).1[k]?=w.1[k]?):=aa fun k q=>(cj _ _ _ (Hn.o k q)).trans (HX.o k q);refine hK1.o _ _ (fun _=>HS.o _ (cj _ _ _ pB)) ?_;clear hK1 K1;have EA:=aa (cj wd (.cells Tat 53) _ pB);generalize DA:wd.alloc _=WA at *;generalize hA:wd.1.size=A at *;clear DA hA;refine bS (i:=11) rfl rfl Tc3 (fun K1 hK1=>?_);go_simp;refine(bY bs (g.Gb.length:Int) _ Tc1 Tc1 MA.m.post.bld.src).mono ?_;rintro e w6 ⟨dv,rfl,PL,PM,hsN,yr⟩;obtain⟨dd,rfl⟩:∃u:Nat,dv=u:=⟨dv.toNat,Tc1⟩;have M8:=MA.read hsN yr;replace HX:Hid (∀k,X k->w6.1[k]?=w.1[k]?):=aa fun k q=>((MA.m.post.bld.readPost hsN yr).loc MA.m.post.bld (.inl (.inl q))).trans (HX.o k q);have E6:=aa ((yr.block bb MA.m.post.bld.Gj sy).trans EA.o);replace HA:=aa (((MA.m.post.bld.readPost hsN yr).loc MA.m.post.bld (.inl (.inr rfl))).trans HA.o);refine hK1.o _ _ (fun _=>HS.o _ E6.o) ?_;clear hK1 K1 hsN yr MA EA;refine bS (i:=13) rfl rfl Tc3 (fun K1 hK1=>?_);go_simp;refine(M8.area hk dd Tc1 n hn1 Tc1).mono ?_;rintro e w7 ⟨on,s,ok,ps1,nx1,rfl,gw,M9,pC,hlc⟩;have HO:=aa gw;clear gw;replace HX:Hid (∀k,X k->w7.1[k]?=w.1[k]?):=aa fun k q=>(hlc k (.inl q)).trans (HX.o k q);replace HA:=aa ((hlc A (.inr rfl)).trans HA.o);refine hK1.o _ _ (fun q=>by simp at q) ?_;clear hK1 K1 pC hlc;refine gC hQ 14 ?_;refine gC hQ 15 ?_;refine gC hQ 16 ?_;refine eB 18 (fun t ht=>by simp;omega) Tc3 rfl ?_;simp only[cQ,cL];obtain⟨r0,r1,r2⟩:=sv3 (cr HA.o)
 exact TcL):p:=h
def qB{next:List Int}{Gf:List aB}
  (M:fw X bs bb nv vv g next w0 Lv cs l0 sv Gf ps nx L xs w) (hk:BOk g next) (n:Int) (hn1:1<=n) (hn2:n<=3) {c1 c2 c3 c4 c5 c6 c7 c9 c10 TO W0 St Rr RE RK SO Se Sf To Wg aE Wr ZD UP US ab ao fa dj dq eS fs gE ff fi fb gn iS mx qS qe nF o4 oE oR qk oS pe ph pr pt qv rl rm rn sd sh ta zd zp aK aL aM aN aO aP aQ aR aS aT aU aV aW aX aY a8 a9 ae af ag ah ai aj ak am au av aw ay az aA aC aD aF aG aH aI aJ ke lE im ka lP mT mc me te tf ti tr tt tw u0 vf vj vm we wg wv yW a5 a7 yp:Value} (K:Act->World->Prop) (Q:Exit->Act->World->Prop) (hQ:∀c (a:Act) (d:Tmp) (v:Value) w,Q (.panic c) (a.put (some d) v) w->Q (.panic c) a w)
  (HK:Hid (∀(A:Nat) (on:ByteArray) (s:Int) (ok:Bool) (ps1:List (ByteArray × Int × Int)) (nx1:List Int) (w':World) (u60 u61 u62 u63 u64 u65 u66 u67 u68 u69 u70 u71 u72 u73 u74 u75 u76:Value),w'.1[A]?=some (.cells (Tau on s) 53 (0,0))->L<A->(ok=true->ps1=[(on,s,n)])->fw X bs bb nv vv g next w0 Lv cs l0 sv Gf (ps++ps1) nx1 L xs w'->(∀k,X k->w'.1[k]?=w.1[k]?)->K ⟨#[.pointer (some bb),c1,c2,c3,c4,c5,c6,c7,.int .i64 n,c9,.pointer (some A),.bool ok,W0,St,Rr,RE,RK,SO,Se,Sf,To,Wg,aE,Wr,ZD,UP,US,ab,ao,fa,dj,dq,eS,fs,gE,ff,fi,fb,gn,iS,mx,qS,qe,nF,o4,oE,oR,qk,oS,pe,ph,pr,pt,qv,rl,rm,rn,sd,sh,ta,u60,u61,u62,u63,u64,u65,u66,u67,u68,u69,u70,u71,u72,u73,u74,u75,u76,a8,a9,ae,af,ag,ah,ai,aj,ak,am,au,av,aw,ay,az,aA,aC,aD,aF,aG,aH,aI,aJ,ke,lE,im,ka,lP,mT,mc,me,te,tf,ti,tr,tt,tw,u0,vf,vj,vm,we,wg,wv,yW,a5,a7,yp],[]⟩ w')) :
  Code.wp prog (p9 12) (Exit.then K Q) ⟨#[.pointer (some bb),c1,c2,c3,c4,c5,c6,c7,.int .i64 n,c9,c10,TO,W0,St,Rr,RE,RK,SO,Se,Sf,To,Wg,aE,Wr,ZD,UP,US,ab,ao,fa,dj,dq,eS,fs,gE,ff,fi,fb,gn,iS,mx,qS,qe,nF,o4,oE,oR,qk,oS,pe,ph,pr,pt,qv,rl,rm,rn,sd,sh,ta,zd,zp,aK,aL,aM,aN,aO,aP,aQ,aR,aS,aT,aU,aV,aW,aX,aY,a8,a9,ae,af,ag,ah,ai,aj,ak,am,au,av,aw,ay,az,aA,aC,aD,aF,aG,aH,aI,aJ,ke,lE,im,ka,lP,mT,mc,me,te,tf,ti,tr,tt,tw,u0,vf,vj,vm,we,wg,wv,yW,a5,a7,yp],[]⟩ w:=by
 exact TaV
def zM{next:List Int}{Gf:List aB}
  (M:fw X bs bb nv vv g next w0 Lv cs l0 sv Gf ps nx L xs w) (hk:BOk g next) (n:Int) (hn1:1<=n) (hn2:n<=3) {c1 c2 c3 c4 c5 c6 c7 c9 c10 TO W0 St Rr RE RK SO Se Sf To Wg aE Wr ZD UP US ab ao fa dj dq eS fs gE ff fi fb gn iS mx qS qe nF o4 oE oR qk oS pe ph pr pt qv rl rm rn sd sh ta zd zp a8 a9 ae af ag ah ai aj ak am au av aw ay az aA aC aD aF aG aH aI aJ aK aL aM aN aO aP aQ aR aS aT aU aV aW aX aY ke lE im ka lP mT mc me te tf ti tr tt tw u0 vf vj vm we wg wv yW a5 a7 yp:Value} (K:Act->World->Prop) (Q:Exit->Act->World->Prop) (hQ:∀c (a:Act) (d:Tmp) (v:Value) w,Q (.panic c) (a.put (some d) v) w->Q (.panic c) a w)
  (HK:Hid (∀(A:Nat) (on:ByteArray) (s:Int) (ok:Bool) (ps1:List (ByteArray × Int × Int)) (nx1:List Int) (w':World) (u85 u86 u87 u88 u89 u90 u91 u92 u93 u94 u95 u96 u97 u98 u99 u100 u101:Value),w'.1[A]?=some (.cells (Tau on s) 53 (0,0))->L<A->(ok=true->ps1=[(on,s,n)])->fw X bs bb nv vv g next w0 Lv cs l0 sv Gf (ps++ps1) nx1 L xs w'->(∀k,X k->w'.1[k]?=w.1[k]?)->K ⟨#[.pointer (some bb),c1,c2,c3,c4,c5,c6,c7,.int .i64 n,c9,c10,TO,.pointer (some A),.bool ok,Rr,RE,RK,SO,Se,Sf,To,Wg,aE,Wr,ZD,UP,US,ab,ao,fa,dj,dq,eS,fs,gE,ff,fi,fb,gn,iS,mx,qS,qe,nF,o4,oE,oR,qk,oS,pe,ph,pr,pt,qv,rl,rm,rn,sd,sh,ta,zd,zp,a8,a9,ae,af,ag,ah,ai,aj,ak,am,au,av,aw,ay,az,aA,aC,aD,aF,aG,aH,aI,aJ,u85,u86,u87,u88,u89,u90,u91,u92,u93,u94,u95,u96,u97,u98,u99,u100,u101,im,ka,lP,mT,mc,me,te,tf,ti,tr,tt,tw,u0,vf,vj,vm,we,wg,wv,yW,a5,a7,yp],[]⟩ w')) :
  Code.wp prog (p9 16) (Exit.then K Q) ⟨#[.pointer (some bb),c1,c2,c3,c4,c5,c6,c7,.int .i64 n,c9,c10,TO,W0,St,Rr,RE,RK,SO,Se,Sf,To,Wg,aE,Wr,ZD,UP,US,ab,ao,fa,dj,dq,eS,fs,gE,ff,fi,fb,gn,iS,mx,qS,qe,nF,o4,oE,oR,qk,oS,pe,ph,pr,pt,qv,rl,rm,rn,sd,sh,ta,zd,zp,a8,a9,ae,af,ag,ah,ai,aj,ak,am,au,av,aw,ay,az,aA,aC,aD,aF,aG,aH,aI,aJ,aK,aL,aM,aN,aO,aP,aQ,aR,aS,aT,aU,aV,aW,aX,aY,ke,lE,im,ka,lP,mT,mc,me,te,tf,ti,tr,tt,tw,u0,vf,vj,vm,we,wg,wv,yW,a5,a7,yp],[]⟩ w:=by
 exact TaV
def uU{V:jx α}(hV:Moves V){ga:Nat}{e:TypeId}{i0:TypeInfo}{z:Value}(hu:prog.underlying t=some (.slice e))(hi:prog.info? e=some i0)(hz:i0.zero=some z)(a5:i0.size=sz)(a8:i0.bytes=ga)(a9:z.cells.size=sz)(Hv:ga<=1000)
  {o:Oper} {dd:Tmp} {a:Act} {w:World} {K:Act->World->Prop} {Q:Exit->Act->World->Prop}
  (aa:o.dst=some dd) (s x:Operand) (ab:o.op=Op.call { callee:=Callee.builtin Builtin.append,args:=#[s,x],argTypes:=#[t,t] })
  (B:Nat) (ok:Nat->Prop) (v:Value) (l:List α) (p:α) (hs:a.eval s=v) (a7:iL V sz ok w v l) (g c:Nat) (u:List Value) (hx:a.eval x=.slice (some g) 1 c)
  (ez:u.length=sz) (ae:V ok w u p) (af:∀z∈u,z.oneCell'=true) (hc:∀(j:Nat) (y:Value),u[j]?=some y->w.cell? (g,j)=some y) (hB:B<=w.1.size)
  (hK:∀cap w',bF V sz e B ok w' (.slice (some w.1.size) (l.length+1) cap) (l++[p])->Below w.1.size w w'->w.1.size<w'.1.size->K (a.put (some dd) (.slice (some w.1.size) (l.length+1) cap)) w'):Oper.wp prog o a w K Q:=by
 obtain⟨cap,w',hr,ho,hb,hl⟩:=rG (ty:=o.type) hV hu hi hz a5 a8 a9 Hv B ok v l p a7 g c u ez ae af hc hB;unfold Oper.wp;simp[execOp,ab,resolve,invoke,builtin,hs,hx,hr,Result.andThen];show K (a.put o.dst _) w';rw[aa];exact hK cap w' ho hb hl
def TeI{p:Prop}(h:p:=by simp[World.cell?,e2,hA]):p:=h
def yX{next:List Int}{Gf:List aB}{st:Int}{Sb A:Nat}{on a7:ByteArray}{s s2:Int}
  (M:fw (fD X L) bs bb nv vv g next w0 Lv cs l0 sv Gf ps nx L #[.int .i64 st,.int .i64 n,.int .i64 8,.slice (some Sb) 1 1,.int .i64 0,.slice none 0 0,.string ⟨#[]⟩,.string ⟨#[]⟩,.int .i64 0,.int .i64 0,.int .i64 0] w) (ah:Lv+1+1<=L) (ai:sv.ownBlock≠some L) (UA:L<A)
  (ag:w.1[Sb]?=some (.cells (Tau on s) 53 (0,0))) (gw:(okB (eO (fD X L) Lv sv) bb nv vv) Sb) (hA:w.1[A]?=some (.cells (Tau a7 s2) 53 (0,0)))
  (hn1:1<=n) (hn2:n<=3) {c1 c2 c3 c4 c5 c6 c7 c10 TO St Rr RE RK SO Se Sf To Wg aE Wr ZD UP US ab ao fa dj dq eS fs gE ff fi fb gn iS mx qS qe nF o4 oE oR qk oS pe ph pr pt qv rl rm rn sd sh ta zd zp aj ak am au av aw ay az aA aC aD aF aG aH aI aJ aK aL aM aN aO aP aR aT aU aV aW aX aY aZ b8 ba bd be bf bg bh bi ke lE im ka lP mT mc me te tf ti tr tt tw u0 vf vj vm we wg wv yW a8 a9 yp:Value} (K:Act->World->Prop) (Q:Exit->Act->World->Prop) (hQ:∀c (a:Act) (d:Tmp) (v:Value) w,Q (.panic c) (a.put (some d) v) w->Q (.panic c) a w)
  (HK:Hid (∀(gb cap:Nat) (dn:Int) (w':World) (u104 u105 u106 u107 u108 u109 u110 u111 u112 u113 u114 u115 u116 u117:Value),0<=dn->dn<=n->fw (fD X L) bs bb nv vv g next w0 Lv cs l0 sv Gf ps nx L #[.int .i64 st,.int .i64 n,.int .i64 8,.slice (some gb) 2 cap,.int .i64 0,.slice none 0 0,.string ⟨#[]⟩,.string ⟨#[]⟩,.int .i64 0,.int .i64 0,.int .i64 dn] w'->ck aQ 3 (okB (eO (fD X L) Lv sv) bb nv vv) w' [.slice (some gb) 2 cap] [⟨false,on,s⟩,⟨false,a7,s2⟩]->K ⟨#[.pointer (some bb),c1,c2,c3,c4,c5,c6,c7,.int .i64 n,.pointer (some L),c10,TO,.pointer (some A),St,Rr,RE,RK,SO,Se,Sf,To,Wg,aE,Wr,ZD,UP,US,ab,ao,fa,dj,dq,eS,fs,gE,ff,fi,fb,gn,iS,mx,qS,qe,nF,o4,oE,oR,qk,oS,pe,ph,pr,pt,qv,rl,rm,rn,sd,sh,ta,zd,zp,aj,ak,am,au,av,aw,ay,az,aA,aC,aD,aF,aG,aH,aI,aJ,aK,aL,aM,aN,aO,aP,aR,aT,aU,aV,aW,aX,aY,aZ,b8,ba,bd,be,bf,bg,bh,bi,ke,lE,im,ka,u104,u105,u106,u107,u108,u109,u110,u111,u112,u113,u114,u115,u116,u117,we,wg,wv,yW,a8,a9,yp],[]⟩ w')) :
  Code.wp prog (p9 18) (Exit.then K Q) ⟨#[.pointer (some bb),c1,c2,c3,c4,c5,c6,c7,.int .i64 n,.pointer (some L),c10,TO,.pointer (some A),St,Rr,RE,RK,SO,Se,Sf,To,Wg,aE,Wr,ZD,UP,US,ab,ao,fa,dj,dq,eS,fs,gE,ff,fi,fb,gn,iS,mx,qS,qe,nF,o4,oE,oR,qk,oS,pe,ph,pr,pt,qv,rl,rm,rn,sd,sh,ta,zd,zp,aj,ak,am,au,av,aw,ay,az,aA,aC,aD,aF,aG,aH,aI,aJ,aK,aL,aM,aN,aO,aP,aR,aT,aU,aV,aW,aX,aY,aZ,b8,ba,bd,be,bf,bg,bh,bi,ke,lE,im,ka,lP,mT,mc,me,te,tf,ti,tr,tt,tw,u0,vf,vj,vm,we,wg,wv,yW,a8,a9,yp],[]⟩ w:=by
 conv=>arg 2;whnf
 have cX:=M.m.post.bld.Gj;have gO:=M.m.post.bld.lt;have Y9:=M.m.post.bld.xlt L (.inl (.inr rfl));have af:L≠bs:=by omega
 have UB:A≠bs:=by omega
 have sy:bb≠bs:=by omega
 have bm:IntKind.i64.wrap (n+1)=n+1:=dy _ Tc1;obtain⟨i0,hi,du,On,RC⟩:=gg kL;have HT:Hid (iL aQ 3 (okB (eO (fD X L) Lv sv) bb nv vv) w (.slice (some Sb) 1 1) [⟨false,on,s⟩]):=aa ⟨Sb,[.bool false,.string on,.int .i64 s],rfl,aq ag,gw,Flat.one rfl rfl Tdc,(fun j y hy=>by simp only[AN,ag];simpa using hy),Tc2⟩;have HS:Hid (∀w':World,w'.1[L]?=w.1[L]?->w'.1[A]?=w.1[A]?->w'.1[bb]?=w.1[bb]?->w'.cell? (Tac L 3)=some (.slice (some Sb) 1 1)/\w'.cell? A=some (.bool false)/\w'.cell? (Tac A 1)=some (.string a7)/\w'.cell? (Tac A 2)=some (.int .i64 s2)/\w'.cell? bb=some (.pointer (some bs))):=aa fun w' e1 e2 e3=>⟨by simp[AN,e1,M.lx],TeI,TeI,TeI,(cd (w:=w) e3).trans M.m.post.bld.c0⟩;have UC:A<w.drew.1.size:=aq hA;have UD:L<w.drew.1.size:=Y9.2;have pB:bb<w.drew.1.size:=cX;clear ag hA;refine kW (fun w'=>w'.cell? (Tac L 3)=some (.slice (some Sb) 1 1)/\w'.cell? A=some (.bool false)/\w'.cell? (Tac A 1)=some (.string a7)/\w'.cell? (Tac A 2)=some (.int .i64 s2)/\w'.cell? bb=some (.pointer (some bs))) (fun i=>decide (i<13)&&!([0,5,6,7,9,10]:List Nat).contains i) Tc3 (HS.o w rfl rfl rfl) (fun a5=>?_);refine gC hQ 0 ?_;refine gC hQ 5 ?_;refine gC hQ 6 ?_;refine gC hQ 7 ?_;refine gC hQ 9 ?_;refine gC hQ 10 ?_;refine cH hQ 1 a5 ?_;refine cH hQ 2 a5 ?_;refine cH hQ 8 a5 ?_;have M7:=M.below ((bj _ _).drew);replace HT:Hid (iL aQ 3 (okB (eO (fD X L) Lv sv) bb nv vv) w.drew (.slice (some Sb) 1 1) [⟨false,on,s⟩]):=aa (HT.o.moves aQ.moves ⟨bk _,fun b _ ho=>⟨ho,rfl⟩⟩);replace HS:Hid (∀w':World,w'.1[L]?=w.drew.1[L]?->w'.1[A]?=w.drew.1[A]?->w'.1[bb]?=w.drew.1[bb]?->w'.cell? (Tac L 3)=some (.slice (some Sb) 1 1)/\w'.cell? A=some (.bool false)/\w'.cell? (Tac A 1)=some (.string a7)/\w'.cell? (Tac A 2)=some (.int .i64 s2)/\w'.cell? bb=some (.pointer (some bs))):=HS;generalize bp:w.drew=wd at *;clear bp a5 M cX Y9 gw bm;have EE:Hid (∀k,k<wd.1.size->k≠bs->wd.1[k]?=wd.1[k]?):=aa fun _ _ _=>rfl;have hz:wd.1.size<=wd.1.size:=bk _;refine bS (i:=3) rfl rfl Tc3 (fun K1 hK1=>?_);go_simp;have MG:=M7.below (ae wd (.cells (Tau a7 s2) 53));have EG:Hid (∀k,k<wd.1.size->k≠bs->(wd.alloc (.cells (Tau a7 s2) 53)).1[k]?=wd.1[k]?):=aa fun k hk hb=>(cj _ _ _ (cC hk hz)).trans (EE.o k hk hb);have HG:=aa (b9 wd (.cells (Tau a7 s2) 53));have UE:wd.1.size<=(wd.alloc (.cells (Tau a7 s2) 53)).1.size:=cA hz Tc2;have hG:wd.1.size<=wd.1.size:=hz;clear EE hz;refine hK1.o _ _ (fun _=>HS.o _ (EG.o L UD af) (EG.o A UC UB) (EG.o bb pB sy)) ?_;clear hK1 K1;generalize bq:wd.alloc _=w5 at *;clear bq;refine bS (i:=4) rfl rfl Tc3 (fun K1 hK1=>?_);refine uU aQ.moves underlying49 hi du On RC rfl Tc4 rfl _ _ Tc7 (bb+1) (okB (eO (fD X L) Lv sv) bb nv vv) (.slice (some Sb) 1 1) [⟨false,on,s⟩] ⟨false,a7,s2⟩ Tc7 ?_ wd.1.size 1 [.bool false,.string a7,.int .i64 s2] Tc7 rfl rfl ?_ ?_ ?_ ?_
 ·exact HT.o.moves aQ.moves ⟨UE,fun b hb ho=>⟨ho,EG.o b hb TdB⟩⟩
 ·simp[GS]
 ·intro j y hy;simp only[AN,HG.o];simpa using hy
 ·have:=MG.m.post.bld.Gj;omega
 intro cap w6 ho jn hlt;have MP:=MG.below jn;have EP:Hid (∀k,k<wd.1.size->k≠bs->w6.1[k]?=wd.1[k]?):=aa fun k hk hb=>(jn.block k (cC hk UE)).trans (EG.o k hk hb);have bu:=cA UE jn.size
 have HR:Hid (ck aQ 3 (okB (eO (fD X L) Lv sv) bb nv vv) w6 [.slice (some w5.1.size) 2 cap] [⟨false,on,s⟩,⟨false,a7,s2⟩]):=aa (ho.rd aQ.moves Tc4 (fun _ _ q=>q) (fun b e=>by
  obtain rfl:w5.1.size=b:=by injection e
  exact MG.m.post.bld.okNew (bk _)))
 refine hK1.o _ _ (fun _=>HS.o _ (EP.o L UD af) (EP.o A UC UB) (EP.o bb pB sy)) ?_;generalize w5.1.size=gb at *;clear hK1 K1 ho jn hlt;simp only[aS];clear EG UE MG;have EE:=EP;have hz:=bu;have a5:=HS.o _ (EP.o L UD af) (EP.o A UC UB) (EP.o bb pB sy);refine cH hQ 12 a5 ?_;clear a5;refine bS (i:=11) rfl rfl Tc3 (fun K1 hK1=>?_);go_simp;refine(bY bs (n+1) _ Tc1 Tc1 MP.m.post.bld.src).mono ?_;rintro e w9 ⟨dn,rfl,PN,SR,bl,yr⟩;have EN:Hid (∀k,k<wd.1.size->k≠bs->w9.1[k]?=wd.1[k]?):=aa fun k hk hb=>(yr.block k (cC hk hz) hb).trans (EE.o k hk hb);have MN:=MP.read bl yr;have bz:=cA hz yr.size;have Za:Hid (ck aQ 3 (okB (eO (fD X L) Lv sv) bb nv vv) w9 [.slice (some gb) 2 cap] [⟨false,on,s⟩,⟨false,a7,s2⟩]):=aa ((ck.moves aQ.moves).mv ⟨yr.size,fun b hb ho=>⟨ho,yr.block b hb TdB⟩⟩ HR.o);clear HR;have HR:=Za;clear Za;refine hK1.o _ _ (fun _=>HS.o _ (EN.o L UD af) (EN.o A UC UB) (EN.o bb pB sy)) ?_;clear hK1 K1 bl yr;clear EE hz;refine eB 13 (fun t ht=>by simp;omega) Tc3 rfl ?_;simp only[cQ,cL];have x3:=cr MN.lx 3 _ rfl;have bC:=cr MN.lx 10 _ rfl
 have xf:=sr MN.lx;go_wp2;exact HK.o gb cap dn _ _ _ _ _ _ _ _ _ _ _ _ _ _ _ PN Tc1 ⟨(MN.m.put ah ai 3 _).put ah ai 10 _,block_setCell (i:=10) _ (block_setCell (i:=3) _ MN.lx),.inr rfl⟩ ((ck.moves aQ.moves).mv ⟨Tdd,fun b _ ho=>⟨ho,by have U3:b≠L:=fun e=>ho.2.2.2 (.inl (.inr e));rw[bw _ _ _ _ U3,bw _ _ _ _ U3]⟩⟩ HR.o)
def Tdt{p:Prop}(h:p:=by simp only[aV];omega):p:=h
def jW{next:List Int}{Gf:List aB}{tv:Value}{st kd dn:Int}{ap:Option Addr}{al ac:Nat}{id:Int}{hidden ro:Bool}
  (M:fw (fD X L) bs bb nv vv g next w0 Lv cs l0 sv Gf ps nx L #[.int .i64 st,.int .i64 n,.int .i64 kd,.slice ap al ac,.int .i64 0,.slice none 0 0,.string ⟨#[]⟩,.string ⟨#[]⟩,.int .i64 0,.int .i64 0,.int .i64 dn] w) (a5:Hid (∀v,cs v=#[.string name,.int .u64 id,.bool hidden,.bool ro,tv,v])) (GF:Gf.length<=3)
  (hR:ck aQ 3 (okB (eO X Lv sv) bb nv vv) w [.slice ap al ac] Ga) (Oo:fB l0 (Gf++[aV st n kd Ga dn])) (u9:List.Sublist (((Gf++[aV st n kd Ga dn]).drop l0.length).flatMap iG) ps)
  (hn1:1<=n) (hn2:n<=3) (c0 c1 c2 c4 c5 c6 c7 c8 c10 TO W0 St Rr RE RK SO Se Sf To Wg aE Wr ZD UP US ab ao fa dj dq eS fs gE ff fi fb gn iS mx qS qe nF o4 oE oR qk oS pe ph pr pt qv rl rm rn sd sh ta zd zp a9 af ag ah ai aj ak am aq au av aw ay az aA aC aD aF aG aH aI aJ aK aL aM aN aO aP aR aS aT aU aW aX aY aZ b8 b9 ke lE im ka lP mT mc me te tf ti tr tt tw u0 vf vj vm we wg wv yW a7 a8 yp:Value) (Q:Exit->Act->World->Prop)
  (HK:Hid (∀(ba:Value) (w':World) (u118 u119 u120 u121 u122 u123:Value),T8 X bs bb nv vv g next w0 Lv cs l0 ba (Gf++[aV st n kd Ga dn]) ps nx w'->Q .normal ⟨#[c0,c1,c2,.pointer (some Lv),c4,c5,c6,c7,c8,.pointer (some L),c10,TO,W0,St,Rr,RE,RK,SO,Se,Sf,To,Wg,aE,Wr,ZD,UP,US,ab,ao,fa,dj,dq,eS,fs,gE,ff,fi,fb,gn,iS,mx,qS,qe,nF,o4,oE,oR,qk,oS,pe,ph,pr,pt,qv,rl,rm,rn,sd,sh,ta,zd,zp,a9,af,ag,ah,ai,aj,ak,am,aq,au,av,aw,ay,az,aA,aC,aD,aF,aG,aH,aI,aJ,aK,aL,aM,aN,aO,aP,aR,aS,aT,aU,aW,aX,aY,aZ,b8,b9,ke,lE,im,ka,lP,mT,mc,me,te,tf,ti,tr,tt,tw,u0,vf,vj,vm,u118,u119,u120,u121,u122,u123,yp],[]⟩ w')) :
  Code.wp prog (p9 19) Q ⟨#[c0,c1,c2,.pointer (some Lv),c4,c5,c6,c7,c8,.pointer (some L),c10,TO,W0,St,Rr,RE,RK,SO,Se,Sf,To,Wg,aE,Wr,ZD,UP,US,ab,ao,fa,dj,dq,eS,fs,gE,ff,fi,fb,gn,iS,mx,qS,qe,nF,o4,oE,oR,qk,oS,pe,ph,pr,pt,qv,rl,rm,rn,sd,sh,ta,zd,zp,a9,af,ag,ah,ai,aj,ak,am,aq,au,av,aw,ay,az,aA,aC,aD,aF,aG,aH,aI,aJ,aK,aL,aM,aN,aO,aP,aR,aS,aT,aU,aW,aX,aY,aZ,b8,b9,ke,lE,im,ka,lP,mT,mc,me,te,tf,ti,tr,tt,tw,u0,vf,vj,vm,we,wg,wv,yW,a7,a8,yp],[]⟩ w:=by
 conv=>arg 2;whnf
 obtain⟨sp,mL,PO,s1,s2,s3⟩:=(M.m.st.rd bC.moves Tc4 (ok':=fun _=>True) (fun _ _ _=>trivial) (fun _ _=>trivial)).form;subst PO;clear s3;have Md:=M.m.drop;have Zb:=aa M.lx;obtain⟨i0,hi,du,On,RC⟩:=gg Am;replace hi:=aa hi;replace du:=aa du;replace On:=aa On;replace RC:=aa RC;have qL:=cr Zb.o;obtain⟨y0,y1,y2,y3,y4,y5,y6,y7,y8,y9,bd⟩:=IC qL;clear qL;have v5:w.cell? (Tac Lv 5)=some (.slice sp Gf.length mL):=by simp[AN,Md.bv,a5.o]
 have Qg:Hid (bC (okB (eO X Lv (.slice sp Gf.length mL)) bb nv vv) w [.int .i64 st,.int .i64 n,.int .i64 kd,.slice ap al ac,.int .i64 0,.slice none 0 0,.string ⟨#[]⟩,.string ⟨#[]⟩,.int .i64 0,.int .i64 0,.int .i64 dn] (aV st n kd Ga dn)):=aa ⟨_,_,rfl,hR,ck.nil⟩;clear hR;have jn:=ae w (.cells #[st,n,kd,.slice ap al ac,.int .i64 0,.slice none 0 0,.string ⟨#[]⟩,.string ⟨#[]⟩,.int .i64 0,.int .i64 0,dn] 114);have be:=Md.hB;replace Oo:=aa Oo;replace u9:=aa u9;clear M Zb;go_wp2_with(at_builtin;refine Aq bC.moves underlying66 hi.o du.o On.o RC.o rfl Tc4 Tc4 rfl _ _ rfl (Lv+1+1) (fun b=>(okB (eO X Lv (.slice sp Gf.length mL)) bb nv vv) b/\b<w.1.size) (.slice sp Gf.length mL) Gf (aV st n kd Ga dn) rfl ?d1 w.1.size 1 [.int .i64 st,.int .i64 n,.int .i64 kd,.slice ap al ac,.int .i64 0,.slice none 0 0,.string ⟨#[]⟩,.string ⟨#[]⟩,.int .i64 0,.int .i64 0,.int .i64 dn] rfl rfl ?d2 ?d3 ?d4 ?d5 ?d6 ?d7 ?_)
 case d1=>exact Md.st.moves bC.moves ⟨jn.size,fun b hb ho=>⟨⟨ho,hb⟩,jn.block b hb⟩⟩ (fun k hk=>jn.block k (Md.svLt hk.1))
 case d2=>exact bC.moves.mv ⟨jn.size,fun b hb ho=>⟨⟨ho,hb⟩,jn.block b hb⟩⟩ Qg.o
 case d3=>simp[GS]
 case d5=>omega
 case d6 =>
  have:=jn.size;omega
 case d7=>exact fun b hb ho=>(ho.2.2.2 (.inr (.inr (.inr hb)))).elim
 intro gb cap w6 hp;obtain⟨M7,WZ⟩:=Md.push jn hp Oo.o u9.o Tdt (fun u v=>by rw[a5.o,a5.o];rfl);have u5:w6.cell? (Tac Lv 5)=some (.slice sp Gf.length mL):=by simp[AN,WZ,a5.o]
 have uf:w6.frozen? (Tac Lv 5)=false:=by simp[BT,WZ]
 clear hp WZ y0 y1 y2 y3 y4 y5 y6 y7 y8 y9 bd v5 jn;go_wp2;exact HK.o _ _ _ _ _ _ _ _ M7
def TaI(x0:Int)(x1:Int):Tab #[.int .i64 x0,.int .i64 x1,.int .i64 8,.slice none 0 0,.int .i64 0,.slice none 0 0,.string ⟨#[]⟩,.string ⟨#[]⟩,.int .i64 0,.int .i64 0,.int .i64 0]:=⟨⟩
def TaE(x0:Int)(x1:Int):Tab #[.int .i64 x0,.int .i64 x1,.int .i64 10,.slice none 0 0,.int .i64 0,.slice none 0 0,.string ⟨#[]⟩,.string ⟨#[]⟩,.int .i64 0,.int .i64 0,.int .i64 0]:=⟨⟩
def TaH(x0:Int)(x1:Int):Tab #[.int .i64 x0,.int .i64 x1,.int .i64 9,.slice none 0 0,.int .i64 0,.slice none 0 0,.string ⟨#[]⟩,.string ⟨#[]⟩,.int .i64 0,.int .i64 0,.int .i64 0]:=⟨⟩
def TaG(x0:Int)(x1:Int):Tab #[.int .i64 x0,.int .i64 x1,.int .i64 1,.slice none 0 0,.int .i64 0,.slice none 0 0,.string ⟨#[]⟩,.string ⟨#[]⟩,.int .i64 0,.int .i64 0,.int .i64 0]:=⟨⟩
def TaU(x0:ByteArray):Tab #[.string x0,.int .u64 0,.bool false,.bool false,.slice none 0 0,.slice none 0 0]:=⟨⟩
def Ter{p:Prop}(h:p:=by simp[iG,aV]):p:=h
def Tdg{p:Prop}(h:p:=by rw[show((c-1:Nat):Int)=(c:Int)-1 by omega]):p:=h
def Tdz{p:Prop}(h:p:=by first|omega|(simp only[cD,cS,Ox];omega)):p:=h
def CE(X:Nat->Prop)(bs bb sb tn tc:Nat)(tp:Option Addr)(nv vv:Value)(g:af)(next:List Int)(w:World)(h:eW X w bs bb nv vv g next)(hk:BOk g next)(name:ByteArray)(id:Int)(hidden ro:Bool)(x0:aB)(az:0<=x0.length/\x0.length<=1000)
  (hsv:iL bC 11 (okB X bb nv vv) w (.slice (some sb) 1 1) [x0]) :
  Calls prog 20 #[.pointer (some bb),.agg #[name,.int .u64 id,hidden,ro,.slice tp tn tc,.slice (some sb) 1 1]] w (FT X bs bb nv vv g next name id hidden ro (.slice tp tn tc) x0 w):=by
 have k2:=hk.dk.pos;have k3:=hk.dk.le;have b8:sb<w.1.size:=by
  obtain⟨b,olds,e,hb,_⟩:=hsv;injection e with e;injection e with e;injection e with e;omega
 go_enter func20,ntmps20;have cX:=h.Gj;have gO:=h.lt
 have c0:∀o p,((w.alloc o).alloc p).cell? bb=some (.pointer (some bs)):=fun o p=>by
  have e:((w.alloc o).alloc p).1[bb]?=w.1[bb]?:=by rw[cj _ _ _ Tc6,cj _ _ _ cX]
  exact(cd (w:=w) e).trans h.c0
 generalize am:(fun v:Value=>#[Cd name,.int .u64 id,.bool hidden,.bool ro,.slice tp tn tc,v])=cs;have SS:∀v,cs v=#[.string name,.int .u64 id,.bool hidden,.bool ro,.slice tp tn tc,v]:=fun v=>by rw[<- am]
 replace SS:=aa SS;clear am;have M0:T8 X bs bb nv vv g next w w.1.size cs [x0] (.slice (some sb) 1 1) [x0] [] next ((w.alloc (.cells #[name,.int .u64 id,hidden,ro,.slice tp tn tc,.slice (some sb) 1 1] 68)).alloc (.cells (TaU es) 68)):=by
  have hb:Below w.1.size w ((w.alloc (.cells #[name,.int .u64 id,hidden,ro,.slice tp tn tc,.slice (some sb) 1 1] 68)).alloc (.cells (TaU es) 68)):=((bj _ _).alloc (bk _) _).alloc Tc2 _;have hno:∀k,eO X w.1.size (.slice (some sb) 1 1) k->X k\/k=w.1.size\/k=w.1.size+1:=by
   rintro k (q|q|q|q)
   ·exact .inl q
   ·exact .inr (.inl q)
   ·exact .inr (.inr q)
   obtain rfl:sb=k:=by injection q.1
   have:=q.2;omega
  refine⟨(aH.refl h).fresh hb (fun k hk=>?_),?_,⟨#[.string es,.int .u64 0,false,false,.slice none 0 0,.slice none 0 0],rfl,?_⟩,.inl ⟨hsv.moves bC.moves ⟨hb.size,fun b aA ho=>⟨⟨ho.1,ho.2.1,ho.2.2.1,fun q=>?_⟩,hb.block b aA⟩⟩,fun b e=>?_⟩,.nil,.nil _,Tc2,fun x hx=>?_,bk _,Tc2⟩
  ·rcases hno k hk with q|q|q
   ·exact .inl q
   ·exact .inr ⟨Tc1,Tc6⟩
   exact .inr ⟨Tc1,Tc6⟩
  ·rw[cj _ _ _ Tc2,b9,SS.o]
  ·have:=b9 (w.alloc (.cells #[name,.int .u64 id,hidden,ro,.slice tp tn tc,.slice (some sb) 1 1] 68)) (.cells (TaU es) 68);rw[cW]at this;exact this
  ·rcases hno b q with q|q|q
   ·exact ho.2.2.2 q
   ·omega
   omega
  ·obtain rfl:sb=b:=by injection e
   omega
  simp only[dr,cY,dg]at hx;rw[hx];exact az
 go_wp2_with fail;refine(bY bs 3 _ Tc1 Tc1 M0.post.bld.src).mono ?_;rintro e w1 ⟨cv,rfl,ba,zc,hs1,ao⟩;have M1:=M0.read hs1 ao;clear ao hs1 c0 M0 hsv;obtain⟨c,rfl⟩:∃u:Nat,cv=u:=⟨cv.toNat,Tc1⟩;go_wp2
 go_loopw[5] (fun i wr=>∃(c:Nat) (sv:Value) (Gf:List aB) (ps:List (ByteArray × Int × Int)) (nx:List Int),c+Gf.length<=3/\i=.int .i64 c/\T8 X bs bb nv vv g next w w.1.size cs [x0] sv Gf ps nx wr) (fun i _=>(intOf i).toNat)
 exact⟨c,_,_,_,_,Tc6,rfl,M1⟩;obtain⟨c,sv,Gf,ps,nx,bd,rfl,M⟩:=hrel;have GF:Gf.length<=3:=by omega
 obtain⟨sp,mL,PO,s1,s2,s3⟩:=(M.st.rd bC.moves Tc4 (ok':=fun _=>True) (fun _ _ _=>trivial) (fun _ _=>trivial)).form;subst PO;replace s3:=aa s3;by_cases hc0:c=0
 ·subst hc0;have PQ:wr.1[w.1.size]?=some (.cells #[name,.int .u64 id,hidden,ro,.slice tp tn tc,.slice sp Gf.length mL] 68 (0,0)):=by rw[<- SS.o];exact M.bv
  have qL:=cr PQ;obtain⟨q0,q1,q2,q3,q4,q5⟩:=sv6 qL;obtain⟨zs,aC,hr⟩:=M.br;obtain⟨z0,z1,z2,z3,z4,z5,rfl⟩:∃z0 z1 z2 z3 z4 z5,zs=#[z0,z1,z2,z3,z4,z5]:=by
   obtain⟨l⟩:=zs
   match l,aC with
   |[a,b,c,d,e,f],_=>exact⟨a,b,c,d,e,f,rfl⟩
  obtain⟨r0,r1,r2,r3,r4,r5⟩:=sv6 (cr hr);have rf:=sr hr;replace qL:=aa qL;replace hr:=aa hr;have VD:=aa PQ;clear PQ;have RD:ck bC 11 (fun b=>okB X bb nv vv b/\b≠w.1.size+1) wr [.slice sp Gf.length mL] Gf:=M.st.rd bC.moves Tc4 (fun b _ ho=>⟨⟨ho.1,ho.2.1,ho.2.2.1,fun q=>ho.2.2.2 (.inl q)⟩,fun e=>ho.2.2.2 (.inr (.inr (.inl e)))⟩) (fun b hb=>by
   have hy:eO X w.1.size (.slice sp Gf.length mL) b:=.inr (.inr (.inr hb));have:=hb.2;exact⟨⟨(M.post.bld.xlt b hy).1,fun q=>M.post.bld.xn b q hy,fun q=>M.post.bld.xv b q hy,fun q=>by have:=(h.xlt b q).2;omega⟩,Tc1⟩)
  have PP:aH X bs bb nv vv w ((((((wr.setCell (Tac (w.1.size+1) 0) (.string name)).setCell (Tac (w.1.size+1) 1) (.int .u64 id)).setCell (Tac (w.1.size+1) 2) (.bool hidden)).setCell (Tac (w.1.size+1) 3) (.bool ro)).setCell (Tac (w.1.size+1) 4) (.slice tp tn tc)).setCell (Tac (w.1.size+1) 5) (.slice sp Gf.length mL)) nv vv g nx :=
   ((((((M.post.put _ 0 _ (.inr (.inr (.inl rfl))) Tc1).put _ 1 _ (.inr (.inr (.inl rfl))) Tc1).put _ 2 _ (.inr (.inr (.inl rfl))) Tc1).put _ 3 _ (.inr (.inr (.inl rfl))) Tc1).put _ 4 _ (.inr (.inr (.inl rfl))) Tc1).put _ 5 _ (.inr (.inr (.inl rfl))) Tc1).fewer (fun k hk=>.inl hk)
  have RF:ck bC 11 (okB X bb nv vv) ((((((wr.setCell (Tac (w.1.size+1) 0) (.string name)).setCell (Tac (w.1.size+1) 1) (.int .u64 id)).setCell (Tac (w.1.size+1) 2) (.bool hidden)).setCell (Tac (w.1.size+1) 3) (.bool ro)).setCell (Tac (w.1.size+1) 4) (.slice tp tn tc)).setCell (Tac (w.1.size+1) 5) (.slice sp Gf.length mL)) [.slice sp Gf.length mL] Gf :=
   (ck.moves bC.moves).mv ⟨Tdd,fun b _ ho=>⟨ho.1,by rw[bw _ _ _ _ ho.2,bw _ _ _ _ ho.2,bw _ _ _ _ ho.2,bw _ _ _ _ ho.2,bw _ _ _ _ ho.2,bw _ _ _ _ ho.2]⟩⟩ RD
  replace PP:=aa PP;replace RF:=aa RF;clear RD;go_wp2;refine eC (v:=.agg #[name,.int .u64 id,hidden,ro,.slice tp tn tc,.slice sp Gf.length mL]) (by simp[results,Tryz.results20,go_sem,r0,r1,r2,r3,r4,r5]) rfl ⟨_,Gf,ps,nx,rfl,M.more,GF,M.took,M.sub,PP.o,RF.o⟩
 have dk:=M.took.ok hk.dk;have PQ:wr.1[w.1.size]?=some (.cells #[name,.int .u64 id,hidden,ro,.slice tp tn tc,.slice sp Gf.length mL] 68 (0,0)):=by rw[<- SS.o];exact M.bv
 have q5:=cr PQ 5 _ rfl;have VD:=aa PQ;clear PQ;have be:decide ((0:Int)<(c:Int))=true:=by simp;omega
 go_wp2;go_loop[6,7] (fun s i=>∃k:Nat,k<=Gf.length/\i=.int .i64 k/\s=.int .i64 (bg (Gf.take k))) (fun _ i=>Gf.length-(intOf i).toNat)
 exact⟨0,Tc1,rfl,rfl⟩;obtain⟨k,Vk,rfl,rfl⟩:=hrel;have SU:=Bb (Gf.take k) (fun x hx=>M.len x (tR hx));have Xa:((Gf.take k).length:Int)<=3:=by rw[ey];omega
 have Xb:=SU.1;have Xc:bg (Gf.take k)<=3000:=by omega
 clear SU Xa;by_cases hlt:k<Gf.length
 ·obtain⟨b,off,rfl,hb,_,ON⟩:=s3.o Tc1;obtain⟨y,hy⟩:=aj Gf k hlt;have hyl:=M.len y (ct hy);have bf:=hyl.1;have bh:=hyl.2;have bi:wr.cell? (b,off+k*11+1)=some (.int .i64 y.length):=by
   obtain⟨u,_,⟨a,t,rfl,_⟩,hc⟩:=ON k y hy;exact hc 1 _ rfl
  have V2:=aa (om Gf k y hy);clear ON hy hyl;go_wp2;go_round;exact⟨k+1,Tc1,Tc5,by rw[V2.o]⟩;simp[intOf];omega
 obtain rfl:k=Gf.length:=by omega
 rw[cI]at Xb Xc ⊢;have c0:=M.post.bld.c0;go_wp2_with fail;refine(bO bs 1 3 _ Tc1 Tc1 Tc1 M.post.bld.src).mono ?_;rintro e w2 ⟨n,rfl,hn1,hn2,hs2,au⟩;have M2:=M.read hs2 au;clear au hs2 c0 q5;have c0:=M2.post.bld.c0;have M3:=M2.below (ae w2 (.cells #[.int .i64 1,.int .i64 9,.int .i64 10,.int .i64 8] 3));have hb2:=M2.post.bld.Gj;have Q7:=M2.post.bld.lt;have Zc:ig (w2.alloc (.cells #[.int .i64 1,.int .i64 9,.int .i64 10,.int .i64 8] 3)) w2.1.size 0 [1,9,10,8]:=mo w2 _ [1,9,10,8];replace Zc:=aa Zc;go_wp2_with fail;refine(jD bs w2.1.size 4 [1,9,10,8] _ Tc2 Tc2 Tc2 Tc1 Tc2 Tc1 Zc.o M3.post.bld.src).mono ?_;rintro e w4 ⟨kd,rfl,zE,av,aw⟩;have M4:=M3.read av aw;clear aw av c0 M2 M3;simp only[dr,cY,dg]at zE;rcases zE with rfl|rfl|rfl|rfl
 ·have M5:fw (fD X w4.1.size) bs bb nv vv g next w w.1.size cs [x0] (.slice sp Gf.length mL) Gf ps nx w4.1.size #[.int .i64 (bg Gf),.int .i64 n,.int .i64 1,.slice none 0 0,.int .i64 0,.slice none 0 0,.string ⟨#[]⟩,.string ⟨#[]⟩,.int .i64 0,.int .i64 0,.int .i64 0] (w4.alloc (.cells (TaG (bg Gf) n) 114)):=⟨M4.fresh (.cells (TaG (bg Gf) n) 114),b9 w4 _,.inr rfl⟩
  have a8:=M4.hB;have a9:(Value.slice sp Gf.length mL).ownBlock≠some w4.1.size:=fun e=>by have:=M4.svLt e;omega
  have hxk:(w4.alloc (.cells (TaG (bg Gf) n) 114)).cell? (Tac w4.1.size 2)=some (.int .i64 1):=aD rfl rfl;go_upto_region 12 with(fail);clear hxk;generalize a7:w4.alloc _=W5 at *;generalize Kd:w4.1.size=L4 at *;clear a7 Kd;refine qB M5 hk n hn1 hn2 _ _ (fun _ _ _ _ _ h=>h) (aa ?_);intro A on s ok ps1 nx1 w5 u60 u61 u62 u63 u64 u65 u66 u67 u68 u69 u70 u71 u72 u73 u74 u75 u76 hA UA gw M6 hX;clear hX M5;cases ok with
  |false =>
   go_wp2;go_roundw;exact⟨c-1,_,Gf,_,_,Tdz,Tdg,M6.m.drop⟩;simp[intOf];omega
  |true =>
   obtain rfl:=gw rfl;clear gw;obtain⟨a0,a1,a2⟩:=sv3 (cr hA);obtain⟨M7,a5,ab⟩:=M6.lit a8 a9 #[.bool false,.string on,.int .i64 s];simp only[xT,List.set_cons_zero,List.set_cons_succ]at M7;have l3:(w5.alloc (.cells (Tau on s) 53)).cell? (Tac L4 3)=some (.slice none 0 0):=by rw[cd (w:=w5) (cj _ _ _ (aq M6.lx))];simp[AN,M6.lx]
   have lf:(w5.alloc (.cells (Tau on s) 53)).frozen? (Tac L4 3)=false:=by rw[rh (w:=w5) (cj _ _ _ (aq M6.lx))];simp[BT,M6.lx]
   have l2:((w5.alloc (.cells (Tau on s) 53)).setCell (Tac L4 3) (.slice (some w5.1.size) 1 1)).cell? (Tac L4 2)=some (.int .i64 1):=by simp[AN,M7.lx]
   have HA:=aa hA;clear hA;have Xd:=aa a5;clear a5;have Qy:=aa ab;clear ab;have Qx:=aa M7;clear M7 M6;go_upto_region 19 with(fail);clear a0 a1 a2 l3 lf l2;generalize ah:AF (w5.alloc _) _ _=W7 at *;generalize Xe:w5.1.size=Sb at *;clear ah Xe;have M7:=Qx.o;go_upto_region 19 with(fail);refine jW (M7.drop (.inr rfl)) SS Tc1 (ck.one (V:=aQ) (u:=[.bool false,.string on,.int .i64 s]) (x:=(⟨false,on,s⟩:aR)) Xd.o ⟨Qy.o.1,Qy.o.2.1,Qy.o.2.2.1,fun q=>Qy.o.2.2.2 (q.imp .inl (fun z=>z))⟩ rfl (show _=_ from rfl)) (.lin M.more ⟨hn1,hn2⟩) (M.more.sub M.sub (x:=aV (bg Gf) n 1 [⟨false,on,s⟩] 0) Ter) hn1 hn2 _ _ _ _ _ _ _ _ _ _ _ _ _ _ _ _ _ _ _ _ _ _ _ _ _ _ _ _ _ _ _ _ _ _ _ _ _ _ _ _ _ _ _ _ _ _ _ _ _ _ _ _ _ _ _ _ _ _ _ _ _ _ _ _ _ _ _ _ _ _ _ _ _ _ _ _ _ _ _ _ _ _ _ _ _ _ _ _ _ _ _ _ _ _ _ _ _ _ _ _ _ _ _ _ _ _ _ _ _ _ _ _ _ _ _ _ _ _ _ _ _ _ _ _ (aa ?_);intro ai w9 u118 u119 u120 u121 u122 u123 M9;go_wp2;go_roundw;exact⟨c-1,_,(Gf++[aV (bg Gf) n 1 [⟨false,on,s⟩] 0]),_,_,Tdz,Tdg,M9⟩;simp[intOf];omega
 ·have M5:fw (fD X w4.1.size) bs bb nv vv g next w w.1.size cs [x0] (.slice sp Gf.length mL) Gf ps nx w4.1.size #[.int .i64 (bg Gf),.int .i64 n,.int .i64 9,.slice none 0 0,.int .i64 0,.slice none 0 0,.string ⟨#[]⟩,.string ⟨#[]⟩,.int .i64 0,.int .i64 0,.int .i64 0] (w4.alloc (.cells (TaH (bg Gf) n) 114)):=⟨M4.fresh (.cells (TaH (bg Gf) n) 114),b9 w4 _,.inr rfl⟩
  have a8:=M4.hB;have a9:(Value.slice sp Gf.length mL).ownBlock≠some w4.1.size:=fun e=>by have:=M4.svLt e;omega
  have hxk:(w4.alloc (.cells (TaH (bg Gf) n) 114)).cell? (Tac w4.1.size 2)=some (.int .i64 9):=aD rfl rfl;go_upto_region 19 with(fail);clear hxk;generalize a7:w4.alloc _=W5 at *;generalize Kd:w4.1.size=L4 at *;clear a7 Kd;go_upto_region 19 with(fail);refine jW M5 SS Tc1 (ck.nil) (.void M.more ⟨hn1,hn2⟩ (.inl rfl)) (by have:=M.more.sub M.sub (x:=aV (bg Gf) n 9 [] 0) (ps1:=[]) Ter;simpa using this) hn1 hn2 _ _ _ _ _ _ _ _ _ _ _ _ _ _ _ _ _ _ _ _ _ _ _ _ _ _ _ _ _ _ _ _ _ _ _ _ _ _ _ _ _ _ _ _ _ _ _ _ _ _ _ _ _ _ _ _ _ _ _ _ _ _ _ _ _ _ _ _ _ _ _ _ _ _ _ _ _ _ _ _ _ _ _ _ _ _ _ _ _ _ _ _ _ _ _ _ _ _ _ _ _ _ _ _ _ _ _ _ _ _ _ _ _ _ _ _ _ _ _ _ _ _ _ _ (aa ?_);intro ai w9 u118 u119 u120 u121 u122 u123 M9;go_wp2;go_roundw;exact⟨c-1,_,(Gf++[aV (bg Gf) n 9 [] 0]),_,_,Tdz,Tdg,M9⟩;simp[intOf];omega
 ·have M5:fw (fD X w4.1.size) bs bb nv vv g next w w.1.size cs [x0] (.slice sp Gf.length mL) Gf ps nx w4.1.size #[.int .i64 (bg Gf),.int .i64 n,.int .i64 10,.slice none 0 0,.int .i64 0,.slice none 0 0,.string ⟨#[]⟩,.string ⟨#[]⟩,.int .i64 0,.int .i64 0,.int .i64 0] (w4.alloc (.cells (TaE (bg Gf) n) 114)):=⟨M4.fresh (.cells (TaE (bg Gf) n) 114),b9 w4 _,.inr rfl⟩
  have a8:=M4.hB;have a9:(Value.slice sp Gf.length mL).ownBlock≠some w4.1.size:=fun e=>by have:=M4.svLt e;omega
  have hxk:(w4.alloc (.cells (TaE (bg Gf) n) 114)).cell? (Tac w4.1.size 2)=some (.int .i64 10):=aD rfl rfl;go_upto_region 19 with(fail);clear hxk;generalize a7:w4.alloc _=W5 at *;generalize Kd:w4.1.size=L4 at *;clear a7 Kd;go_upto_region 19 with(fail);refine jW M5 SS Tc1 (ck.nil) (.void M.more ⟨hn1,hn2⟩ (.inr rfl)) (by have:=M.more.sub M.sub (x:=aV (bg Gf) n 10 [] 0) (ps1:=[]) Ter;simpa using this) hn1 hn2 _ _ _ _ _ _ _ _ _ _ _ _ _ _ _ _ _ _ _ _ _ _ _ _ _ _ _ _ _ _ _ _ _ _ _ _ _ _ _ _ _ _ _ _ _ _ _ _ _ _ _ _ _ _ _ _ _ _ _ _ _ _ _ _ _ _ _ _ _ _ _ _ _ _ _ _ _ _ _ _ _ _ _ _ _ _ _ _ _ _ _ _ _ _ _ _ _ _ _ _ _ _ _ _ _ _ _ _ _ _ _ _ _ _ _ _ _ _ _ _ _ _ _ _ (aa ?_);intro ai w9 u118 u119 u120 u121 u122 u123 M9;go_wp2;go_roundw;exact⟨c-1,_,(Gf++[aV (bg Gf) n 10 [] 0]),_,_,Tdz,Tdg,M9⟩;simp[intOf];omega
 have M5:fw (fD X w4.1.size) bs bb nv vv g next w w.1.size cs [x0] (.slice sp Gf.length mL) Gf ps nx w4.1.size #[.int .i64 (bg Gf),.int .i64 n,.int .i64 8,.slice none 0 0,.int .i64 0,.slice none 0 0,.string ⟨#[]⟩,.string ⟨#[]⟩,.int .i64 0,.int .i64 0,.int .i64 0] (w4.alloc (.cells (TaI (bg Gf) n) 114)):=⟨M4.fresh (.cells (TaI (bg Gf) n) 114),b9 w4 _,.inr rfl⟩
 have a8:=M4.hB;have a9:(Value.slice sp Gf.length mL).ownBlock≠some w4.1.size:=fun e=>by have:=M4.svLt e;omega
 have hxk:(w4.alloc (.cells (TaI (bg Gf) n) 114)).cell? (Tac w4.1.size 2)=some (.int .i64 8):=aD rfl rfl;go_upto_region 12 with(fail);clear hxk;generalize a7:w4.alloc _=W5 at *;generalize Kd:w4.1.size=L4 at *;clear a7 Kd;refine qB M5 hk n hn1 hn2 _ _ (fun _ _ _ _ _ h=>h) (aa ?_);intro A on s ok ps1 nx1 w5 u60 u61 u62 u63 u64 u65 u66 u67 u68 u69 u70 u71 u72 u73 u74 u75 u76 hA UA gw M6 hX;clear hX M5;cases ok with
 |false =>
  go_wp2;go_roundw;exact⟨c-1,_,Gf,_,_,Tdz,Tdg,M6.m.drop⟩;simp[intOf];omega
 |true =>
  obtain rfl:=gw rfl;clear gw;obtain⟨a0,a1,a2⟩:=sv3 (cr hA);obtain⟨M7,a5,ab⟩:=M6.lit a8 a9 #[.bool false,.string on,.int .i64 s];simp only[xT,List.set_cons_zero,List.set_cons_succ]at M7;have l3:(w5.alloc (.cells (Tau on s) 53)).cell? (Tac L4 3)=some (.slice none 0 0):=by rw[cd (w:=w5) (cj _ _ _ (aq M6.lx))];simp[AN,M6.lx]
  have lf:(w5.alloc (.cells (Tau on s) 53)).frozen? (Tac L4 3)=false:=by rw[rh (w:=w5) (cj _ _ _ (aq M6.lx))];simp[BT,M6.lx]
  have l2:((w5.alloc (.cells (Tau on s) 53)).setCell (Tac L4 3) (.slice (some w5.1.size) 1 1)).cell? (Tac L4 2)=some (.int .i64 8):=by simp[AN,M7.lx]
  have HA:=aa hA;clear hA;have Xd:=aa a5;clear a5;have Qy:=aa ab;clear ab;have Qx:=aa M7;clear M7 M6;go_upto_region 16 with(fail);clear a0 a1 a2 l3 lf l2;generalize ah:AF (w5.alloc _) _ _=W7 at *;generalize Xe:w5.1.size=Sb at *;clear ah Xe;have M7:=Qx.o;refine zM M7 hk n hn1 hn2 _ _ (fun _ _ _ _ _ h=>h) (aa ?_);intro A2 ak s2 aE bl nx2 w8 bm bp bq bu bz bD bE bF bG bH bI bJ bK bL bM aF aG hA2 Xf ay M8 hX;have a5:=(hX Sb (.inr rfl)).trans Xd.o;clear hX M7 Qx;have M9:=M8.drop (.inr rfl);clear M8;cases aE with
  |false =>
   go_wp2;go_roundw;exact⟨c-1,_,Gf,_,_,Tdz,Tdg,M9.m.drop⟩;simp[intOf];omega
  |true =>
   obtain rfl:=ay rfl;clear ay;go_upto_region 18 with(fail);refine yX M9 a8 a9 Xf a5 Qy.o hA2 hn1 hn2 _ _ (fun _ _ _ _ _ h=>h) (aa ?_);intro gb cap dn bN aI aJ aK aL aM aN aO aP aS aT aU aW aX aY PN SR aZ ag;clear M9 a5 hA2;have Xg:=aa ((ck.moves aQ.moves).mv (ok':=okB (eO X w.1.size (.slice sp Gf.length mL)) bb nv vv) ⟨bk _,fun b _ ho=>⟨⟨ho.1,ho.2.1,ho.2.2.1,fun q=>ho.2.2.2 (q.imp .inl (fun z=>z))⟩,rfl⟩⟩ ag);clear ag;go_upto_region 19 with(fail);refine jW aZ SS Tc1 (Xg.o) (.move M.more ⟨hn1,hn2⟩ ⟨PN,SR⟩) (by have:=M.more.sub M.sub (x:=aV (bg Gf) n 8 [⟨false,on,s⟩,⟨false,ak,s2⟩] dn) (ps1:=[(on,s,n),(ak,s2,n)]) Ter;rw[cV];exact this) hn1 hn2 _ _ _ _ _ _ _ _ _ _ _ _ _ _ _ _ _ _ _ _ _ _ _ _ _ _ _ _ _ _ _ _ _ _ _ _ _ _ _ _ _ _ _ _ _ _ _ _ _ _ _ _ _ _ _ _ _ _ _ _ _ _ _ _ _ _ _ _ _ _ _ _ _ _ _ _ _ _ _ _ _ _ _ _ _ _ _ _ _ _ _ _ _ _ _ _ _ _ _ _ _ _ _ _ _ _ _ _ _ _ _ _ _ _ _ _ _ _ _ _ _ _ _ _ (aa ?_);intro ai w9 u118 u119 u120 u121 u122 u123 M9;go_wp2;go_roundw;exact⟨c-1,_,(Gf++[aV (bg Gf) n 8 [⟨false,on,s⟩,⟨false,ak,s2⟩] dn]),_,_,Tdz,Tdg,M9⟩;simp[intOf];omega
structure Loc(w:World)(B Lx Ln Ll:Nat)(ft fx av:Value)(names:List ByteArray)(lengths:List Int)(Ga:List aR)(xs:Value->Array Value):Prop where
 bn:w.heap[Ln]?=some (.cells #[ft] 26 (0,0))
 bl:w.heap[Ll]?=some (.cells #[fx] 22 (0,0))
 bx:w.heap[Lx]?=some (.cells (xs av) 114 (0,0))
 on:bF aF 1 9 B (fun _=>False) w ft names
 ol:bF cO 1 3 B (fun _=>False) w fx lengths
 oa:bF aQ 3 53 B (fun _=>False) w av Ga
 nl:∀k,ft.ownBlock=some k->fx.ownBlock≠some k
 na:∀k,ft.ownBlock=some k->av.ownBlock≠some k
 la:∀k,fx.ownBlock=some k->av.ownBlock≠some k
 d1:Lx<Ln
 d2:Ln<Ll
 d3:Ll<B
def nJ(Lx Ln Ll:Nat)(ft fx av:Value):Nat->Prop:=fun k=>k=Lx\/k=Ln\/k=Ll\/ft.ownBlock=some k\/fx.ownBlock=some k\/av.ownBlock=some k
def bF.ge{V:jx α}{ok:Nat->Prop}{l:List α}(h:bF V sz t B ok w v l)(e:v.ownBlock=some k):B<=k/\k<w.1.size:=by
 exact TcI
def bF.Gl{V:jx α}(hV:Moves V){l:List α}(h:bF V sz t B (fun _=>False) w v l)(hz:w.1.size<=w'.1.size)(hk:∀k,v.ownBlock=some k->w'.1[k]?=w.1[k]?):bF V sz t B (fun _=>False) w' v l:=by
 obtain⟨cs,ho,hf⟩:=h;exact⟨cs,aC ho hk,Flat.moves hV ⟨hz,fun _ _ f=>f.elim⟩ _ _ hf⟩
def bF.ty{V:jx α}{ok:Nat->Prop}{l:List α}(h:bF V sz t B ok w v l)(e:v.ownBlock=some k):∃cs,w.1[k]?=some (.cells cs t (0,0)):=by
 obtain⟨cs,⟨_,h2⟩,_⟩:=h;rcases h2 with⟨rfl,_⟩|⟨g,cap,a5,rfl,_,hg,_⟩
 ·cases e
 obtain rfl:g=k:=by injection e
 exact⟨a5,hg⟩
def bF.ne{β:Type}{V:jx α}{V':jx β}{a7 B':Nat}{t':TypeId}{ok ok':Nat->Prop}{v':Value}{l:List α}{l':List β}(h:bF V sz t B ok w v l)(h':bF V' a7 t' B' ok' w v' l')(ht:t≠t'):∀k,v.ownBlock=some k->v'.ownBlock≠some k:=fun k e e'=>by
 obtain⟨c,hc⟩:=h.ty e;obtain⟨c',a5⟩:=h'.ty e';rw[hc]at a5;injection a5 with a5;injection a5 with _ q _;exact ht q
def bF.form{V:jx α}{ok:Nat->Prop}{l:List α}(h:bF V sz t B ok w v l):∃p cap,v=.slice p l.length cap/\l.length<=cap/\cap<=9223372036854775807:=by
 obtain⟨cs,⟨_,h2⟩,_⟩:=h;rcases h2 with⟨rfl,hn⟩|⟨g,cap,a5,rfl,_,_,vr,hcm,_⟩
 ·exact⟨none,0,by rw[hn],Tc1,Tc1⟩
 exact⟨_,cap,rfl,vr,Tdj⟩
def Loc.keep{Lx Ln Ll:Nat}{ft fx av:Value}{names:List ByteArray}{xs:Value->Array Value}(h:Loc w B Lx Ln Ll ft fx av names lengths Ga xs)(hz:w.1.size<=w'.1.size)(hk:∀k,nJ Lx Ln Ll ft fx av k->w'.1[k]?=w.1[k]?):Loc w' B Lx Ln Ll ft fx av names lengths Ga xs :=
 ⟨(hk Ln (.inr (.inl rfl))).trans h.bn,(hk Ll (.inr (.inr (.inl rfl)))).trans h.bl,(hk Lx (.inl rfl)).trans h.bx,h.on.Gl aF.moves hz (fun k e=>hk k (.inr (.inr (.inr (.inl e))))),h.ol.Gl cO.moves hz (fun k e=>hk k (.inr (.inr (.inr (.inr (.inl e)))))),h.oa.Gl aQ.moves hz (fun k e=>hk k (.inr (.inr (.inr (.inr (.inr e)))))),h.nl,h.na,h.la,h.d1,h.d2,h.d3⟩
structure FO(w:World)(B Lx Ln Ll:Nat)(ft fx av:Value)(names:List ByteArray)(lengths:List Int)(Ga:List aR)(xs:Value->Array Value)(s:ByteArray)(n:Int)(ar3 Kf av':Value)(w':World):Prop where
 loc:Loc w' B Lx Ln Ll ar3 Kf av' (names++[s]) (lengths++[n]) (Ga++[⟨true,s,0⟩]) xs
 mod:cR (nJ Lx Ln Ll ft fx av) w w'
 fr:∀k,nJ Lx Ln Ll ar3 Kf av' k->nJ Lx Ln Ll ft fx av k\/(w.heap.size<=k/\k<w'.heap.size)
def jA(h:w.grownBy w' v.ownBlock):cR (fun k=>v.ownBlock=some k) w w':=⟨h.os,h.tape,h.output,h.size,fun k hk hn=>h.block k hk fun e=>hn e.symm⟩
def TbC{p:Prop}(h:p:=by
 have hk5:=(ol5.ge q).2;obtain rfl:g2=k:=by injection q
 rcases t2 with q1|q1
 ·exact .inl (.inr (.inr (.inr (.inr (.inl q1)))))
 exact .inr ⟨Tc1,hk5⟩):p:=h
def TbH{p:Prop}(h:p:=by
 have hk5:=(on5.ge q).2;obtain rfl:g1=k:=by injection q
 rcases t1 with q1|q1
 ·exact .inl (.inr (.inr (.inr (.inl q1))))
 exact .inr ⟨Tc1,hk5⟩):p:=h
def Tbl{p:Prop}(h:p:=by
 rw[<- hW];exact((hm.mono (G:=nJ Lx Ln Ll ft fx av) (fun k q=>q.elim (fun q=>.inr (.inr (.inr (.inl q)))) (fun q=>.inr (.inr (.inr (.inr (.inl q))))))).setCell (p:=Ln) (.inl (.inr (.inl rfl))) _).setCell (p:=Ll) (.inl (.inr (.inr (.inl rfl)))) _):p:=h
def Tcy{p:Prop}(h:p:=by
 rw[<- hW];exact block_setCell (cs:=#[_]) (i:=0) _ ((bw _ _ _ _ (Ne.symm x1)).trans bl)):p:=h
def Tbu{p:Prop}(h:p:=by
 refine⟨fun q=>(hC.1 q).Gl aF.moves hp.grown.size (fun k e=>hp.grown.block k ((hC.1 q).ge e).2 (fun e'=>hd.nl k e e'.symm)),fun q=>by simp at q,hC.2.2.trans (jA hp.grown) (fun k e=>.inl (.inr e))⟩):p:=h
def Tb8{p:Prop}(h:p:=by
 obtain rfl:gb=k:=by injection ek
 rcases hat with q|q
 ·exact hd.nl gb q e7
 have:=(hd.ol.ge e7).2;omega):p:=h
def Tbt{p:Prop}(h:p:=by
 refine⟨fun q=>by simp at q,fun q=>(hC.2.1 q).Gl cO.moves hp.grown.size (fun k e=>hp.grown.block k ((hC.2.1 q).ge e).2 (fun e'=>hd.nl k e'.symm e)),hC.2.2.trans (jA hp.grown) (fun k e=>.inl (.inl e))⟩):p:=h
def TcF{p:Prop}(h:p:=by
 simp only[World.cell?,hb.2];simpa using hy):p:=h
def Tb9{p:Prop}(h:p:=by
 obtain rfl:gb=k:=by injection ek
 rcases hat with q|q
 ·exact hd.nl gb e3 q
 have:=(hd.on.ge e3).2;omega):p:=h
def Tbv{p:Prop}(h:p:=by
 exact⟨fun q=>(hC.1 q).Gl aF.moves Tc2 (fun k e=>cj _ _ _ ((hC.1 q).ge e).2),fun q=>(hC.2.1 q).Gl cO.moves Tc2 (fun k e=>cj _ _ _ ((hC.2.1 q).ge e).2),hC.2.2.alloc _⟩):p:=h
def Tea{p:Prop}(h:p:=by have:=(oa.ge e).1;omega):p:=h
def Teb{p:Prop}(h:p:=by have:=(o2.ge e).1;omega):p:=h
def Tec{p:Prop}(h:p:=by have:=(o1.ge e).1;omega):p:=h
def jM(w:World)(B Lx Ln Ll:Nat)(ft fx av:Value)(names:List ByteArray)(lengths:List Int)(Ga:List aR)(xs:Value->Array Value)(x0 x1 x2 x4 x5 x6 x7 x8 x9 au:Value)(hxs:∀v,xs v=#[x0,x1,x2,v,x4,x5,x6,x7,x8,x9,au])(h:Loc w B Lx Ln Ll ft fx av names lengths Ga xs)(hB:B<=w.1.size)(s:ByteArray)(n:Int)(hn:names.length<=100)(hl:lengths.length<=100)(ha:Ga.length<=100) :
  Calls prog 54 #[.string s,.int .i64 n,.pointer (some Ln),.pointer (some Ll),.pointer (some Lx)] w (fun e w'=>e=.returned (.tuple #[])/\∃ar3 Kf av',FO w B Lx Ln Ll ft fx av names lengths Ga xs s n ar3 Kf av' w'):=by
 have cn:=cr h.bn 0 _ rfl;have cl:=cr h.bl 0 _ rfl;have hd1:=h.d1;have hd2:=h.d2;have ay:=h.d3;go_enter func54,ntmps54;go_wp2;refine aL (fun w'=>w'.cell? Ln=some ft/\w'.cell? Ll=some fx) 8 [1,5] Tc3 ⟨cn,cl⟩ (fun a5=>?_);refine fz 1 ?_;refine fz 5 ?_;refine fS 0 a5 ?_;refine fS 4 a5 ?_;have hd:Loc w.drew B Lx Ln Ll ft fx av names lengths Ga xs:=h.keep (bk _) (fun _ _=>rfl);have Gk:cR (fun _=>False) w w.drew:=(cR.refl _ _).drewN 1;have aH:B<=w.drew.1.size:=hB;generalize az:w.drew=wd at *;clear az;have AH:∀k,k<B->¬(ft.ownBlock=some k\/fx.ownBlock=some k):=fun k hk q=>q.elim (fun e=>by have:=(hd.on.ge e).1;omega) (fun e=>by have:=(hd.ol.ge e).1;omega);obtain⟨i1,am,ae,af,ag⟩:=gg zY;obtain⟨i2,hi2,ah,ai,aj⟩:=gg tZ
 refine fE (idx:=[(2,9),(3,10),(6,13),(7,14)]) (fun i=>[i])
  (fun i vs w'=>match i with
   |2=>∃b,vs 2=.slice (some ⟨b,0,none⟩) 1 1/\dS wd.1.size 9 [.string s] b w'
   |3=>∃gb cap,vs 3=.slice (some ⟨gb,0,none⟩) (names.length+1) cap/\bF aF 1 9 B (fun _=>False) w' (.slice (some ⟨gb,0,none⟩) (names.length+1) cap) (names++[s])/\(ft.ownBlock=some gb\/wd.1.size<=gb)
   |6=>∃b,vs 6=.slice (some ⟨b,0,none⟩) 1 1/\dS wd.1.size 3 [.int .i64 n] b w'
   |7=>∃gb cap,vs 7=.slice (some ⟨gb,0,none⟩) (lengths.length+1) cap/\bF cO 1 3 B (fun _=>False) w' (.slice (some ⟨gb,0,none⟩) (lengths.length+1) cap) (lengths++[n])/\(fx.ownBlock=some gb\/wd.1.size<=gb)
   |_=>True)
  (fun d w'=>(d 3=false->bF aF 1 9 B (fun _=>False) w' ft names)/\(d 7=false->bF cO 1 3 B (fun _=>False) w' fx lengths)/\cR (fun k=>ft.ownBlock=some k\/fx.ownBlock=some k) wd w')
  (fun i w1 w2=>w1.1.size<=w2.1.size/\∀k,k<w1.1.size->(i=3->ft.ownBlock≠some k)->(i=7->fx.ownBlock≠some k)->w2.1[k]?=w1.1[k]?) Tc3 rfl ?cs ?st (fun _ _ _ _ h=>h) ?c0 ?ob ?fin
 case c0=>exact⟨fun _=>hd.on,fun _=>hd.ol,cR.refl _ _⟩
 case cs =>
  intro d w' hC;have hm:=hC.2.2;refine⟨?_,?_⟩
  ·rw[hm.cell (p:=Ln) (aq hd.bn) (AH Ln Tc1)];simp[AN,hd.bn]
  rw[hm.cell (p:=Ll) (aq hd.bl) (AH Ll Tc1)];simp[AN,hd.bl]
 case st =>
  intro p hp q _ hne vs us w1 w2 ha hF he;simp only[dr,cY,dg]at hp;rcases hp with rfl|rfl|rfl|rfl
  ·obtain⟨b,e,hb⟩:=hF;exact⟨b,(ha 2 (cG ..)).trans e,hb.1,(he.2 b (aq hb.2) (fun _ e=>by have:=(hd.on.ge e).2;have:=hb.1;omega) (fun _ e=>by have:=(hd.ol.ge e).2;have:=hb.1;omega)).trans hb.2⟩
  ·obtain⟨gb,cap,e,ho,hat⟩:=hF;refine⟨gb,cap,(ha 3 (cG ..)).trans e,ho.Gl aF.moves he.1 (fun k ek=>he.2 k (ho.ge ek).2 (fun q3=>absurd q3 hne) (fun _ e7=>?_)),hat⟩;exact Tb8
  ·obtain⟨b,e,hb⟩:=hF;exact⟨b,(ha 6 (cG ..)).trans e,hb.1,(he.2 b (aq hb.2) (fun _ e=>by have:=(hd.on.ge e).2;have:=hb.1;omega) (fun _ e=>by have:=(hd.ol.ge e).2;have:=hb.1;omega)).trans hb.2⟩
  obtain⟨gb,cap,e,ho,hat⟩:=hF;refine⟨gb,cap,(ha 7 (cG ..)).trans e,ho.Gl cO.moves he.1 (fun k ek=>he.2 k (ho.ge ek).2 (fun _ e3=>?_) (fun q7=>absurd q7 hne)),hat⟩;exact Tb9
 case ob =>
  refine kA.cons (deps:=[]) rfl rfl Tc3 (fun vs d w' h0 hC hF K hK=>?_) ?_
  ·clear hF;simp only[over,cq,Act.put];go_simp;refine hK.o (.slice (some w'.1.size) 1 1) _ ?_ ⟨Tc2,fun k hk _ _=>cj _ _ _ hk⟩ ⟨_,aw rfl,dS.new hC.2.2.size⟩ _ ?_
   ·simp only[show(d 3||(3:Nat)==2)=d 3 from by simp,show(d 7||(7:Nat)==2)=d 7 from by simp];exact Tbv
   simp only[over,cq,aS]
  refine kA.cons (deps:=[(2,9)]) rfl rfl Tc3 (fun vs d w' h0 hC hF K hK=>?_) ?_
  ·have f:=(hF (2,9) Tc2).2;clear hF;simp only[over,cq,cF,aS]at f ⊢;obtain⟨b,e2,hb⟩:=f;rw[e2];simp only at h0;have hz:=hC.2.2.size;refine mU aF.moves underlying26 am ae af ag rfl Tc4 Tc4 rfl _ _ Tc7 B (fun _=>False) ft names s Tc7 (hC.1 h0) b 1 [.string s] Tc7 Tc7 rfl Tdc (fun j y hy=>?_) Tc1 Tc1 (fun _ _ f=>f) (fun gb cap w3 hp=>?_)
   ·exact TcF
   refine hK.o (.slice (some gb) (names.length+1) cap) w3 ?_ ⟨hp.grown.size,fun k hk q3 q7=>hp.grown.block k hk fun e=>q3 rfl e.symm⟩ ⟨gb,cap,aw rfl,hp.own,hp.at'.imp id (fun q=>by omega)⟩ _ ?_
   ·simp only[show(d 7||(7:Nat)==3)=d 7 from by simp];exact Tbt
   simp only[over,cq,cF,aS,e2]
  refine kA.cons (deps:=[]) rfl rfl Tc3 (fun vs d w' h0 hC hF K hK=>?_) ?_
  ·clear hF;simp only[over,cq,Act.put];go_simp;refine hK.o (.slice (some w'.1.size) 1 1) _ ?_ ⟨Tc2,fun k hk _ _=>cj _ _ _ hk⟩ ⟨_,aw rfl,dS.new hC.2.2.size⟩ _ ?_
   ·simp only[show(d 3||(3:Nat)==6)=d 3 from by simp,show(d 7||(7:Nat)==6)=d 7 from by simp];exact Tbv
   simp only[over,cq,aS]
  refine kA.cons (deps:=[(6,13)]) rfl rfl Tc3 (fun vs d w' h0 hC hF K hK=>?_) trivial;have f:=(hF (6,13) Tc2).2;clear hF;simp only[over,cq,cF,aS]at f ⊢;obtain⟨b,e2,hb⟩:=f;rw[e2];simp only at h0;have hz:=hC.2.2.size;refine mU cO.moves underlying22 hi2 ah ai aj rfl Tc4 Tc4 rfl _ _ Tc7 B (fun _=>False) fx lengths n Tc7 (hC.2.1 h0) b 1 [.int .i64 n] Tc7 Tc7 rfl Tdc (fun j y hy=>?_) Tc1 Tc1 (fun _ _ f=>f) (fun gb cap w3 hp=>?_)
  ·exact TcF
  refine hK.o (.slice (some gb) (lengths.length+1) cap) w3 ?_ ⟨hp.grown.size,fun k hk q3 q7=>hp.grown.block k hk fun e=>q7 rfl e.symm⟩ ⟨gb,cap,aw rfl,hp.own,hp.at'.imp id (fun q=>by omega)⟩ _ ?_
  ·simp only[show(d 3||(3:Nat)==7)=d 3 from by simp];exact Tbu
  simp only[over,cq,cF,aS,e2]
 case fin =>
  intro vs d w' hC hF;have f3:=(hF (3,10) Tc2).2;have f7:=(hF (7,14) Tc2).2;clear hF;simp only[over,cq,cF,aS,cQ,cL]at f3 f7 ⊢;obtain⟨g1,p1,e3,o1,t1⟩:=f3;obtain⟨g2,p2,e7,o2,t2⟩:=f7;rw[e3,e7];generalize vs 2=v2;generalize vs 6=v6;have hm:=hC.2.2;clear hC e3 e7;have hz:=hm.size;have aA:=AH Ln Tc1;have aB:=AH Ll Tc1;have aC:=AH Lx Tc1;have bn:=(hm.block Ln (aq hd.bn) aA).trans hd.bn;have bl:=(hm.block Ll (aq hd.bl) aB).trans hd.bl;have bx:=(hm.block Lx (aq hd.bx) aC).trans hd.bx;have oa:bF aQ 3 53 B (fun _=>False) w' av Ga:=hd.oa.Gl aQ.moves hz (fun k e=>hm.block k (hd.oa.ge e).2 (fun q=>q.elim (fun q=>hd.na k q e) (fun q=>hd.la k q e)));have q1:=cr bn 0 _ rfl;have q2:w'.frozen? Ln=false:=by simp[BT,bn]
  have q3:=cr bl 0 _ rfl;have q4:w'.frozen? Ll=false:=by simp[BT,bl]
  have x1:Ln≠Ll:=by omega
  have x2:Lx≠Ln:=by omega
  have x3:Lx≠Ll:=by omega
  generalize hW:(w'.setCell Ln (.slice (some g1) (names.length+1) p1)).setCell Ll (.slice (some g2) (lengths.length+1) p2)=W;have ab:∀k,k≠Ln->k≠Ll->W.1[k]?=w'.1[k]?:=fun k e1 e2=>by rw[<- hW,bw _ _ _ _ e2,bw _ _ _ _ e1]
  have Ph:W.1.size=w'.1.size:=by rw[<- hW];simp[AF]
  have Zd:W.1[Ln]?=some (.cells #[.slice (some g1) (names.length+1) p1] 26 (0,0)):=by
   rw[<- hW,bw _ _ _ _ x1];exact block_setCell (cs:=#[_]) (i:=0) _ bn
  have Ze:W.1[Ll]?=some (.cells #[.slice (some g2) (lengths.length+1) p2] 22 (0,0)):=by
   exact Tcy
  have UG:W.1[Lx]?=some (.cells (xs av) 114 (0,0)):=(ab Lx x2 x3).trans bx;have SV:bF aQ 3 53 B (fun _=>False) W av Ga:=oa.Gl aQ.moves Tc1 (fun k e=>ab k Tea Tea);have UH:bF aF 1 9 B (fun _=>False) W (.slice (some g1) (names.length+1) p1) (names++[s]):=o1.Gl aF.moves Tc1 (fun k e=>ab k Tec Tec);have UI:bF cO 1 3 B (fun _=>False) W (.slice (some g2) (lengths.length+1) p2) (lengths++[n]):=o2.Gl cO.moves Tc1 (fun k e=>ab k Teb Teb);have ao:cR (nJ Lx Ln Ll ft fx av) wd W:=by
   exact Tbl
  have aI:=o1.ge (k:=g1) rfl;have aJ:=o2.ge (k:=g2) rfl;have OI:W.cell? (Tac Lx 3)=some av:=by simp[AN,UG,hxs]
  have SX:Lx<W.1.size:=aq UG;have aE:∀o,(W.alloc o).cell? (Tac Lx 3)=some av:=fun o=>(cd (w:=W) (cj _ _ _ SX)).trans OI;obtain⟨i3,ak,a7,a8,a9⟩:=gg kL;replace Zd:=aa Zd;replace Ze:=aa Ze;replace UG:=aa UG;replace ab:=aa ab;replace ak:=aa ak;replace a7:=aa a7;replace a8:=aa a8;replace a9:=aa a9;have Xh:=aa Ph;clear Ph;replace hxs:=aa hxs;clear bn bl bx am hi2 ae af ag ah ai aj cn cl
  go_wp2_with(at_builtin;refine dX aQ.moves underlying49 ak.o a7.o a8.o a9.o rfl Tc4 Tc4 rfl _ _ rfl B (fun _=>False) av Ga ⟨true,s,0⟩ rfl ?c1 W.1.size 1 [.bool true,.string s,.int .i64 0] rfl rfl rfl ?c2 ?c3 ?c4 ?c5 (fun _ _ f=>f) ?_)
  case c1=>exact SV.Gl aQ.moves Tc2 (fun k e=>cj _ _ _ (SV.ge e).2)
  case c2=>simp[GS]
  case c3 =>
   intro j y hy;exact aD rfl Tdl
  case c4=>omega
  case c5 =>
   have:=Xh.o;simp;omega
  intro g3 p3 w3 hp;have aG:=hp.grown.size;rw[cW]at aG;have Ph:=Xh.o;have k3:∀k,k<W.1.size->av.ownBlock≠some k->w3.1[k]?=W.1[k]?:=fun k hk hn=>(hp.grown.block k Tc6 (fun e=>hn e.symm)).trans (cj _ _ _ hk);have nx:∀k,k<B->av.ownBlock≠some k:=fun k hk e=>by have:=(SV.ge e).1;omega
  have UJ:=(k3 Lx SX (nx Lx Tc1)).trans UG.o;have y1:w3.cell? (Tac Lx 3)=some av:=by simp[AN,UJ,hxs.o]
  have y2:w3.frozen? (Tac Lx 3)=false:=by simp[BT,UJ]
  replace UJ:=aa UJ;replace k3:=aa k3;have HP:=aa hp;clear hp;clear OI aE Ph;go_wp2;go_end0
  have aK:=HP.o.own.ge (k:=g3) rfl;have Xj:av.ownBlock=some g3\/g3=W.1.size+1:=HP.o.at'.imp id (fun q=>by rw[q];simp);have Ph:=Xh.o;have kk:∀k,k≠Lx->(w3.setCell (Tac Lx 3) (.slice (some g3) (Ga.length+1) p3)).1[k]?=w3.1[k]?:=fun k e=>bw _ _ _ _ e;have aM:(w3.setCell (Tac Lx 3) (.slice (some g3) (Ga.length+1) p3)).1.size=w3.1.size:=by simp[AF]
  have on5:bF aF 1 9 B (fun _=>False) (w3.setCell (Tac Lx 3) (.slice (some g3) (Ga.length+1) p3)) (.slice (some g1) (names.length+1) p1) (names++[s]):=UH.Gl aF.moves Tc1 (fun k e=>(kk k (by have:=(UH.ge e).1;omega)).trans (k3.o k (UH.ge e).2 (UH.ne SV Tc4 k e)));have ol5:bF cO 1 3 B (fun _=>False) (w3.setCell (Tac Lx 3) (.slice (some g3) (Ga.length+1) p3)) (.slice (some g2) (lengths.length+1) p2) (lengths++[n]):=UI.Gl cO.moves Tc1 (fun k e=>(kk k (by have:=(UI.ge e).1;omega)).trans (k3.o k (UI.ge e).2 (UI.ne SV Tc4 k e)));have Oq:bF aQ 3 53 B (fun _=>False) (w3.setCell (Tac Lx 3) (.slice (some g3) (Ga.length+1) p3)) (.slice (some g3) (Ga.length+1) p3) (Ga++[⟨true,s,0⟩]):=HP.o.own.Gl aQ.moves Tc1 (fun k e=>kk k (by have:=(HP.o.own.ge e).1;omega));refine⟨rfl,.slice (some g1) (names.length+1) p1,.slice (some g2) (lengths.length+1) p2,.slice (some g3) (Ga.length+1) p3,⟨?_,?_,?_,on5,ol5,Oq,on5.ne ol5 Tc4,on5.ne Oq Tc4,ol5.ne Oq Tc4,hd1,hd2,ay⟩,?_,?_⟩
  ·exact(kk Ln (Ne.symm x2)).trans ((k3.o Ln (aq Zd.o) (nx Ln Tc1)).trans Zd.o)
  ·exact(kk Ll (Ne.symm x3)).trans ((k3.o Ll (aq Ze.o) (nx Ll Tc1)).trans Ze.o)
  ·have:=block_setCell (i:=3) (.slice (some g3) (Ga.length+1) p3) UJ.o;rw[this,hxs.o,hxs.o];rfl
  ·have m2:cR (nJ Lx Ln Ll ft fx av) w W:=(Gk.mono (G:=nJ Lx Ln Ll ft fx av) (fun _ f=>f.elim)).trans ao (fun _ q=>.inl q);exact((m2.alloc _).trans (jA HP.o.grown) (fun k q=>.inl (.inr (.inr (.inr (.inr (.inr q))))))).setCell (p:=⟨Lx,3,none⟩) (.inl (.inl rfl)) _
  have mA:=Gk.size;have aN:=ao.size;rintro k (rfl|rfl|rfl|q|q|q)
  ·exact .inl (.inl rfl)
  ·exact .inl (.inr (.inl rfl))
  ·exact .inl (.inr (.inr (.inl rfl)))
  ·exact TbH
  ·exact TbC
  have hk5:=(Oq.ge q).2;obtain rfl:g3=k:=by injection q
  rcases Xj with q1|q1
  ·exact .inl (.inr (.inr (.inr (.inr (.inr q1)))))
  exact .inr ⟨Tc1,hk5⟩
def digit(i:Nat):ByteArray:=⟨#[(48+i).toUInt8]⟩
def FX:ByteArray:=⟨#[95,108,101,103]⟩
def qm:ByteArray:=⟨#[95,108,111,103]⟩
def Ab:ByteArray:=⟨#[95,109,101,116,97]⟩
def Aj:ByteArray:=⟨#[95,100,97,116,97]⟩
def EO:ByteArray:=⟨#[95,108,101,103,48]⟩
def Ex(name:ByteArray)(i:Nat):ByteArray:=(name++FX)++digit i
def aI(name:ByteArray)(k:Nat):List ByteArray:=(FF k).map (Ex name)
def gB(l:List ByteArray):List aR:=l.map fun s=>⟨true,s,0⟩
def sW(l:List ByteArray)(s:ByteArray):gB (l++[s])=gB l++[⟨true,s,0⟩]:=by simp[gB]
def lN(name:ByteArray)(k:Nat):aI name (k+1)=aI name k++[Ex name k]:=by simp[aI,List.range_succ]
inductive iU (e n:Int)(name:ByteArray):Int->List ByteArray->List Int->aB->Prop
 |mirror (k:Nat) (hk:2<=k/\k<=3) (c:Int) (hc:1<=c/\c<=4) (st:List Int) (hst:st=[]\/∃i:Int,0<=i/\i<k/\st=[i]):iU e n name 3 (aI name k) (DE k n) ⟨0,n,3,gB (aI name k),c,st,es,es,0,0,0⟩
 |mirrorLog (k:Nat) (hk:2<=k/\k<=3) (c:Int) (hc:1<=c/\c<=4) (st:List Int) (hst:st=[]\/∃i:Int,0<=i/\i<k/\st=[i]):iU e n name 3 (aI name k++[name++qm]) (DE k n++[1+(1+(n*e+63)/64)/e]) ⟨0,n,3,gB (aI name k),c,st,name++qm,es,0,0,0⟩
 |parity (k:Nat) (hk:3<=k/\k<=4) (c:Int) (hc:c=1\/c=e):iU e n name 4 (aI name k) (DE k (n+(15+e)/e)) ⟨0,n*(k-1),4,gB (aI name k),c,[],es,es,0,0,0⟩
 |pool (l c:Int) (hl:1<=l/\l<=3) (hc:1<=c/\c<=8):iU e n name 5 [name++Ab,name++Aj] [l,n] ⟨0,n,5,gB [name++Ab,name++Aj],c,[],es,es,0,0,0⟩
 |cache (l m c:Int) (hl:1<=l/\l<=2) (hm:1<=m/\m<=2) (hc:1<=c/\c<=4):iU e n name 7 [name++EO,name++Aj,name++Ab] [n,l,1] ⟨0,n,7,gB [name++EO,name++Aj,name++Ab],c,[],es,es,0,m,0⟩
def Tdh{p:Prop}(h:p:=by simp[aI]):p:=h
def TdL{p:Prop}(h:p:=by simp[aI];omega):p:=h
def iU.ok{e:Int}{kind:Int}{names:List ByteArray}{x:aB}(h:iU e n name kind names lengths x)(h1:1<=e)(h2:e<=16)(h3:1<=n)(h4:n<=3):names.length=lengths.length/\names.length<=8/\∀l∈lengths,1<=l/\l<=1000:=by
 have hq:∀a:Int,0<=a->a<=200->0<=a/e/\a/e<=200:=fun a ha hb=>⟨lz ha Tc1,Int.le_trans (mS _ ha) hb⟩;cases h with
 |mirror k hk c hc st hst =>
  refine⟨Tdh,TdL,fun l hl=>?_⟩;rw[tM]at hl;omega
 |mirrorLog k hk c hc st hst =>
  refine⟨Tdh,TdL,fun l hl=>?_⟩;rcases AS.1 hl with hl|hl
  ·rw[tM]at hl;omega
  simp only[dr,cY,dg]at hl;have b1:0<=n*e/\n*e<=48:=by rcases(show n=1\/n=2\/n=3 by omega)with rfl|rfl|rfl<;>omega
  have:=hq (1+(n*e+63)/64) Tc1 Tc1;omega
 |parity k hk c hc =>
  refine⟨Tdh,TdL,fun l hl=>?_⟩;rw[tM]at hl;have:=hq (15+e) Tc1 Tc1;omega
 |pool l c hl hc =>
  refine⟨rfl,Tc2,fun l hl=>?_⟩;simp only[dr,cY,dg]at hl;omega
 |cache l m c hl hm hc =>
  refine⟨rfl,Tc2,fun l hl=>?_⟩;simp only[dr,cY,dg]at hl;omega
def QA(len kind chunk:Int)(Oz:Value)(log:ByteArray)(mode:Int):Value->Array Value:=fun v=>#[.int .i64 0,.int .i64 len,.int .i64 kind,v,.int .i64 chunk,Oz,.string log,.string es,.int .i64 0,.int .i64 mode,.int .i64 0]
def Yc(X:Nat->Prop)(Lx Ln Ll:Nat)(ft fx av:Value):Nat->Prop:=fun k=>X k\/nJ Lx Ln Ll ft fx av k
structure vq(X:Nat->Prop)(bs bb:Nat)(nv vv:Value)(g:af)(next:List Int)(w0:World)(B Lx Ln Ll:Nat)(ft fx av Oz:Value)(names:List ByteArray)(lengths:List Int)(Ga:List aR)(st:List Int)(len kind chunk:Int)(log:ByteArray)(mode:Int)(w:World):Prop where
 loc:Loc w B Lx Ln Ll ft fx av names lengths Ga (QA len kind chunk Oz log mode)
 post:aH (Yc X Lx Ln Ll ft fx av) bs bb nv vv w0 w nv vv g next
 rs:ck cO 1 (okB (Yc X Lx Ln Ll ft fx av) bb nv vv) w [Oz] st
 hB:B<=w.heap.size
 hL:w0.heap.size<=Lx
section
variable {X:Nat->Prop}{bs bb:Nat}{nv vv:Value}{g:af}{next:List Int}{w0 w w':World}{B Lx Ln Ll:Nat}{ft fx av Oz ar3 Kf av':Value}{names:List ByteArray}{lengths:List Int}{Ga:List aR}{st:List Int}{len kind chunk n:Int}{log s:ByteArray}{mode:Int}
def vq.ge(h:vq X bs bb nv vv g next w0 B Lx Ln Ll ft fx av Oz names lengths Ga st len kind chunk log mode w){k:Nat}(hk:nJ Lx Ln Ll ft fx av k):w0.1.size<=k:=by
 have d1:=h.loc.d1;have d2:=h.loc.d2;have d3:=h.loc.d3;have hL:=h.hL;rcases hk with rfl|rfl|rfl|q|q|q
 ·exact hL
 ·omega
 ·omega
 ·have:=(h.loc.on.ge q).1;omega
 ·have:=(h.loc.ol.ge q).1;omega
 have:=(h.loc.oa.ge q).1;omega
def vq.below(h:vq X bs bb nv vv g next w0 B Lx Ln Ll ft fx av Oz names lengths Ga st len kind chunk log mode w)(hb:Below w.1.size w w'):vq X bs bb nv vv g next w0 B Lx Ln Ll ft fx av Oz names lengths Ga st len kind chunk log mode w' :=
 ⟨h.loc.keep hb.size (fun k hk=>hb.block k (h.post.bld.xlt k (.inr hk)).2),h.post.after hb,(ck.moves cO.moves).mv ⟨hb.size,fun b a5 ho=>⟨ho,hb.block b a5⟩⟩ h.rs,cA h.hB hb.size,h.hL⟩
def vq.read(h:vq X bs bb nv vv g next w0 B Lx Ln Ll ft fx av Oz names lengths Ga st len kind chunk log mode w)(hs:Src w' bs)(hm:cR (fun i=>i=bs) w w'):vq X bs bb nv vv g next w0 B Lx Ln Ll ft fx av Oz names lengths Ga st len kind chunk log mode w':=by
 have gO:=h.post.bld.lt;refine⟨h.loc.keep hm.size (fun k hk=>hm.block k (h.post.bld.xlt k (.inr hk)).2 (fun e=>by have:=(h.post.bld.xlt k (.inr hk)).1;omega)),h.post.read hs hm,(ck.moves cO.moves).mv ⟨hm.size,fun b a5 ho=>⟨ho,hm.block b a5 (fun e=>by have:=ho.1;omega)⟩⟩ h.rs,cA h.hB hm.size,h.hL⟩
def vq.add(h:vq X bs bb nv vv g next w0 B Lx Ln Ll ft fx av Oz names lengths Ga st len kind chunk log mode w)(p:FO w B Lx Ln Ll ft fx av names lengths Ga (QA len kind chunk Oz log mode) s n ar3 Kf av' w'):vq X bs bb nv vv g next w0 B Lx Ln Ll ar3 Kf av' Oz (names++[s]) (lengths++[n]) (Ga++[⟨true,s,0⟩]) st len kind chunk log mode w':=by
 refine⟨p.loc,h.post.move ⟨p.mod.os,p.mod.tape,p.mod.output,p.mod.size,fun k hk hn=>p.mod.block k hk fun q=>hn ⟨.inr q,h.ge q⟩⟩ (fun k hk=>?_),(ck.moves cO.moves).mv ⟨p.mod.size,fun b hb ho=>⟨⟨ho.1,ho.2.1,ho.2.2.1,fun q=>?_⟩,p.mod.block b hb fun q=>ho.2.2.2 (.inr q)⟩⟩ h.rs,cA h.hB p.mod.size,h.hL⟩
 ·rcases hk with q|q
  ·exact .inl (.inl q)
  exact(p.fr k q).imp (fun q=>.inr q) id
 rcases q with q|q
 ·exact ho.2.2.2 (.inl q)
 rcases p.fr b q with q|q
 ·exact ho.2.2.2 (.inr q)
 omega
def vq.put(h:vq X bs bb nv vv g next w0 B Lx Ln Ll ft fx av Oz names lengths Ga st len kind chunk log mode w)(i:Nat)(u:Value){a7 Mb a5:Int}{a8:ByteArray}(he:∀v,(QA len kind chunk Oz log mode v).setIfInBounds i u=QA a7 kind Mb Oz a8 a5 v):vq X bs bb nv vv g next w0 B Lx Ln Ll ft fx av Oz names lengths Ga st a7 kind Mb a8 a5 (w.setCell (Lx,i) u):=by
 have d1:=h.loc.d1;have d2:=h.loc.d2;have d3:=h.loc.d3;have hz:(w.setCell (Lx,i) u).1.size=w.1.size:=by simp[AF]
 have kk:∀k,k≠Lx->(w.setCell (Lx,i) u).1[k]?=w.1[k]?:=fun k e=>bw _ _ _ _ e;refine⟨⟨(kk Ln Tc1).trans h.loc.bn,(kk Ll Tc1).trans h.loc.bl,?_,h.loc.on.Gl aF.moves Tc1 (fun k e=>kk k (by have:=(h.loc.on.ge e).1;omega)),h.loc.ol.Gl cO.moves Tc1 (fun k e=>kk k (by have:=(h.loc.ol.ge e).1;omega)),h.loc.oa.Gl aQ.moves Tc1 (fun k e=>kk k (by have:=(h.loc.oa.ge e).1;omega)),h.loc.nl,h.loc.na,h.loc.la,d1,d2,d3⟩,h.post.put Lx i u (.inr (.inl rfl)) h.hL,(ck.moves cO.moves).mv ⟨Tc1,fun b hb ho=>⟨ho,kk b (fun e=>ho.2.2.2 (.inr (.inl e)))⟩⟩ h.rs,Tej,h.hL⟩
 rw[<- he];exact block_setCell (i:=i) u h.loc.bx
def vq.push2{w1:World}{g1 p1 g2 p2:Nat}(h:vq X bs bb nv vv g next w0 B Lx Ln Ll ft fx av Oz names lengths Ga st len kind chunk log mode w)(hm:cR (fun k=>ft.ownBlock=some k\/fx.ownBlock=some k) w w1)
  (o1:bF aF 1 9 B (fun _=>False) w1 (.slice (some g1) (names.length+1) p1) (names++[s])) (t1:ft.ownBlock=some g1\/w.1.size<=g1)
  (o2:bF cO 1 3 B (fun _=>False) w1 (.slice (some g2) (lengths.length+1) p2) (lengths++[n])) (t2:fx.ownBlock=some g2\/w.1.size<=g2) :
  vq X bs bb nv vv g next w0 B Lx Ln Ll (.slice (some g1) (names.length+1) p1) (.slice (some g2) (lengths.length+1) p2) av Oz (names++[s]) (lengths++[n]) Ga st len kind chunk log mode ((w1.setCell Ln (.slice (some g1) (names.length+1) p1)).setCell Ll (.slice (some g2) (lengths.length+1) p2)) /\
   w1.cell? Ln=some ft/\w1.frozen? Ln=false/\w1.cell? Ll=some fx/\w1.frozen? Ll=false:=by
 have hd:=h.loc;have d1:=hd.d1;have d2:=hd.d2;have d3:=hd.d3;have hz:=hm.size;have AH:∀k,k<B->¬(ft.ownBlock=some k\/fx.ownBlock=some k):=fun k hk q=>q.elim (fun e=>by have:=(hd.on.ge e).1;omega) (fun e=>by have:=(hd.ol.ge e).1;omega);have bn:=(hm.block Ln (aq hd.bn) (AH Ln Tc1)).trans hd.bn;have bl:=(hm.block Ll (aq hd.bl) (AH Ll Tc1)).trans hd.bl;have bx:=(hm.block Lx (aq hd.bx) (AH Lx Tc1)).trans hd.bx;have x1:Ln≠Ll:=by omega
 have x2:Lx≠Ln:=by omega
 have x3:Lx≠Ll:=by omega
 have oa:bF aQ 3 53 B (fun _=>False) w1 av Ga:=hd.oa.Gl aQ.moves hz (fun k e=>hm.block k (hd.oa.ge e).2 (fun q=>q.elim (fun q=>hd.na k q e) (fun q=>hd.la k q e)));refine⟨?_,cr bn _ _ rfl,by simp[BT,bn],cr bl _ _ rfl,by simp[BT,bl]⟩;generalize hW:(w1.setCell Ln (.slice (some g1) (names.length+1) p1)).setCell Ll (.slice (some g2) (lengths.length+1) p2)=W;have a7:∀k,k≠Ln->k≠Ll->W.1[k]?=w1.1[k]?:=fun k e1 e2=>by rw[<- hW,bw _ _ _ _ e2,bw _ _ _ _ e1]
 have Ph:W.1.size=w1.1.size:=by rw[<- hW];simp[AF]
 have on5:=o1.Gl (w':=W) aF.moves Tc1 (fun k e=>a7 k Tec Tec);have ol5:=o2.Gl (w':=W) cO.moves Tc1 (fun k e=>a7 k Teb Teb);have Oq:=oa.Gl (w':=W) aQ.moves Tc1 (fun k e=>a7 k Tea Tea);have a5:cR (nJ Lx Ln Ll ft fx av) w W:=by
  exact Tbl
 have fr:∀k,nJ Lx Ln Ll (.slice (some g1) (names.length+1) p1) (.slice (some g2) (lengths.length+1) p2) av k->nJ Lx Ln Ll ft fx av k\/(w.1.size<=k/\k<W.1.size):=by
  rintro k (rfl|rfl|rfl|q|q|q)
  ·exact .inl (.inl rfl)
  ·exact .inl (.inr (.inl rfl))
  ·exact .inl (.inr (.inr (.inl rfl)))
  ·exact TbH
  ·exact TbC
  exact .inl (.inr (.inr (.inr (.inr (.inr q)))))
 refine⟨⟨?_,?_,(a7 Lx x2 x3).trans bx,on5,ol5,Oq,on5.ne ol5 Tc4,on5.ne Oq Tc4,ol5.ne Oq Tc4,d1,d2,d3⟩,h.post.move ⟨a5.os,a5.tape,a5.output,a5.size,fun k hk hn=>a5.block k hk fun q=>hn ⟨.inr q,h.ge q⟩⟩ (fun k hk=>?_),(ck.moves cO.moves).mv ⟨a5.size,fun b hb ho=>⟨⟨ho.1,ho.2.1,ho.2.2.1,fun q=>?_⟩,a5.block b hb fun q=>ho.2.2.2 (.inr q)⟩⟩ h.rs,cA h.hB a5.size,h.hL⟩
 ·rw[<- hW,bw _ _ _ _ x1];exact block_setCell (cs:=#[_]) (i:=0) _ bn
 ·exact Tcy
 ·rcases hk with q|q
  ·exact .inl (.inl q)
  exact(fr k q).imp (fun q=>.inr q) id
 rcases q with q|q
 ·exact ho.2.2.2 (.inl q)
 rcases fr b q with q|q
 ·exact ho.2.2.2 (.inr q)
 omega
def vq.stale{b:Nat}{i:Int}(h:vq X bs bb nv vv g next w0 B Lx Ln Ll ft fx av Oz names lengths Ga st len kind chunk log mode w)(hb:w.1[b]?=some (.cells #[i] 3 (0,0)))(pC:bb<b)(hn:¬Yc X Lx Ln Ll ft fx av b)(a5:nv.ownBlock≠some b)(vA:vv.ownBlock≠some b) :
  vq X bs bb nv vv g next w0 B Lx Ln Ll ft fx av (.slice (some b) 1 1) names lengths Ga [i] len kind chunk log mode (w.setCell (Tac Lx 5) (.slice (some b) 1 1)):=by
 have d1:=h.loc.d1;have d2:=h.loc.d2;have d3:=h.loc.d3;have hz:(w.setCell (Tac Lx 5) (.slice (some b) 1 1)).1.size=w.1.size:=by simp[AF]
 have kk:∀k,k≠Lx->(w.setCell (Tac Lx 5) (.slice (some b) 1 1)).1[k]?=w.1[k]?:=fun k e=>bw _ _ _ _ e;refine⟨⟨(kk Ln Tc1).trans h.loc.bn,(kk Ll Tc1).trans h.loc.bl,block_setCell (i:=5) _ h.loc.bx,h.loc.on.Gl aF.moves Tc1 (fun k e=>kk k (by have:=(h.loc.on.ge e).1;omega)),h.loc.ol.Gl cO.moves Tc1 (fun k e=>kk k (by have:=(h.loc.ol.ge e).1;omega)),h.loc.oa.Gl aQ.moves Tc1 (fun k e=>kk k (by have:=(h.loc.oa.ge e).1;omega)),h.loc.nl,h.loc.na,h.loc.la,d1,d2,d3⟩,h.post.put Lx 5 _ (.inr (.inl rfl)) h.hL,?_,Tej,h.hL⟩
 exact ck.one (u:=[.int .i64 i]) ((kk b (fun e=>hn (.inr (.inl e)))).trans hb) ⟨pC,a5,vA,hn⟩ rfl rfl
def vq.cx(h:vq X bs bb nv vv g next w0 B Lx Ln Ll ft fx av Oz names lengths Ga st len kind chunk log mode w)(i:Nat){v:Value}(hv:(QA len kind chunk Oz log mode av)[i]?=some v):w.cell? (Lx,i)=some v/\w.frozen? (Lx,i)=false:=by
 refine⟨?_,by simp[BT,h.loc.bx]⟩;simp only[AN,h.loc.bx];simpa using hv
end
def eW.c4{X:Nat->Prop}{w:World}{bs bb:Nat}{nv vv:Value}{g:af}{next:List Int}(h:eW X w bs bb nv vv g next):w.cell? (Tac bb 4)=some (.int .i64 g.Gd):=by
 exact TcD
def EM(X:Nat->Prop)(bs bb:Nat)(nv vv:Value)(g:af)(next:List Int)(w0:World)(L:Nat)(n:Int)(name:ByteArray)(kind:Int)(w:World):Prop :=
 ∃(ft fx av Oz:Value) (names:List ByteArray) (lengths:List Int) (x:aB),iU g.Gd n name kind names lengths x/\vq X bs bb nv vv g next w0 (L+1+1+1) L (L+1) (L+1+1) ft fx av Oz names lengths x.Ga x.stale x.length kind x.chunk x.log x.mode w
def tT:ByteArray:=⟨#[116]⟩
def jY(name:ByteArray)(id len:Int)(i:Nat):ay:=⟨(name++tT)++digit i,id,false,false,[],[⟨0,len,6,[],0,[],es,name,i,0,0⟩]⟩
inductive iO (id:Int)(name:ByteArray)(k:Nat):Int->Nat->List ay->Prop
 |nil (c:Int):iO id name k c k []
 |snoc {c:Int} {j:Nat} {vl:List ay} {len:Int} (h:iO id name k c (j+1) vl) (hl:1<=len/\len<=4):iO id name k c j (vl++[jY name (oX id (c+vl.length)) len (j+1)])
def FD(X:Nat->Prop)(bs bb:Nat)(nv vv:Value)(g:af)(next:List Int)(name:ByteArray)(kind:Int)(w w':World):Prop :=
 (∃(j:Nat) (nv' pA:Value),j<=8/\aH X bs bb nv vv w w' nv' pA { g with next:=g.next+j } next) \/
 ∃(n:Int) (names:List ByteArray) (lengths:List Int) (x:aB) (ps:List (ByteArray × Int × Int)) (vl:List ay) (ro:Bool) (tags:List ByteArray) (k j:Nat) (tl:List ay) (a5:List Int) (pA:Value),
  1<=n/\n<=3/\iU g.Gd n name kind names lengths x/\lD g.id g.next names lengths ps vl/\fZ g.Gb next ps a5/\List.Sublist tags iQ/\k<=2/\(kind≠5->k=j/\k=0)/\iO g.id name k (g.next+names.length+1+1) j tl /\
  aH X bs bb nv vv w w' nv pA { g with next:=g.next+names.length+1+tl.length,F9:=g.F9++vl++[⟨name,oX g.id (g.next+names.length+1),false,ro,tags,[x]⟩]++tl } a5
def iW(n:Nat):Code->Option Code
 |.block m c=>bif Nat.beq m n then some (.block m c) else iW n c
 |.seq a b=>match iW n a with
  |some c=>some c
  |none=>iW n b
 |.loop c=>iW n c
 |.scope c=>iW n c
 |.cond _ a b=>match iW n a with
  |some c=>some c
  |none=>iW n b
 |_=>none
noncomputable def u6:Code:=((Tryz.f22.body.bind (iW 0)).getD .skip)
def kG(X:Nat->Prop)(bs bb:Nat)(nv vv:Value)(g:af)(next:List Int)(w0:World)(L:Nat)(n:Int)(name:ByteArray)(kind:Int)(J:Act->World->Prop):Prop :=
 ∀(a':Act) (w':World),(∃u12 u13 u14 u16 u17 u18 u19 u20 u21 u22 u23 u24 u25 u26 u27 u28 u29 u31 u32 u33 u34 u35 u36 u37 u38 u39 u40 u41 u42 u43 u44 u45 u46 u47 u48 u49 u50 u51 u52 u53 u54 u55 u56 u57 u58 u59 u60 u61 u62 u63 u64 u65 u66 u67 u68 u69 u70 u71 u72 u73 u74 u75 u76 u77 u78 u79 u80 u81 u82 u83 u84 u85 u86 u87 u88 u89 u90 u91 u92 u93 u94 u95 u96 u97 u98 u99 u100 u101 u102 u103 u104 u105 u106 u107 u108 u109 u110 u111 u112 u113 u114 u115 u116 u117 u118 u119 u120 u121 u122 u123 u124 u125 u126 u127 u128 u129 u130 u131 u132 u133 u134 u135 u136 u137 u138 u139 u140 u141 u142 u143 u144 u145 u146 u147 u148 u149 u150 u151 u152 u153 u154 u155 u156 u157 u158 u159 u160 u161 u162 u163 u164 u165 u166 u167 u168 u169 u170 u171 u172 u173 u174 u175 u176 u177 u178 u179 u180 u181 u182 u183 u184 u185 u186 u187 u188 u189 u190 u191 u192 u193 u194 u195 u196 u197 u198 u199 u200 u201 u202 u203 u204 u205 u206 u207 u208 u209 u210 u211 u212 u213 u214 u215 u216 u217 u218 u219 u220 u221 u222 u223 u224 u225 u226 u227 u228 u229 u230 u231 u232 u233 u234 u235 u236 u237 u238 u239 u240 u241 u242 u243 u244 u245 u246 u247 u248 u249 u250 u251 u252 u253 u254 u255 u256 u257 u258 u259 u260 u261 u262 u263 u264 u265 u266 u267 u268 u269 u270 u271 u272 u273 u274 u275 u276 u277 u278:Value,EM X bs bb nv vv g next w0 L n name kind w'/\a'=⟨#[.pointer (some bb),.string name,.int .i64 kind,undef,undef,undef,.int .i64 g.Gd,.int .i64 n,.pointer (some L),.pointer (some (Tac (L+1) 0)),.pointer (some (Tac (L+1+1) 0)),.func (.func 54) #[] #[.pointer (some (Tac (L+1) 0)),.pointer (some (Tac (L+1+1) 0)),L],u12,u13,u14,undef,u16,u17,u18,u19,u20,u21,u22,u23,u24,u25,u26,u27,u28,u29,.int .i64 kind,u31,u32,u33,u34,u35,u36,u37,u38,u39,u40,u41,u42,u43,u44,u45,u46,u47,u48,u49,u50,u51,u52,u53,u54,u55,u56,u57,u58,u59,u60,u61,u62,u63,u64,u65,u66,u67,u68,u69,u70,u71,u72,u73,u74,u75,u76,u77,u78,u79,u80,u81,u82,u83,u84,u85,u86,u87,u88,u89,u90,u91,u92,u93,u94,u95,u96,u97,u98,u99,u100,u101,u102,u103,u104,u105,u106,u107,u108,u109,u110,u111,u112,u113,u114,u115,u116,u117,u118,u119,u120,u121,u122,u123,u124,u125,u126,u127,u128,u129,u130,u131,u132,u133,u134,u135,u136,u137,u138,u139,u140,u141,u142,u143,u144,u145,u146,u147,u148,u149,u150,u151,u152,u153,u154,u155,u156,u157,u158,u159,u160,u161,u162,u163,u164,u165,u166,u167,u168,u169,u170,u171,u172,u173,u174,u175,u176,u177,u178,u179,u180,u181,u182,u183,u184,u185,u186,u187,u188,u189,u190,u191,u192,u193,u194,u195,u196,u197,u198,u199,u200,u201,u202,u203,u204,u205,u206,u207,u208,u209,u210,u211,u212,u213,u214,u215,u216,u217,u218,u219,u220,u221,u222,u223,u224,u225,u226,u227,u228,u229,u230,u231,u232,u233,u234,u235,u236,u237,u238,u239,u240,u241,u242,u243,u244,u245,u246,u247,u248,u249,u250,u251,u252,u253,u254,u255,u256,u257,u258,u259,u260,u261,u262,u263,u264,u265,u266,u267,u268,u269,u270,u271,u272,u273,u274,u275,u276,u277,u278],[]⟩)->J a' w'
def Mc(k:Int):Prop :=
 ∀(X:Nat->Prop) (bs bb:Nat) (nv vv:Value) (g:af) (next:List Int) (w:World) (name:ByteArray) (_:name.size<=100) (_:1<=g.Gd) (_:g.Gd<=16) (n:Int) (_:1<=n) (_:n<=3) (L:Nat) (W:World)
  (_:vq X bs bb nv vv g next w (L+1+1+1) L (L+1) (L+1+1) (.slice none 0 0) (.slice none 0 0) (.slice none 0 0) (.slice none 0 0) [] [] [] [] n k 1 es 0 W)
  (J K':Act->World->Prop) (Q0:Ending->World->Prop)
  (_:kG X bs bb nv vv g next w L n name k J)
  (_:∀(a':Act) (w':World),Met J a' w'->K' a' w'),
  Code.wp prog u6 (Exit.then K' (bodyPost prog Tryz.f22 Q0)) ⟨#[.pointer (some bb),.string name,.int .i64 k,undef,undef,undef,.int .i64 g.Gd,.int .i64 n,.pointer (some L),.pointer (some (Tac (L+1) 0)),.pointer (some (Tac (L+1+1) 0)),.func (.func 54) #[] #[.pointer (some (Tac (L+1) 0)),.pointer (some (Tac (L+1+1) 0)),L],undef,undef,undef,undef,.pointer (some bb),.pointer (some bb),.pointer (some (Tac bb 1)),.pointer (some (Tac bb 4)),.int .i64 g.Gd,.pointer (some bb),.pointer (some bb),.pointer (some bb),.pointer (some bs),.int .i64 n,.int .i64 n,.int .i64 k,.agg #[.int .i64 0,n,k,.slice none 0 0,.int .i64 1,.slice none 0 0,.string ⟨#[]⟩,.string ⟨#[]⟩,.int .i64 0,.int .i64 0,.int .i64 0],.func (.func 54) #[] #[.pointer (some (Tac (L+1) 0)),.pointer (some (Tac (L+1+1) 0)),L],.int .i64 k,undef,undef,undef,undef,undef,undef,undef,undef,undef,undef,undef,undef,undef,undef,undef,undef,undef,undef,undef,undef,undef,undef,undef,undef,undef,undef,undef,undef,undef,undef,undef,undef,undef,undef,undef,undef,undef,undef,undef,undef,undef,undef,undef,undef,undef,undef,undef,undef,undef,undef,undef,undef,undef,undef,undef,undef,undef,undef,undef,undef,undef,undef,undef,undef,undef,undef,undef,undef,undef,undef,undef,undef,undef,undef,undef,undef,undef,undef,undef,undef,undef,undef,undef,undef,undef,undef,undef,undef,undef,undef,undef,undef,undef,undef,undef,undef,undef,undef,undef,undef,undef,undef,undef,undef,undef,undef,undef,undef,undef,undef,undef,undef,undef,undef,undef,undef,undef,undef,undef,undef,undef,undef,undef,undef,undef,undef,undef,undef,undef,undef,undef,undef,undef,undef,undef,undef,undef,undef,undef,undef,undef,undef,undef,undef,undef,undef,undef,undef,undef,undef,undef,undef,undef,undef,undef,undef,undef,undef,undef,undef,undef,undef,undef,undef,undef,undef,undef,undef,undef,undef,undef,undef,undef,undef,undef,undef,undef,undef,undef,undef,undef,undef,undef,undef,undef,undef,undef,undef,undef,undef,undef,undef,undef,undef,undef,undef,undef,undef,undef,undef,undef,undef,undef,undef,undef,undef,undef,undef,undef,undef,undef,undef,undef,undef,undef,undef,undef,undef,undef,undef,undef,undef,undef,undef,undef,undef,undef,undef,undef,undef,undef,undef,undef,undef,undef,undef,undef,undef,undef,undef,undef,undef,undef,undef,undef,undef,undef,undef],[]⟩ W
def TbI{p:Prop}(h:p:=by
 go_wp2;go_roundw
 case rel =>
  refine⟨j+1,aE0,aE1,SY,Tc1,Tc5,?_⟩;rw[lN,sW,List.replicate_succ'];exact T5
 simp[intOf];omega):p:=h
def Tdu{p:Prop}(h:p:=by simp[gB,aI];omega):p:=h
def xW:Mc 3:=by
 intro X bs bb nv vv g next w name au aY aZ n hn1 hn2 L W T0 J K' Q0 HJ hK;conv=>arg 2;whnf
 go_upto_block 1 with(fail)
 go_wp2;go_loopw[12] (fun i wr=>∃(j:Nat) (ft fx av:Value),j<=3/\i=.int .i64 j/\vq X bs bb nv vv g next w (L+1+1+1) L (L+1) (L+1+1) ft fx av (.slice none 0 0) (aI name j) (DE j n) (gB (aI name j)) [] n 3 1 es 0 wr) (fun i _=>3-(intOf i).toNat)
 exact⟨0,_,_,_,Tc1,rfl,T0⟩;obtain⟨j,ft,fx,av,hj,rfl,T1⟩:=hrel;have c0:=T1.post.bld.c0;go_wp2_with fail;refine(bY bs 2 _ Tc1 Tc1 T1.post.bld.src).mono ?_;rintro e w2 ⟨v,rfl,b8,ba,hs2,ay⟩;have T2:=T1.read hs2 ay;clear ay hs2 c0 T1;by_cases hlt:(j:Int)<2+v
 ·have z1:(0:Int)<=(j:Int):=by omega
  have z2:(j:Int)<3:=by omega
  have aE:decide ((j:Int)<2+v)=true:=by simpa using hlt
  have a7:(w2.alloc (.cells #[.string ⟨#[48]⟩,.string ⟨#[49]⟩,.string ⟨#[50]⟩] 9)).cell? (w2.1.size,j)=some (.string (digit j)):=by
   refine aD rfl ?_;rcases(show j=0\/j=1\/j=2 by omega)with rfl|rfl|rfl<;>rfl
  have QH:(digit j).size=1:=rfl;have T3:=T2.below (ae w2 (.cells #[.string ⟨#[48]⟩,.string ⟨#[49]⟩,.string ⟨#[50]⟩] 9));go_wp2_with fail;refine(jM _ _ _ _ _ _ _ _ _ _ _ _ _ _ _ _ _ _ _ _ _ _ (fun _=>rfl) T3.loc T3.hB _ _ TdL Tc6 Tdu).mono ?_;rintro e w3 ⟨rfl,aE0,aE1,SY,A1⟩;have T5:=T3.add A1;clear A1 a7;exact TbI
 have aE:decide ((j:Int)<2+v)=false:=by simpa using hlt
 have ai:2<=j:=by omega
 have c0:=T2.post.bld.c0;go_wp2_with fail;refine(bO bs 1 4 _ Tc1 Tc1 Tc1 T2.post.bld.src).mono ?_;rintro e w3 ⟨c,rfl,aj,zc,hs3,az⟩;have T3:=T2.read hs3 az;clear az hs3 c0 T2;obtain⟨x4,f4⟩:=T3.cx 4 rfl;have T4:vq X bs bb nv vv g next w (L+1+1+1) L (L+1) (L+1+1) ft fx av (.slice none 0 0) (aI name j) (DE j n) (gB (aI name j)) [] n 3 c es 0 (w3.setCell (Tac L 4) (.int .i64 c)):=T3.put 4 _ (fun _=>rfl);have c0:=T4.post.bld.c0;go_wp2_with fail;refine(bY bs 2 _ Tc1 Tc1 T4.post.bld.src).mono ?_;rintro e w4 ⟨v4,rfl,aG,aH,aA,aB⟩;have T5:=T4.read aA aB;clear aB aA c0 x4 f4 T3 T4;by_cases hv40:v4=0
 ·subst hv40;have T6:vq X bs bb nv vv g next w (L+1+1+1) L (L+1) (L+1+1) ft fx av (.slice none 0 0) (aI name j) (DE j n) (gB (aI name j)) [] n 3 c (name++qm) 0 (w4.setCell (Tac L 6) (.string (name++qm))):=T5.put 6 _ (fun _=>rfl);obtain⟨x6,f6⟩:=T5.cx 6 rfl;have aJ:¬(9223372036854775807<name.size+4):=by omega
  go_wp2;have OX:name++(⟨#[95,108,111,103]⟩:ByteArray)=name++qm:=rfl;rw[OX];generalize WE:AF w4 _ _=WW at *;clear WE x6 f6 T5;have q1:=cr T6.loc.bn 0 _ rfl;have q2:=cr T6.loc.bl 0 _ rfl;have q3:=(T6.cx 6 rfl).1;have be:0<=n*g.Gd/\n*g.Gd<=48:=by rcases(show n=1\/n=2\/n=3 by omega)with rfl|rfl|rfl<;>omega
  have bd:=be.1;have bf:=be.2;have ak:¬g.Gd=0:=by omega
  have aK:(g.Gd==0)=false:=by simpa using ak
  have bg:0<=(1+(n*g.Gd+63)/64)/g.Gd:=lz Tc1 Tc1;have bh:(1+(n*g.Gd+63)/64)/g.Gd<=100:=Int.le_trans (mS _ Tc1) Tc1;have aM:IntKind.i64.wrap (n*g.Gd)=n*g.Gd:=dy _ Tc1;have aN:IntKind.i64.wrap (n*g.Gd+63)=n*g.Gd+63:=dy _ Tc1;have aO:(n*g.Gd+63).tdiv 64=(n*g.Gd+63)/64:=CC Tc1;have aQ:IntKind.i64.wrap ((n*g.Gd+63)/64)=(n*g.Gd+63)/64:=dy _ Tc1;have aR:IntKind.i64.wrap (1+(n*g.Gd+63)/64)=1+(n*g.Gd+63)/64:=dy _ Tc1;have aT:(1+(n*g.Gd+63)/64).tdiv g.Gd=(1+(n*g.Gd+63)/64)/g.Gd:=CC Tc1;have aU:IntKind.i64.wrap ((1+(n*g.Gd+63)/64)/g.Gd)=(1+(n*g.Gd+63)/64)/g.Gd:=dy _ Tc1;have aV:IntKind.i64.wrap (1+(1+(n*g.Gd+63)/64)/g.Gd)=1+(1+(n*g.Gd+63)/64)/g.Gd:=dy _ Tc1;refine aL (fun w'=>w'.cell? (Tac (L+1) 0)=some ft/\w'.cell? (Tac (L+1+1) 0)=some fx/\w'.cell? (Tac L 6)=some (.string (name++qm))) 17 [1,6,7,8,9,10,11,12,13,14] Tc3 ⟨q1,q2,q3⟩ (fun a5=>?_);refine fz 1 ?_;refine fz 6 ?_;refine fz 7 ?_;refine fz 8 ?_;refine fz 9 ?_;refine fz 10 ?_;refine fz 11 ?_;refine fz 12 ?_;refine fz 13 ?_;refine fz 14 ?_;refine fS 0 a5 ?_;refine fS 2 a5 ?_;refine fS 5 a5 ?_;clear aM aN aO aQ aR aT aU aV;have TT:=T6.below ((bj _ _).drew);generalize aW:WW.drew=wd at *;clear aW q1 q2 q3 T6;have hd:=TT.loc;obtain⟨i1,aC,a8,a9,aa⟩:=gg zY;obtain⟨i2,hi2,ab,af,ag⟩:=gg tZ;have AH:∀k,k<(L+1+1+1)->¬(ft.ownBlock=some k\/fx.ownBlock=some k):=fun k hk q=>q.elim (fun e=>by have:=(hd.on.ge e).1;omega) (fun e=>by have:=(hd.ol.ge e).1;omega)
  refine fE (idx:=[(3,71),(4,72),(15,83),(16,84)]) (fun i=>[i])
   (fun i vs w'=>match i with
    |3=>∃b,vs 3=.slice (some ⟨b,0,none⟩) 1 1/\dS wd.1.size 9 [.string (name++qm)] b w'
    |4=>∃gb cap,vs 4=.slice (some ⟨gb,0,none⟩) ((aI name j).length+1) cap/\bF aF 1 9 (L+1+1+1) (fun _=>False) w' (.slice (some ⟨gb,0,none⟩) ((aI name j).length+1) cap) (aI name j++[name++qm])/\(ft.ownBlock=some gb\/wd.1.size<=gb)
    |15=>∃b,vs 15=.slice (some ⟨b,0,none⟩) 1 1/\dS wd.1.size 3 [.int .i64 (1+(1+(n*g.Gd+63)/64)/g.Gd)] b w'
    |16=>∃gb cap,vs 16=.slice (some ⟨gb,0,none⟩) ((DE j n).length+1) cap/\bF cO 1 3 (L+1+1+1) (fun _=>False) w' (.slice (some ⟨gb,0,none⟩) ((DE j n).length+1) cap) (DE j n++[1+(1+(n*g.Gd+63)/64)/g.Gd])/\(fx.ownBlock=some gb\/wd.1.size<=gb)
    |_=>True)
   (fun d w'=>(d 4=false->bF aF 1 9 (L+1+1+1) (fun _=>False) w' ft (aI name j))/\(d 16=false->bF cO 1 3 (L+1+1+1) (fun _=>False) w' fx (DE j n))/\cR (fun k=>ft.ownBlock=some k\/fx.ownBlock=some k) wd w')
   (fun i w1 w2=>w1.1.size<=w2.1.size/\∀k,k<w1.1.size->(i=4->ft.ownBlock≠some k)->(i=16->fx.ownBlock≠some k)->w2.1[k]?=w1.1[k]?) Tc3 rfl ?cs ?st (fun _ _ _ _ h=>h) ?c0 ?ob ?fin
  case c0=>exact⟨fun _=>hd.on,fun _=>hd.ol,cR.refl _ _⟩
  case st =>
   intro p hp q _ hne vs us w1 w2 ha hF he;simp only[dr,cY,dg]at hp;rcases hp with rfl|rfl|rfl|rfl
   ·obtain⟨b,e,hb⟩:=hF;exact⟨b,(ha 3 (cG ..)).trans e,hb.1,(he.2 b (aq hb.2) (fun _ e=>by have:=(hd.on.ge e).2;have:=hb.1;omega) (fun _ e=>by have:=(hd.ol.ge e).2;have:=hb.1;omega)).trans hb.2⟩
   ·obtain⟨gb,cap,e,ho,hat⟩:=hF;refine⟨gb,cap,(ha 4 (cG ..)).trans e,ho.Gl aF.moves he.1 (fun k ek=>he.2 k (ho.ge ek).2 (fun q3=>absurd q3 hne) (fun _ e7=>?_)),hat⟩;exact Tb8
   ·obtain⟨b,e,hb⟩:=hF;exact⟨b,(ha 15 (cG ..)).trans e,hb.1,(he.2 b (aq hb.2) (fun _ e=>by have:=(hd.on.ge e).2;have:=hb.1;omega) (fun _ e=>by have:=(hd.ol.ge e).2;have:=hb.1;omega)).trans hb.2⟩
   obtain⟨gb,cap,e,ho,hat⟩:=hF;refine⟨gb,cap,(ha 16 (cG ..)).trans e,ho.Gl cO.moves he.1 (fun k ek=>he.2 k (ho.ge ek).2 (fun _ e3=>?_) (fun q7=>absurd q7 hne)),hat⟩;exact Tb9
  case ob =>
   refine kA.cons (deps:=[]) rfl rfl Tc3 (fun vs d w' h0 hC hF K hK=>?_) ?_
   ·clear hF;simp only[over,cq,Act.put];go_simp;refine hK.o (.slice (some w'.1.size) 1 1) _ ?_ ⟨Tc2,fun k hk _ _=>cj _ _ _ hk⟩ ⟨_,aw rfl,dS.new hC.2.2.size⟩ _ ?_
    ·simp only[show(d 4||(4:Nat)==3)=d 4 from by simp,show(d 16||(16:Nat)==3)=d 16 from by simp];exact Tbv
    simp only[over,cq,aS]
   refine kA.cons (deps:=[(3,71)]) rfl rfl Tc3 (fun vs d w' h0 hC hF K hK=>?_) ?_
   ·have f:=(hF (3,71) Tc2).2;clear hF;simp only[over,cq,cF,aS]at f ⊢;obtain⟨b,e2,hb⟩:=f;rw[e2];simp only at h0;have hz:=hC.2.2.size;refine mU aF.moves underlying26 aC a8 a9 aa rfl Tc4 Tc4 rfl _ _ Tc7 (L+1+1+1) (fun _=>False) ft (aI name j) (name++qm) Tc7 (hC.1 h0) b 1 [.string (name++qm)] Tc7 Tc7 rfl Tdc (fun j y hy=>?_) TdL (cA TT.hB hz) (fun _ _ f=>f) (fun gb cap w3 hp=>?_)
    ·exact TcF
    refine hK.o (.slice (some gb) (((aI name j)).length+1) cap) w3 ?_ ⟨hp.grown.size,fun k hk qa qb=>hp.grown.block k hk fun e=>qa rfl e.symm⟩ ⟨gb,cap,aw rfl,hp.own,hp.at'.imp id (fun q=>by omega)⟩ _ ?_
    ·simp only[show(d 16||(16:Nat)==4)=d 16 from by simp];exact Tbt
    simp only[over,cq,cF,aS,e2]
   refine kA.cons (deps:=[]) rfl rfl Tc3 (fun vs d w' h0 hC hF K hK=>?_) ?_
   ·clear hF;simp only[over,cq,Act.put];go_simp;refine hK.o (.slice (some w'.1.size) 1 1) _ ?_ ⟨Tc2,fun k hk _ _=>cj _ _ _ hk⟩ ⟨_,aw rfl,dS.new hC.2.2.size⟩ _ ?_
    ·simp only[show(d 4||(4:Nat)==15)=d 4 from by simp,show(d 16||(16:Nat)==15)=d 16 from by simp];exact Tbv
    simp only[over,cq,aS]
   refine kA.cons (deps:=[(15,83)]) rfl rfl Tc3 (fun vs d w' h0 hC hF K hK=>?_) trivial;have f:=(hF (15,83) Tc2).2;clear hF;simp only[over,cq,cF,aS]at f ⊢;obtain⟨b,e2,hb⟩:=f;rw[e2];simp only at h0;have hz:=hC.2.2.size;refine mU cO.moves underlying22 hi2 ab af ag rfl Tc4 Tc4 rfl _ _ Tc7 (L+1+1+1) (fun _=>False) fx (DE j n) (1+(1+(n*g.Gd+63)/64)/g.Gd) Tc7 (hC.2.1 h0) b 1 [.int .i64 (1+(1+(n*g.Gd+63)/64)/g.Gd)] Tc7 Tc7 rfl Tdc (fun j y hy=>?_) (by simp[];omega) (cA TT.hB hz) (fun _ _ f=>f) (fun gb cap w3 hp=>?_)
   ·exact TcF
   refine hK.o (.slice (some gb) (((DE j n)).length+1) cap) w3 ?_ ⟨hp.grown.size,fun k hk qa qb=>hp.grown.block k hk fun e=>qb rfl e.symm⟩ ⟨gb,cap,aw rfl,hp.own,hp.at'.imp id (fun q=>by omega)⟩ _ ?_
   ·simp only[show(d 4||(4:Nat)==16)=d 4 from by simp];exact Tbu
   simp only[over,cq,cF,aS,e2]
  case cs =>
   intro d w' hC;have hm:=hC.2.2;refine⟨?_,?_,?_⟩
   ·rw[hm.cell (p:=⟨L+1,0,none⟩) (aq hd.bn) (AH (L+1) Tc1)];simp[AN,hd.bn]
   ·rw[hm.cell (p:=⟨L+1+1,0,none⟩) (aq hd.bl) (AH (L+1+1) Tc1)];simp[AN,hd.bl]
   rw[hm.cell (p:=⟨L,6,none⟩) (aq hd.bx) (AH L Tc1)];exact(TT.cx 6 rfl).1
  case fin =>
   intro vs d w' hC hF;have f3:=(hF (4,72) Tc2).2;have f7:=(hF (16,84) Tc2).2;clear hF;simp only[over,cq,cF,aS,cQ,cL]at f3 f7 ⊢;obtain⟨g1,p1,e3,o1,t1⟩:=f3;obtain⟨g2,p2,e7,o2,t2⟩:=f7;rw[e3,e7];generalize vs 3=u3;generalize vs 15=u15;obtain⟨T7,y1,y2,y3,y4⟩:=TT.push2 hC.2.2 o1 t1 o2 t2;simp only[List.length_replicate]at T7;clear hC e3 e7 o1 o2 t1 t2 hd AH TT aC hi2 a8 a9 aa ab af ag a5;have c0:=T7.post.bld.c0;go_wp2_with fail;refine(bY bs 3 _ Tc1 Tc1 T7.post.bld.src).mono ?_;rintro e wA ⟨v3,rfl,am,ao,SZ,S0⟩;have TA:=T7.read SZ S0;clear S0 SZ c0;by_cases hv30:v3=0
   ·subst hv30;obtain⟨ap,ac,B4⟩:∃ap ac,av=.slice ap j ac:=by
     obtain⟨p,c,e,_⟩:=TA.loc.oa.form;refine⟨p,c,?_⟩;rw[e];simp[gB,aI]
    subst B4;have ah:=TA.post.bld.c0;have ca:=(TA.cx 3 rfl).1;have G2:=TA.post.bld.Gj;have UA:=(TA.post.bld.xlt L (.inr (.inl rfl))).2;have aX:=(TA.post.bld.xlt L (.inr (.inl rfl))).1;go_wp2;refine aL (fun w'=>w'.cell? bb=some (.pointer (some bs))/\w'.cell? (Tac L 3)=some (.slice ap j ac)) 9 [0,1,2,4] Tc3 ⟨ah,ca⟩ (fun a5=>?_);refine fz 0 ?_;refine fz 1 ?_;refine fz 2 ?_;refine fz 4 ?_;refine fS 3 a5 ?_;refine fS 5 a5 ?_;refine fS 6 a5 ?_;refine lR 7 fun K hK=>?_;go_simp;refine(bY bs (j:Int) _ Tc1 Tc1 (TA.below ((bj _ _).drew)).post.bld.src).mono ?_;rintro e wB ⟨vi,rfl,PR,Xk,S1,S3⟩;have TB:=(TA.below ((bj _ _).drew)).read S1 S3;refine hK.o _ _ ⟨TB.post.bld.c0,(TB.cx 3 rfl).1⟩ ?_;clear hK K S1 S3 ah ca a5 TA;refine lR 8 fun K hK=>?_;go_simp;have TC:=TB.below (ae wB (.cells #[.int .i64 vi] 3));refine hK.o _ _ ⟨TC.post.bld.c0,(TC.cx 3 rfl).1⟩ ?_;clear hK K;refine aP Tc3 rfl ?_;simp only[cQ,cL];obtain⟨x5,f5⟩:=TC.cx 5 rfl;go_wp2;have hJ:=HJ;unfold kG at hJ;go_meet;refine⟨_,_,_,_,_,_,_,.mirrorLog j ⟨ai,hj⟩ c ⟨aj,zc⟩ [vi] (.inr ⟨vi,PR,Tc1,rfl⟩),TC.stale (b9 wB _) (by have:=TB.post.bld.Gj;omega) (fun q=>by have:=(TB.post.bld.xlt _ q).2;omega) (fun q=>by have:=(TB.post.bld.nLt q).2;omega) (fun q=>by have:=(TB.post.bld.vLt q).2;omega)⟩
   have XV:(v3==0)=false:=by simpa using hv30
   go_wp2;have hJ:=HJ;unfold kG at hJ;go_meet;exact⟨_,_,_,_,_,_,_,.mirrorLog j ⟨ai,hj⟩ c ⟨aj,zc⟩ [] (.inl rfl),TA⟩
 have bi:(v4==0)=false:=by simpa using hv40
 have c0:=T5.post.bld.c0;go_wp2_with fail;refine(bY bs 3 _ Tc1 Tc1 T5.post.bld.src).mono ?_;rintro e wA ⟨v3,rfl,am,ao,SZ,S0⟩;have TA:=T5.read SZ S0;clear S0 SZ c0;by_cases hv30:v3=0
 ·subst hv30;obtain⟨ap,ac,B4⟩:∃ap ac,av=.slice ap j ac:=by
   obtain⟨p,c,e,_⟩:=TA.loc.oa.form;refine⟨p,c,?_⟩;rw[e];simp[gB,aI]
  subst B4;have ah:=TA.post.bld.c0;have ca:=(TA.cx 3 rfl).1;have G2:=TA.post.bld.Gj;have UA:=(TA.post.bld.xlt L (.inr (.inl rfl))).2;have aX:=(TA.post.bld.xlt L (.inr (.inl rfl))).1;go_wp2;refine aL (fun w'=>w'.cell? bb=some (.pointer (some bs))/\w'.cell? (Tac L 3)=some (.slice ap j ac)) 9 [0,1,2,4] Tc3 ⟨ah,ca⟩ (fun a5=>?_);refine fz 0 ?_;refine fz 1 ?_;refine fz 2 ?_;refine fz 4 ?_;refine fS 3 a5 ?_;refine fS 5 a5 ?_;refine fS 6 a5 ?_;refine lR 7 fun K hK=>?_;go_simp;refine(bY bs (j:Int) _ Tc1 Tc1 (TA.below ((bj _ _).drew)).post.bld.src).mono ?_;rintro e wB ⟨vi,rfl,PR,Xk,S1,S3⟩;have TB:=(TA.below ((bj _ _).drew)).read S1 S3;refine hK.o _ _ ⟨TB.post.bld.c0,(TB.cx 3 rfl).1⟩ ?_;clear hK K S1 S3 ah ca a5 TA;refine lR 8 fun K hK=>?_;go_simp;have TC:=TB.below (ae wB (.cells #[.int .i64 vi] 3));refine hK.o _ _ ⟨TC.post.bld.c0,(TC.cx 3 rfl).1⟩ ?_;clear hK K;refine aP Tc3 rfl ?_;simp only[cQ,cL];obtain⟨x5,f5⟩:=TC.cx 5 rfl;go_wp2;have hJ:=HJ;unfold kG at hJ;go_meet;refine⟨_,_,_,_,_,_,_,.mirror j ⟨ai,hj⟩ c ⟨aj,zc⟩ [vi] (.inr ⟨vi,PR,Tc1,rfl⟩),TC.stale (b9 wB _) (by have:=TB.post.bld.Gj;omega) (fun q=>by have:=(TB.post.bld.xlt _ q).2;omega) (fun q=>by have:=(TB.post.bld.nLt q).2;omega) (fun q=>by have:=(TB.post.bld.vLt q).2;omega)⟩
 have XV:(v3==0)=false:=by simpa using hv30
 go_wp2;have hJ:=HJ;unfold kG at hJ;go_meet;exact⟨_,_,_,_,_,_,_,.mirror j ⟨ai,hj⟩ c ⟨aj,zc⟩ [] (.inl rfl),TA⟩
def wU:Mc 4:=by
 intro X bs bb nv vv g next w name a9 am ao n hn1 hn2 L W T0 J K' Q0 HJ hK;conv=>arg 2;whnf
 have c0:=T0.post.bld.c0;go_wp2_with fail;refine(bY bs 2 _ Tc1 Tc1 T0.post.bld.src).mono ?_;rintro e w2 ⟨kv,rfl,aq,hk2,hs2,aa⟩;have T1:=T0.read hs2 aa;clear aa hs2 c0;obtain⟨kk,OU⟩:∃u:Nat,kv+3=(u:Int):=⟨(kv+3).toNat,Tc1⟩;obtain rfl:kv=(kk:Int)-3:=by omega
 have hk3:3<=kk:=by omega
 have hk4:kk<=4:=by omega
 clear OU;have e1:3+((kk:Int)-3)=kk:=by omega
 have b1:0<=n*((kk:Int)-1)/\n*((kk:Int)-1)<=9:=by rcases(show n=1\/n=2\/n=3 by omega)with rfl|rfl|rfl<;>omega
 have b2:=b1.1;have b3:=b1.2;have q1:0<=(15+g.Gd)/g.Gd:=lz Tc1 Tc1;have q2:(15+g.Gd)/g.Gd<=31:=Int.le_trans (mS _ Tc1) Tc1;obtain⟨x1,f1⟩:=T1.cx 1 rfl;go_upto_block 3 with(fail)
 have T2:vq X bs bb nv vv g next w (L+1+1+1) L (L+1) (L+1+1) (.slice none 0 0) (.slice none 0 0) (.slice none 0 0) (.slice none 0 0) [] [] [] [] (n*((kk:Int)-1)) 4 1 es 0 (w2.setCell (Tac L 1) (.int .i64 (n*((kk:Int)-1)))):=T1.put 1 _ (fun _=>rfl);generalize af:AF w2 _ _=W2 at *;clear af x1 f1 b1 T1;go_wp2;go_loopw[14] (fun i wr=>∃(j:Nat) (ft fx av:Value),j<=kk/\i=.int .i64 j/\vq X bs bb nv vv g next w (L+1+1+1) L (L+1) (L+1+1) ft fx av (.slice none 0 0) (aI name j) (DE j (n+(15+g.Gd)/g.Gd)) (gB (aI name j)) [] (n*((kk:Int)-1)) 4 1 es 0 wr) (fun i _=>kk-(intOf i).toNat)
 exact⟨0,_,_,_,Tc1,rfl,T2⟩;obtain⟨j,ft,fx,av,hj,rfl,T3⟩:=hrel;by_cases hlt:j<kk
 ·have z1:(0:Int)<=(j:Int):=by omega
  have z2:(j:Int)<4:=by omega
  have a7:(wr.alloc (.cells #[.string ⟨#[48]⟩,.string ⟨#[49]⟩,.string ⟨#[50]⟩,.string ⟨#[51]⟩] 9)).cell? (wr.1.size,j)=some (.string (digit j)):=by
   refine aD rfl ?_;rcases(show j=0\/j=1\/j=2\/j=3 by omega)with rfl|rfl|rfl|rfl<;>rfl
  have QH:(digit j).size=1:=rfl;have au:¬(9223372036854775807<name.size+4):=by omega
  have a8:¬g.Gd=0:=by omega
  have ag:(g.Gd==0)=false:=by simpa using a8
  have ah:IntKind.i64.wrap (15+g.Gd)=15+g.Gd:=dy _ Tc1;have ai:(15+g.Gd).tdiv g.Gd=(15+g.Gd)/g.Gd:=CC Tc1;have aj:IntKind.i64.wrap ((15+g.Gd)/g.Gd)=(15+g.Gd)/g.Gd:=dy _ Tc1;have ak:IntKind.i64.wrap (n+(15+g.Gd)/g.Gd)=n+(15+g.Gd)/g.Gd:=dy _ Tc1;have zc:¬(9223372036854775807<name.size+4+1):=by omega
  go_wp2;refine aL (fun _=>True) 14 [] Tc3 trivial (fun a5=>?_);refine fS 0 a5 ?_;refine fS 1 a5 ?_;refine fS 2 a5 ?_;refine fS 4 a5 ?_;refine fS 8 a5 ?_;refine fS 9 a5 ?_;refine fS 10 a5 ?_;refine fS 11 a5 ?_;refine fS 12 a5 ?_;refine fS 13 a5 ?_;(refine lR 3 fun K hK=>?_;go_simp;refine hK.o _ _ trivial ?_;clear hK K);(refine lR 5 fun K hK=>?_;go_simp;refine hK.o _ _ trivial ?_;clear hK K);(refine lR 6 fun K hK=>?_;go_simp;refine hK.o _ _ trivial ?_;clear hK K);(refine lR 7 fun K hK=>?_;go_simp;refine hK.o _ _ trivial ?_;clear hK K)
  refine aP Tc3 rfl ?_;simp only[cQ,cL];clear ah ai aj ak a7;have T4:=(T3.below (ae wr (.cells #[.string ⟨#[48]⟩,.string ⟨#[49]⟩,.string ⟨#[50]⟩,.string ⟨#[51]⟩] 9))).below ((bj _ _).drew);go_wp2_with fail;refine(jM _ _ _ _ _ _ _ _ _ _ _ _ _ _ _ _ _ _ _ _ _ _ (fun _=>rfl) T4.loc T4.hB _ _ TdL Tc6 Tdu).mono ?_;rintro e w3 ⟨rfl,aE0,aE1,SY,A1⟩;have T5:=T4.add A1;clear A1;exact TbI
 obtain rfl:j=kk:=by omega
 have c0:=T3.post.bld.c0;go_wp2_with fail;refine(bY bs 2 _ Tc1 Tc1 T3.post.bld.src).mono ?_;rintro e w3 ⟨v3,rfl,aw,ay,hs3,ab⟩;have T4:=T3.read hs3 ab;clear ab hs3 c0;by_cases hv0:v3=0
 ·subst hv0;obtain⟨x4,f4⟩:=T4.cx 4 rfl;go_wp2;have hJ:=HJ;unfold kG at hJ;go_meet;exact⟨_,_,_,_,_,_,_,.parity j ⟨hk3,hk4⟩ g.Gd (.inr rfl),T4.put 4 _ (fun _=>rfl)⟩
 have XV:(v3==0)=false:=by simpa using hv0
 go_wp2;have hJ:=HJ;unfold kG at hJ;go_meet;exact⟨_,_,_,_,_,_,_,.parity j ⟨hk3,hk4⟩ 1 (.inl rfl),T4⟩
def AV:Mc 5:=by
 intro X bs bb nv vv g next w name a5 ae af n hn1 hn2 L W T0 J K' Q0 HJ hK;conv=>arg 2;whnf
 have c0:=T0.post.bld.c0;go_wp2_with fail;refine(bO bs 1 3 _ Tc1 Tc1 Tc1 T0.post.bld.src).mono ?_;rintro e w2 ⟨l,rfl,hl1,aa,hs2,a7⟩;have T1:=T0.read hs2 a7;clear a7 hs2 c0;go_wp2_with fail;refine(jM _ _ _ _ _ _ _ _ _ _ _ _ _ _ _ _ _ _ _ _ _ _ (fun _=>rfl) T1.loc T1.hB _ _ Tc2 Tc2 Tc2).mono ?_;rintro e w3 ⟨rfl,aE0,aE1,SY,A1⟩;have T2:=T1.add A1;clear A1;go_wp2_with fail;refine(jM _ _ _ _ _ _ _ _ _ _ _ _ _ _ _ _ _ _ _ _ _ _ (fun _=>rfl) T2.loc T2.hB _ _ Tc2 Tc2 Tc2).mono ?_;rintro e w4 ⟨rfl,Xl,Xm,ag,A2⟩;have T3:=T2.add A2;clear A2;have c0:=T3.post.bld.c0;go_wp2_with fail;refine(bO bs 1 8 _ Tc1 Tc1 Tc1 T3.post.bld.src).mono ?_;rintro e w5 ⟨c,rfl,ab,zc,a8,a9⟩;have T4:=T3.read a8 a9;clear a9 a8 c0;obtain⟨x4,f4⟩:=T4.cx 4 rfl;go_wp2;have hJ:=HJ;unfold kG at hJ;go_meet;exact⟨_,_,_,_,_,_,_,.pool l c ⟨hl1,aa⟩ ⟨ab,zc⟩,T4.put 4 _ (fun _=>rfl)⟩
def yF:Mc 7:=by
 intro X bs bb nv vv g next w name a8 ai aj n hn1 hn2 L W T0 J K' Q0 HJ hK;conv=>arg 2;whnf
 go_wp2_with fail;refine(jM _ _ _ _ _ _ _ _ _ _ _ _ _ _ _ _ _ _ _ _ _ _ (fun _=>rfl) T0.loc T0.hB _ _ Tc2 Tc2 Tc2).mono ?_;rintro e w3 ⟨rfl,aE0,aE1,SY,A1⟩;have T1:=T0.add A1;clear A1;have c0:=T1.post.bld.c0;go_wp2_with fail;refine(bO bs 1 2 _ Tc1 Tc1 Tc1 T1.post.bld.src).mono ?_;rintro e w2 ⟨l,rfl,hl1,af,hs2,a7⟩;have T2:=T1.read hs2 a7;clear a7 hs2 c0;go_wp2_with fail;refine(jM _ _ _ _ _ _ _ _ _ _ _ _ _ _ _ _ _ _ _ _ _ _ (fun _=>rfl) T2.loc T2.hB _ _ Tc2 Tc2 Tc2).mono ?_;rintro e w4 ⟨rfl,Xl,Xm,ak,A2⟩;have T3:=T2.add A2;clear A2;go_wp2_with fail;refine(jM _ _ _ _ _ _ _ _ _ _ _ _ _ _ _ _ _ _ _ _ _ _ (fun _=>rfl) T3.loc T3.hB _ _ Tc2 Tc2 Tc2).mono ?_;rintro e w5 ⟨rfl,am,ao,aq,A3⟩;have T4:=T3.add A3;clear A3;have c0:=T4.post.bld.c0;have au:=T4.post.bld.Gj;go_wp2;refine aL (fun w'=>w'.cell? bb=some (.pointer (some bs))) 11 [0,1,2,5,6,7] Tc3 c0 (fun a5=>?_);refine fz 0 ?_;refine fz 1 ?_;refine fz 2 ?_;refine fz 5 ?_;refine fz 6 ?_;refine fz 7 ?_;refine fS 3 a5 ?_;refine fS 8 a5 ?_;refine lR 4 fun K hK=>?_;go_simp;refine(bO bs 1 2 _ Tc1 Tc1 Tc1 (T4.below ((bj _ _).drew)).post.bld.src).mono ?_;rintro e w6 ⟨m,rfl,ag,a7,a9,aa⟩;have T5:=(T4.below ((bj _ _).drew)).read a9 aa;refine hK.o _ _ T5.post.bld.c0 ?_;clear hK K a9 aa a5;have a5:=T5.post.bld.c0;refine fS 10 a5 ?_;refine lR 9 fun K hK=>?_;go_simp;refine(bO bs 1 4 _ Tc1 Tc1 Tc1 T5.post.bld.src).mono ?_;rintro e w7 ⟨c,rfl,ah,zc,ab,ae⟩;have T6:=T5.read ab ae;refine hK.o _ _ T6.post.bld.c0 ?_;clear hK K ab ae c0 a5;refine aP Tc3 rfl ?_;simp only[cQ,cL];obtain⟨x4,f4⟩:=T6.cx 4 rfl;obtain⟨x9,f9⟩:=T6.cx 9 rfl;go_wp2;have hJ:=HJ;unfold kG at hJ;go_meet;exact⟨_,_,_,_,_,_,_,.cache l m c ⟨hl1,af⟩ ⟨ag,a7⟩ ⟨ah,zc⟩,(T6.put 9 _ (fun _=>rfl)).put 4 _ (fun _=>rfl)⟩
end Go.Proofs.YtaagglbgohjldaaGreatDoor
