/- Texts joined anew. -/
import Derived.Test.YtoaibhacognbjaaGreatDoorY20
import Derived.Test.YtoaibhacognbjaaGreatDoorY14
import Derived.Test.YtoaibhacognbjaaGreatDoorY08
import Derived.Test.YtoaibhacognbjaaGreatDoorY07
import Derived.Test.YtoaibhacognbjaaGreatDoorY06
import Derived.Test.YtoaibhacognbjaaGreatDoorY02
import Derived.Test.YtoaibhacognbjaaGreatDoorY01
import Derived.Test.YtoaibhacognbjaaGreatDoorY04
import Derived.Test.YtoaibhacognbjaaGreatDoorY05
import Derived.Test.YtoaibhacognbjaaGreatDoorY12
import Derived.Test.YtoaibhacognbjaaGreatDoorY10
import Derived.Test.YtoaibhacognbjaaGreatDoorY09
import Derived.Test.YtoaibhacognbjaaGreatDoorY11
import Derived.Test.YtoaibhacognbjaaGreatDoorY49
import Derived.Test.YtoaibhacognbjaaGreatDoorY33
import Derived.Test.YtoaibhacognbjaaGreatDoorY23
import Derived.Test.YtoaibhacognbjaaGreatDoorY22
import Derived.Test.YtoaibhacognbjaaGreatDoorY21
import Derived.Test.YtoaibhacognbjaaGreatDoorY16
import Derived.Test.YtoaibhacognbjaaGreatDoorY13
import Derived.Test.YtoaibhacognbjaaGreatDoorY15
import Derived.Test.YtoaibhacognbjaaGreatDoorY17
import Derived.Test.YtoaibhacognbjaaGreatDoorY19
import Derived.Test.YtoaibhacognbjaaGreatDoorY18
import Derived.Lib.SmallJoins
import Derived.Test.YtoaibhacognbjaaGreatDoorY27
import Derived.Test.YtoaibhacognbjaaGreatDoorY25
import Derived.Test.YtoaibhacognbjaaGreatDoorY26
import Derived.Test.YtoaibhacognbjaaGreatDoorY32
import Derived.Test.YtoaibhacognbjaaGreatDoorY31
import Derived.Test.YtoaibhacognbjaaGreatDoorY03
import Derived.Test.YtoaibhacognbjaaGreatDoorY30
import Derived.Test.YtoaibhacognbjaaGreatDoorY28
import Derived.Test.YtoaibhacognbjaaGreatDoorY24
import Derived.Test.YtoaibhacognbjaaGreatDoorY29
import Derived.Test.YtoaibhacognbjaaGreatDoorY40
import Derived.Deep.RegionHeld3
import Derived.Test.YtoaibhacognbjaaGreatDoorY45
import Derived.Test.YtoaibhacognbjaaGreatDoorY44
import Derived.Test.YtoaibhacognbjaaGreatDoorY43
import Derived.Test.YtoaibhacognbjaaGreatDoorY42
namespace Go.Proofs.YtoaibhacognbjaaGreatDoor
set_option linter.unusedVariables false
set_option linter.unusedSimpArgs false
set_option maxRecDepth 100000
open Go.RowKit
def spA:ByteArray:=⟨#[92,91,93,40,41,123,125,124,45]⟩
end Go.Proofs.YtoaibhacognbjaaGreatDoor
namespace Go.Proofs.YtoaibhacognbjaaGreatDoor
set_option linter.unusedVariables false
set_option linter.unusedSimpArgs false
set_option maxRecDepth 100000
open Go.RowKit
end Go.Proofs.YtoaibhacognbjaaGreatDoor
namespace Go.Proofs.YtoaibhacognbjaaGreatDoor
set_option linter.unusedVariables false
set_option linter.unusedSimpArgs false
set_option maxRecDepth 100000
open Go.RowKit
end Go.Proofs.YtoaibhacognbjaaGreatDoor
namespace Go.Proofs.YtoaibhacognbjaaGreatDoor
set_option linter.unusedVariables false
set_option linter.unusedSimpArgs false
set_option maxRecDepth 100000
open Go.RowKit
def vsA (g:Nat):List Value:=[.int .i64 4, .slice none 0 0, .slice (some ⟨g,0,none⟩) 1 1, .int .i64 1, .int .i64 2]
def nmX:ByteArray:=⟨#[120]⟩
end Go.Proofs.YtoaibhacognbjaaGreatDoor
namespace Go.Proofs.YtoaibhacognbjaaGreatDoor
set_option linter.unusedVariables false
set_option linter.unusedSimpArgs false
set_option maxRecDepth 100000
open Go.RowKit
def bxK (g b:Nat) (w:World):Prop:=w.heap[b]?=some (.cells #[.string nmX, .int .i64 4, .slice none 0 0, .slice (some ⟨g,0,none⟩) 1 1, .int .i64 1, .int .i64 2, .bool false, .int .i64 0, .int .i64 0, .slice none 0 0, .int .i64 0] 34 (0,0))
end Go.Proofs.YtoaibhacognbjaaGreatDoor
namespace Go.Proofs.YtoaibhacognbjaaGreatDoor
set_option linter.unusedVariables false
set_option linter.unusedSimpArgs false
set_option maxRecDepth 100000
open Go.RowKit
def setAll (b:Nat):List (Nat×Value)→World→World
 | [],w=>w
 | (o,v)::r,w=>setAll b r (w.setCell ⟨b,o,none⟩ v)
end Go.Proofs.YtoaibhacognbjaaGreatDoor
namespace Go.Proofs.YtoaibhacognbjaaGreatDoor
set_option linter.unusedVariables false
set_option linter.unusedSimpArgs false
set_option maxRecDepth 100000
open Go.RowKit Go.Shelf
attribute [local go_sem] Oper.semAt_some
theorem callsIn_nm {F:Fence} {n:Nat} {P:Program} {f:FuncId} {args:Array Value} {Q:Ending→World→Prop} {w:World} (h:∀W,W=w→CallsIn F n P f args W Q):CallsIn F n P f args w Q:=h w rfl
theorem find_at (p:Nat→Bool):∀(L:List Nat) (k:Nat),k<L.length→(∀x,x<k→p ((L[x]?).getD 0)=false)→p ((L[k]?).getD 0)=true→L.find? p=some ((L[k]?).getD 0)
 | a::L,0,_,_,h2=>by
  have h2:p a=true:=h2;rw[List.find?_cons,h2];rfl
 | a::L,k+1,hk,h1,h2=>by
  have h0:p a=false:=h1 0 (by omega)
  rw[List.find?_cons,h0];exact find_at p L k (by simpa using hk) (fun x hx=>h1 (x+1) (by omega)) h2
theorem find_no (p:Nat→Bool):∀(L:List Nat),(∀x,x<L.length→p ((L[x]?).getD 0)=false)→L.find? p=none
 | [],_=>rfl
 | a::L,h=>by
  have h0:p a=false:=h 0 (by simp)
  rw[List.find?_cons,h0];exact find_no p L fun x hx=>h (x+1) (by simpa using hx)
theorem bkV_rev {R:List Nat} {x:Nat} (h:x<R.length):bkV R x=((R.reverse)[x]?).getD 0:=by unfold bkV;rw[List.getElem?_reverse h]
theorem bkV_mem {R:List Nat} {x:Nat} (h:0<R.length):bkV R x∈R:=by
 unfold bkV;rw[List.getElem?_eq_getElem (by omega)]
 exact List.getElem_mem _
theorem choF_some {R:List Nat} {i k:Nat} {clr:Nat→Bool} (hk:k<R.length) (h1:∀x,x<k→(decide (i<bkV R x) && clr (bkV R x))=false) (h2:(decide (i<bkV R k) && clr (bkV R k))=true):choF R i clr=some (bkV R k):=by
 rw[bkV_rev hk];exact find_at _ R.reverse k (by simpa using hk) (fun x hx=>by rw[←bkV_rev (by omega)];exact h1 x hx) (by rw[←bkV_rev hk];exact h2)
theorem choF_none {R:List Nat} {i:Nat} {clr:Nat→Bool} (h1:∀x,x<R.length→(decide (i<bkV R x) && clr (bkV R x))=false):choF R i clr=none:=
 find_no _ R.reverse fun x hx=>by rw[List.length_reverse]at hx;rw[←bkV_rev hx];exact h1 x hx
structure ChB (w:World) (fv:Array Value) (v:Value) (i:Nat) (r:Value) (ok:Bool) (W:World):Prop where
 b0:W.heap[w.heap.size]?=some (.cells fv 78 (0,0))
 b1:W.heap[w.heap.size+1]?=some (.cells #[v] 41 (0,0))
 b2:W.heap[w.heap.size+2]?=some (.cells #[.int .i64 (i:Int)] 3 (0,0))
 b3:W.heap[w.heap.size+3]?=some (.cells #[r] 3 (0,0))
 b4:W.heap[w.heap.size+4]?=some (.cells #[.bool ok] 4 (0,0))
 bel:Below w.heap.size w W
theorem ChB.lt {w:World} {fv:Array Value} {v r:Value} {i:Nat} {ok:Bool} {W:World} (h:ChB w fv v i r ok W):w.heap.size+4<W.heap.size:=(Array.getElem?_eq_some_iff.1 h.b4).1
theorem ChB.to {w:World} {fv:Array Value} {v r:Value} {i:Nat} {ok:Bool} {W W':World} (h:ChB w fv v i r ok W) (hs:W.heap.size≤W'.heap.size) (ho:W'.os=W.os∧W'.tape=W.tape∧W'.output=W.output) (hb:∀k,k<w.heap.size+5→W'.heap[k]?=W.heap[k]?):ChB w fv v i r ok W':=
 ⟨(hb _ (by omega)).trans h.b0,(hb _ (by omega)).trans h.b1,(hb _ (by omega)).trans h.b2,(hb _ (by omega)).trans h.b3,(hb _ (by omega)).trans h.b4,⟨ho.1.trans h.bel.os,ho.2.1.trans h.bel.tape,ho.2.2.trans h.bel.output,Nat.le_trans h.bel.size hs,fun k hk=>(hb k (by omega)).trans (h.bel.block k hk)⟩⟩
theorem ChB.later {w:World} {fv:Array Value} {v r:Value} {i:Nat} {ok:Bool} {W W':World} (h:ChB w fv v i r ok W) (hb:Below W.heap.size W W'):ChB w fv v i r ok W':=
 h.to hb.size ⟨hb.os,hb.tape,hb.output⟩ fun k hk=>hb.block k (by have:=h.lt;omega)
theorem ChB.put {w:World} {fv:Array Value} {v r:Value} {i:Nat} {ok:Bool} {W:World} (h:ChB w fv v i r ok W) (r':Value) (ok':Bool):ChB w fv v i r' ok' ((W.setCell ⟨w.heap.size+3,0,none⟩ r').setCell ⟨w.heap.size+4,0,none⟩ (.bool ok')):=by
 have hs:∀k,k≠w.heap.size+3→k≠w.heap.size+4→((W.setCell ⟨w.heap.size+3,0,none⟩ r').setCell ⟨w.heap.size+4,0,none⟩ (.bool ok')).heap[k]?=W.heap[k]?:=fun k h1 h2=>(Below.heap_setCell _ ⟨w.heap.size+4,0,none⟩ _ k h2).trans (Below.heap_setCell _ ⟨w.heap.size+3,0,none⟩ _ k h1);refine ⟨(hs _ (by omega) (by omega)).trans h.b0,(hs _ (by omega) (by omega)).trans h.b1,(hs _ (by omega) (by omega)).trans h.b2,?_,?_,⟨h.bel.os,h.bel.tape,h.bel.output,by have:=h.bel.size;simpa [World.setCell] using this,fun k hk=>(hs k (by omega) (by omega)).trans (h.bel.block k hk)⟩⟩
 ·exact (Below.heap_setCell _ ⟨w.heap.size+4,0,none⟩ _ _ (by show w.heap.size+3≠w.heap.size+4;omega)).trans (by have:=set_row3 h.b3 0 r';simpa using this)
 ·have:=set_row3 ((Below.heap_setCell W ⟨w.heap.size+3,0,none⟩ r' (w.heap.size+4) (by show w.heap.size+4≠w.heap.size+3;omega)).trans h.b4) 0 (.bool ok')
  simpa using this
def ChI (w w2:World) (fv:Array Value) (v:Value) (i:Nat) (R:List Nat) (clr:Nat→Bool) (pre:List Nat) (W:World):Prop:=(ChB w fv v i (.int .i64 0) false W∧Below w2.heap.size w2 W)∧∀x∈pre,(decide (i<bkV R x) && clr (bkV R x))=false
def ChX (w:World) (fv:Array Value) (v:Value) (i:Nat) (R:List Nat) (clr:Nat→Bool) (c:Code) (pre:List Nat) (W:World):Prop:=c = .ret∧∃q x,pre=q++[x]∧(∀x∈q,(decide (i<bkV R x) && clr (bkV R x))=false)∧(decide (i<bkV R x) && clr (bkV R x))=true∧ChB w fv v i (.int .i64 ((bkV R x:Nat):Int)) true W
theorem ChI.own (w w2:World) (fv:Array Value) (v:Value) (i:Nat) (R:List Nat) (clr:Nat→Bool) (h:w.heap.size+5≤w2.heap.size):OwnFrom w2.heap.size (ChI w w2 fv v i R clr):=by
 rintro s W W' row ⟨⟨h1,h2⟩,h3⟩ hg hr;refine ⟨⟨h1.to hg.size ⟨hg.os,hg.tape,hg.output⟩ fun k hk=>hg.block k (by have:=h1.lt;omega) (fun e=>by have:=(hr _ e.symm).1;omega),h2.grown hg h2.size (fun k hk=>by have:=(hr k hk).1;omega)⟩,h3⟩
theorem ChX.own (w:World) (B:Nat) (fv:Array Value) (v:Value) (i:Nat) (R:List Nat) (clr:Nat→Bool) (h:w.heap.size+5≤B) (c:Code):OwnFrom B (ChX w fv v i R clr c):=by
 rintro s W W' row ⟨h1,q,x,h2,h3,h4,h5⟩ hg hr;exact ⟨h1,q,x,h2,h3,h4,h5.to hg.size ⟨hg.os,hg.tape,hg.output⟩ fun k hk=>hg.block k (by have:=h5.lt;omega) (fun e=>by have:=(hr _ e.symm).1;omega)⟩
set_option maxRecDepth 100000 in
set_option maxHeartbeats 8000000 in
theorem fchoice_any (u:KC) (m:Mc) (Ae Aa A:Option Addr) (ne na ce ca n c i:Nat) (bs R:List Nat) (clr:Nat→Bool) (w:World) (hm:McIn w (.agg #[.slice Ae ne ce, .slice Aa na ca]) m) (hvl:Vld m) (hms:McSm m) (hm1:1≤m.ed.length) (hb:ByIn w (.slice A n c) bs) (hn:bs.length=n) (hnl:n≤900000) (hby:∀b∈bs,b<256) (hi:i≤n)
  (hR:rchF m (bs.drop i) 0 i=R) (hRl:R.length≤1000000) (hRb:∀t∈R,t≤1000000)
  (hclr:∀W t,Below w.heap.size w W→t∈R→Calls Tryz.prog 86 #[.agg #[.string u.nm, .int .i64 u.op, .slice u.a1 u.n1 u.c1, .slice u.a2 u.n2 u.c2, .int .i64 u.mn, .int .i64 u.mx, .bool u.wh, .int .i64 u.ck, .int .i64 u.en, .slice u.a3 u.n3 u.c3, .int .i64 u.nr], .slice A n c, .int .i64 (i:Int), .int .i64 (t:Int)] W fun e w'=>e = .returned (.bool (clr t))∧Below W.heap.size W w') :
  Calls Tryz.prog 52 #[.agg #[.string u.nm, .int .i64 u.op, .slice u.a1 u.n1 u.c1, .slice u.a2 u.n2 u.c2, .int .i64 u.mn, .int .i64 u.mx, .bool u.wh, .int .i64 u.ck, .int .i64 u.en, .slice u.a3 u.n3 u.c3, .int .i64 u.nr, .slice Ae ne ce, .slice Aa na ca], .slice A n c, .int .i64 (i:Int)] w fun e w'=>e = .returned (.tuple #[.int .i64 (((choF R i clr).getD 0:Nat):Int), .bool (choF R i clr).isSome])∧Below w.heap.size w w':=by
 have HRC:=Lib.hid fun W (hbw:Below w.heap.size w W)=>reach_any _ (.slice A n c) m bs i W (hm.later hbw) hvl hms hm1 (hb.later hbw) (by omega) hby (by omega)
 rw[hR]at HRC;have HCL:=Lib.hid hclr;have HL:=Lib.hid (And.intro hRl hRb);clear hm hvl hms hm1 hb hby hR hclr hRl hRb hn;refine (callsIn_wide (n:=7)).1 ?_;refine callsIn_of_wp_marks Tryz.func52 rfl trivial ?_ rfl;simp only[Tryz.ntmps52,List.size_toArray,List.length_cons,List.length_nil,Nat.reduceAdd,Nat.reduceSub,Array.replicate_succ,Array.replicate_zero,List.push_toArray,List.append_toArray,List.nil_append,List.cons_append]
 gi_wp2_with fail
 refine ⟨trivial,?_⟩;refine callsIn_nm fun W0 hW0=>?_;have hC0:ChB w #[.string u.nm, .int .i64 u.op, .slice u.a1 u.n1 u.c1, .slice u.a2 u.n2 u.c2, .int .i64 u.mn, .int .i64 u.mx, .bool u.wh, .int .i64 u.ck, .int .i64 u.en, .slice u.a3 u.n3 u.c3, .int .i64 u.nr, .slice Ae ne ce, .slice Aa na ca] (.slice A n c) i (.int .i64 0) false W0:=by
  have hWa:W0=allocs w [(#[.string u.nm, .int .i64 u.op, .slice u.a1 u.n1 u.c1, .slice u.a2 u.n2 u.c2, .int .i64 u.mn, .int .i64 u.mx, .bool u.wh, .int .i64 u.ck, .int .i64 u.en, .slice u.a3 u.n3 u.c3, .int .i64 u.nr, .slice Ae ne ce, .slice Aa na ca],78),(#[.slice A n c],41),(#[.int .i64 (i:Int)],3),(#[.int .i64 0],3),(#[.bool false],4)]:=by rw[hW0];rfl
  rw[hWa];exact ⟨allocs_at 0 rfl,allocs_at 1 rfl,allocs_at 2 rfl,allocs_at 3 rfl,allocs_at 4 rfl,allocs_below _ _⟩
 have HC0:=Lib.hid hC0;clear hW0 hC0;refine (callsIn_wide.2 (HRC.out W0 HC0.out.bel)).mono ?_;rintro e w1 ⟨rv,rfl,hown,hb1⟩;obtain ⟨Ar,cr,rfl,-,-⟩:=own_form (show w1.ownsRow _ _ _ _ _ _ from hown);obtain ⟨nr,hnr⟩:∃x,R.length=x:=⟨_,rfl⟩;have lt1':=(HC0.out.later hb1).lt;obtain ⟨gR,hgR,hA,hcR⟩:∃gR,gR<w1.heap.size∧(nr=0∨Ar=some ⟨gR,0,none⟩)∧∀j,j<nr→gR<w1.heap.size∧w1.cell? ⟨gR,0+j,none⟩=some (.int .i64 (((R[j]?).getD 0:Nat):Int)):=by
  obtain ⟨A',c',e,-,hor⟩:=hown.cells inC_E;injection e with e1 _ _;rcases hor with hnil | ⟨gR,hA',-,hg,hcs⟩
  ·exact ⟨0,by omega, .inl (by rw[←hnr,hnil];rfl),fun j hj=>by rw[←hnr,hnil]at hj;cases hj⟩
  ·refine ⟨gR,hg, .inr (e1.trans hA'),fun j hj=>⟨hg,?_⟩⟩;have h9:=(hcs j (show j<R.length by omega) 0 (by decide)).1
   rw[Nat.mul_one,Nat.add_zero]at h9;rw[Nat.zero_add,h9,List.getElem?_eq_getElem (show j<R.length by omega)];rfl
 have HC1:=Lib.hid (HC0.out.later hb1);have HA:=Lib.hid (And.intro hA hcR);have HN:=Lib.hid hnr;rw[hnr];clear hown hb1 hA hcR hnr
 gi_wp2_with fail
 refine ⟨trivial,?_⟩;refine (back_in Fence.wide _ trivial rfl _ _ _ _).mono ?_;rintro e w2 ⟨rfl,hw2⟩;have hb2:Below w1.heap.size w1 w2:=by rw[hw2];exact (Below.refl _ _).alloc (Nat.le_refl _) _
 have hS2:w2.heap[w1.heap.size]?=some (.cells #[.slice Ar nr cr] 22 (0,0)):=by rw[hw2];exact heap_alloc_new w1 _
 have HC2:=Lib.hid (HC1.out.later hb2);have HS2:=Lib.hid (And.intro hb2 hS2);clear hw2 hb2 hS2
 gi_wp2_with fail
 have hC2:=HC2.out;have lt2:=hC2.lt;have hs1:w1.heap.size<w2.heap.size:=(Array.getElem?_eq_some_iff.1 HS2.out.2).1;have lt1:=HC1.out.lt;have hI0:ChI w w2 #[.string u.nm, .int .i64 u.op, .slice u.a1 u.n1 u.c1, .slice u.a2 u.n2 u.c2, .int .i64 u.mn, .int .i64 u.mx, .bool u.wh, .int .i64 u.ck, .int .i64 u.en, .slice u.a3 u.n3 u.c3, .int .i64 u.nr, .slice Ae ne ce, .slice Aa na ca] (.slice A n c) i R clr [] w2:=⟨⟨hC2,Below.refl _ _⟩,fun x hx=>by cases hx⟩
 refine wpIn_rangeFunc_ownG rfl (by omega) (gf:=115) (lb:=#[.pointer (some ⟨w1.heap.size,0,none⟩)]) rfl trivial (enters_of Tryz.func115 (by kernel_rfl) rfl)
  (back_stops Fence.wide _ trivial rfl (by omega) w1.heap.size gR 0 Ar R nr cr HN.out (by have:=HL.out.1;have:=HN.out;omega) HA.out.1 w2 (by rw[cell_of_row _ _ _ _ _ _ HS2.out.2];rfl) hs1 (fun j hj=>⟨Nat.lt_trans (HA.out.2 j hj).1 hs1,(HS2.out.1.cell (p:=⟨gR,0+j,none⟩) (HA.out.2 j hj).1).trans (HA.out.2 j hj).2⟩)) KpB.trans
  (fun W q o o' hq hW _ _=>⟨World.putObj_heap_other (by omega),World.putObj_heap_other (by omega)⟩) (Below.refl _ _) (fun _=>rfl)
  (ChI w w2 #[.string u.nm, .int .i64 u.op, .slice u.a1 u.n1 u.c1, .slice u.a2 u.n2 u.c2, .int .i64 u.mn, .int .i64 u.mx, .bool u.wh, .int .i64 u.ck, .int .i64 u.en, .slice u.a3 u.n3 u.c3, .int .i64 u.nr, .slice Ae ne ce, .slice Aa na ca] (.slice A n c) i R clr) (ChX w #[.string u.nm, .int .i64 u.op, .slice u.a1 u.n1 u.c1, .slice u.a2 u.n2 u.c2, .int .i64 u.mn, .int .i64 u.mx, .bool u.wh, .int .i64 u.ck, .int .i64 u.en, .slice u.a3 u.n3 u.c3, .int .i64 u.nr, .slice Ae ne ce, .slice Aa na ca] (.slice A n c) i R clr) (ChI.own w w2 _ _ i R clr (by omega)) (fun c'=>ChX.own w w2.heap.size _ _ i R clr (by omega) c') hI0
  (fun x=>{ tmps:=#[.agg #[.string u.nm, .int .i64 u.op, .slice u.a1 u.n1 u.c1, .slice u.a2 u.n2 u.c2, .int .i64 u.mn, .int .i64 u.mx, .bool u.wh, .int .i64 u.ck, .int .i64 u.en, .slice u.a3 u.n3 u.c3, .int .i64 u.nr, .slice Ae ne ce, .slice Aa na ca], .slice A n c, .int .i64 (i:Int), .pointer (some ⟨w.heap.size,0,none⟩), .pointer (some ⟨w.heap.size+1,0,none⟩), .pointer (some ⟨w.heap.size+1+1,0,none⟩), .pointer (some ⟨w.heap.size+1+1+1,0,none⟩), .pointer (some ⟨w.heap.size+1+1+1+1,0,none⟩),undef, .int .i64 ((bkV R x:Nat):Int), .pointer (some ⟨w.heap.size,11,none⟩), .agg #[.slice Ae ne ce, .slice Aa na ca], .slice A n c, .int .i64 (i:Int), .slice Ar nr cr,
   .func (.func 115) #[] #[.pointer (some ⟨w1.heap.size,0,none⟩)], .int .i64 ((R.length:Int) - 1-x), .int .i64 ((bkV R x:Nat):Int),undef,undef,undef,undef,undef,undef,undef,undef,undef,undef,undef,undef],defers:=[] }) ?assign ?body ?done ?stop
 case assign=>
  intro q x W K hK;unfold bkE
  gi_wp2
  exact hK
 case body=>
  rintro q pre x W ⟨⟨hC,hbl⟩,hpre⟩ hlt;have hmem:bkV R x∈R:=bkV_mem (by have:=HN.out;omega)
  have hvb:=HL.out.2 _ hmem;obtain ⟨v,hv⟩:∃v,bkV R x=v:=⟨_,rfl⟩;rw[hv]at hmem hvb⊢;have HCV:=Lib.hid (HCL.out W v hC.bel hmem);have HW:=Lib.hid (And.intro hC (And.intro hbl (And.intro hpre hv)));have ltW:=hC.lt;have a0:W.cell? ⟨w.heap.size,0,none⟩=some (.string u.nm):=by rw[cell_of_row _ _ _ _ _ _ hC.b0];rfl
  have a1:W.cell? ⟨w.heap.size,1,none⟩=some (.int .i64 u.op):=by rw[cell_of_row _ _ _ _ _ _ hC.b0];rfl
  have a2:W.cell? ⟨w.heap.size,2,none⟩=some (.slice u.a1 u.n1 u.c1):=by rw[cell_of_row _ _ _ _ _ _ hC.b0];rfl
  have a3:W.cell? ⟨w.heap.size,3,none⟩=some (.slice u.a2 u.n2 u.c2):=by rw[cell_of_row _ _ _ _ _ _ hC.b0];rfl
  have a4:W.cell? ⟨w.heap.size,4,none⟩=some (.int .i64 u.mn):=by rw[cell_of_row _ _ _ _ _ _ hC.b0];rfl
  have a5:W.cell? ⟨w.heap.size,5,none⟩=some (.int .i64 u.mx):=by rw[cell_of_row _ _ _ _ _ _ hC.b0];rfl
  have a6:W.cell? ⟨w.heap.size,6,none⟩=some (.bool u.wh):=by rw[cell_of_row _ _ _ _ _ _ hC.b0];rfl
  have a7:W.cell? ⟨w.heap.size,7,none⟩=some (.int .i64 u.ck):=by rw[cell_of_row _ _ _ _ _ _ hC.b0];rfl
  have a8:W.cell? ⟨w.heap.size,8,none⟩=some (.int .i64 u.en):=by rw[cell_of_row _ _ _ _ _ _ hC.b0];rfl
  have a9:W.cell? ⟨w.heap.size,9,none⟩=some (.slice u.a3 u.n3 u.c3):=by rw[cell_of_row _ _ _ _ _ _ hC.b0];rfl
  have a10:W.cell? ⟨w.heap.size,10,none⟩=some (.int .i64 u.nr):=by rw[cell_of_row _ _ _ _ _ _ hC.b0];rfl
  have a11:W.cell? ⟨w.heap.size+1,0,none⟩=some (.slice A n c):=by rw[cell_of_row _ _ _ _ _ _ hC.b1];rfl
  have a12:W.cell? ⟨w.heap.size+1+1,0,none⟩=some (.int .i64 (i:Int)):=by rw[cell_of_row _ _ _ _ _ _ hC.b2];rfl
  have l0:w.heap.size<W.heap.size:=by omega
  have l1:w.heap.size+1<W.heap.size:=by omega
  have l2:w.heap.size+1+1<W.heap.size:=by omega
  clear hC hbl hpre hv hmem hI0 hC2;by_cases hiv:i<v
  ·have d1:decide ((i:Int)<(v:Int))=true:=decide_eq_true (by omega)
   have d1n:decide (i<v)=true:=decide_eq_true hiv
   gi_wp2_with fail
   refine ⟨trivial,(CallsIn.inRound q (callsIn_wide.2 HCV.out)).mono ?_⟩;rintro e w3 ⟨rfl,hb3⟩;have hC3:=HW.out.1.later hb3;have hz3:=hb3.size;have l3:w.heap.size+1+1+1<w3.heap.size:=by omega
   have l4:w.heap.size+1+1+1+1<w3.heap.size:=by omega
   have e3:w3.cell? ⟨w.heap.size+1+1+1,0,none⟩=some (.int .i64 0):=by rw[cell_of_row _ _ _ _ _ _ hC3.b3];rfl
   have e4:w3.cell? ⟨w.heap.size+1+1+1+1,0,none⟩=some (.bool false):=by rw[cell_of_row _ _ _ _ _ _ hC3.b4];rfl
   have f3:w3.frozen? ⟨w.heap.size+1+1+1,0,none⟩=false:=by simp[World.frozen?,show w3.heap[w.heap.size+1+1+1]?=_ from hC3.b3]
   have f4:w3.frozen? ⟨w.heap.size+1+1+1+1,0,none⟩=false:=by simp[World.frozen?,show w3.heap[w.heap.size+1+1+1+1]?=_ from hC3.b4]
   have hko:KeepsOthers W w3:=⟨hb3.size,fun k ob hk _=>(hb3.block k (Array.getElem?_eq_some_iff.1 hk).1).trans hk⟩;have H3:=Lib.hid (And.intro hC3 (And.intro hb3 hko));clear hC3 hb3 hko
   cases hcl:clr v with
   | true=>
    have HCLR:=Lib.hid hcl;clear hcl
    gi_wp2_with fail
    refine ⟨((H3.out.2.2.trans (KeepsOthers.setCell _ _ _)).trans (KeepsOthers.setCell _ _ _)).from _,rfl,pre,x,rfl,HW.out.2.2.1,by rw[HW.out.2.2.2,HCLR.out,d1n];rfl,?_⟩
    rw[HW.out.2.2.2];exact H3.out.1.put _ true
   | false=>
    have HCLR:=Lib.hid hcl;clear hcl
    gi_wp2_with fail
    exact ⟨H3.out.2.2.from _,⟨H3.out.2.1.block _ (by have:=HW.out.2.1.size;omega),H3.out.2.1.block _ (by have:=HW.out.2.1.size;omega)⟩,⟨H3.out.1,HW.out.2.1.trans (H3.out.2.1.mono HW.out.2.1.size)⟩,fun y hy=>(List.mem_append.1 hy).elim (HW.out.2.2.1 y) fun hy=>by rw[List.mem_singleton]at hy;subst hy;rw[HW.out.2.2.2,HCLR.out,Bool.and_false]⟩
  ·have d1:decide ((i:Int)<(v:Int))=false:=decide_eq_false (by omega)
   have d1n:decide (i<v)=false:=decide_eq_false hiv
   gi_wp2_with fail
   refine ⟨trivial,?_⟩
   gi_wp2_with fail
   exact ⟨KeepsFrom.refl _ _,KpB.refl _ _ _,⟨HW.out.1,HW.out.2.1⟩,fun y hy=>(List.mem_append.1 hy).elim (HW.out.2.2.1 y) fun hy=>by rw[List.mem_singleton]at hy;subst hy;rw[HW.out.2.2.2,d1n,Bool.false_and]⟩
 case done=>
  rintro D ys W hD rfl ⟨⟨hC,hbl⟩,hpre⟩ hK;have ltW:=hC.lt;have l3:w.heap.size+1+1+1<W.heap.size:=by omega
  have l4:w.heap.size+1+1+1+1<W.heap.size:=by omega
  have e3:W.cell? ⟨w.heap.size+1+1+1,0,none⟩=some (.int .i64 0):=by rw[cell_of_row _ _ _ _ _ _ hC.b3];rfl
  have e4:W.cell? ⟨w.heap.size+1+1+1+1,0,none⟩=some (.bool false):=by rw[cell_of_row _ _ _ _ _ _ hC.b4];rfl
  have f3:W.frozen? ⟨w.heap.size+1+1+1,0,none⟩=false:=by simp[World.frozen?,show W.heap[w.heap.size+1+1+1]?=_ from hC.b3]
  have f4:W.frozen? ⟨w.heap.size+1+1+1+1,0,none⟩=false:=by simp[World.frozen?,show W.heap[w.heap.size+1+1+1+1]?=_ from hC.b4]
  have hcn:choF R i clr=none:=choF_none fun x hx=>hpre x (List.mem_range.2 (by have:=HN.out;omega))
  have HD:=Lib.hid (And.intro hC (And.intro hcn (And.intro hK hD)));clear hC hbl hpre hcn hK hI0 hC2
  gi_wp2
  have hC9:=HD.out.1.put (.int .i64 0) false;obtain ⟨W9,hW9⟩:∃V,V=((W.setCell ⟨w.heap.size+3,0,none⟩ (.int .i64 0)).setCell ⟨w.heap.size+4,0,none⟩ (.bool false)):=⟨_,rfl⟩;rw[←hW9]at hC9;have hK9:W9.heap[D]?=some (.deferred (some [])):=by rw[hW9];exact (Below.heap_setCell _ ⟨w.heap.size+4,0,none⟩ _ D (by show D≠w.heap.size+4;omega)).trans ((Below.heap_setCell _ ⟨w.heap.size+3,0,none⟩ _ D (by show D≠w.heap.size+3;omega)).trans HD.out.2.2.1)
  have c0:(W9.putObj D (.deferred none)).cell? ⟨w.heap.size+1+1+1,0,none⟩=some (.int .i64 0):=by rw[cell_of_row _ _ _ _ _ _ ((World.putObj_heap_other (by omega)).trans hC9.b3)];rfl
  have c1:(W9.putObj D (.deferred none)).cell? ⟨w.heap.size+1+1+1+1,0,none⟩=some (.bool false):=by rw[cell_of_row _ _ _ _ _ _ ((World.putObj_heap_other (by omega)).trans hC9.b4)];rfl
  have hbf:Below w.heap.size w (W9.putObj D (.deferred none)):=hC9.bel.trans (belowK_b (w:=w) (Nat.le_refl _) W9 D _ _ (by omega) hK9 rfl rfl)
  rw[←hW9];refine ⟨by simp, .inl ⟨_,_,rfl,run_takeDeferred hK9,?_⟩⟩
  refine ⟨.tuple #[.int .i64 0, .bool false],by simp[results,Tryz.results52,go_sem,c0,c1];try rfl,?_⟩
  exact ⟨by rw[HD.out.2.1];rfl,hbf⟩
 case stop=>
  rintro D c' pre W hD ⟨k,hk,rfl⟩ ⟨rfl,q,x,hq,h3,h4,hC⟩ hK;have hqx:q=List.range k∧x=k:=by
   rw[List.range_succ]at hq;obtain ⟨e1,e2⟩:=List.append_inj' hq rfl;injection e2 with e2;exact ⟨e1.symm,e2.symm⟩
  obtain ⟨rfl,rfl⟩:=hqx;have hcs:choF R i clr=some (bkV R x):=choF_some (by have:=HN.out;omega) (fun y hy=>h3 y (List.mem_range.2 hy)) h4
  have HD:=Lib.hid (And.intro hC (And.intro hcs (And.intro hK hD)));clear hq h3 h4 hC hcs hI0 hC2
  gi_wp2
  have ltW:=HD.out.1.lt;have hC9:=HD.out.1;have c0:(W.putObj D (.deferred none)).cell? ⟨w.heap.size+1+1+1,0,none⟩=some (.int .i64 ((bkV R x:Nat):Int)):=by rw[cell_of_row _ _ _ _ _ _ ((World.putObj_heap_other (by omega)).trans hC9.b3)];rfl
  have c1:(W.putObj D (.deferred none)).cell? ⟨w.heap.size+1+1+1+1,0,none⟩=some (.bool true):=by rw[cell_of_row _ _ _ _ _ _ ((World.putObj_heap_other (by omega)).trans hC9.b4)];rfl
  have hbf:Below w.heap.size w (W.putObj D (.deferred none)):=hC9.bel.trans (belowK_b (w:=w) (Nat.le_refl _) W D _ _ (by omega) HD.out.2.2.1 rfl rfl)
  refine ⟨by simp, .inl ⟨_,_,rfl,run_takeDeferred HD.out.2.2.1,?_⟩⟩
  refine ⟨.tuple #[.int .i64 ((bkV R x:Nat):Int), .bool true],by simp[results,Tryz.results52,go_sem,c0,c1];try rfl,?_⟩
  exact ⟨by rw[HD.out.2.1];rfl,hbf⟩
end Go.Proofs.YtoaibhacognbjaaGreatDoor
namespace Go.Proofs.YtoaibhacognbjaaGreatDoor
set_option linter.unusedVariables false
set_option linter.unusedSimpArgs false
set_option maxRecDepth 100000
open Go.RowKit
def McGo (m:Mc):Prop:=Vld m∧McSm m∧1≤m.ed.length
theorem choice_any (x:KC×M2) (m:Mc) (A:Option Addr) (n c i:Nat) (bs:List Nat) (w:World) (hm:McIn w x.2.val m) (hv:McGo m) (hb:ByIn w (.slice A n c) bs) (hn:bs.length=n) (hnl:n≤900000) (hby:∀b∈bs,b<256) (hi:i≤n) :
  Calls Tryz.prog 52 #[.agg #[.string x.1.nm, .int .i64 x.1.op, .slice x.1.a1 x.1.n1 x.1.c1, .slice x.1.a2 x.1.n2 x.1.c2, .int .i64 x.1.mn, .int .i64 x.1.mx, .bool x.1.wh, .int .i64 x.1.ck, .int .i64 x.1.en, .slice x.1.a3 x.1.n3 x.1.c3, .int .i64 x.1.nr, .slice x.2.a1 x.2.n1 x.2.c1, .slice x.2.a2 x.2.n2 x.2.c2], .slice A n c, .int .i64 (i:Int)] w fun e w'=>e = .returned (.tuple #[.int .i64 (((chF m x.1.wh bs i).getD 0:Nat):Int), .bool (chF m x.1.wh bs i).isSome])∧Below w.heap.size w w':=by
 have hmem:=rchF_mem m (bs.drop i) 0 i;refine fchoice_any x.1 m x.2.a1 x.2.a2 A x.2.n1 x.2.n2 x.2.c1 x.2.c2 n c i bs (rchF m (bs.drop i) 0 i) (clrF x.1.wh bs i) w hm hv.1 hv.2.1 hv.2.2 hb hn hnl hby hi rfl ?_ ?_ ?_
 ·have:=rch_len m (bs.drop i) 0 i;rw[List.length_drop]at this;omega
 ·intro t ht;obtain ⟨j,rfl,h1,-⟩:=(hmem t).1 ht;rw[List.length_drop]at h1;omega
 ·intro W t hW _;exact clear_any x.1 A n c i t bs W (hb.later hW) hn hnl
theorem chs_step {f:Nat→Option Nat} {n:Nat} (hf:∀i t,i<n→f i=some t→i<t) {i:Nat} (hi:i<n):chsF f n n i=match f i with | none=>chsF f n n (i+1) | some t=>(i,t)::chsF f n n t:=by
 obtain ⟨k,rfl⟩:∃k,n=k+1:=⟨n - 1,by omega⟩
 rw[chsF,if_pos hi]
 cases h:f i with
 | none=>exact chsF_more f (k+1) hf k (k+1) (i+1) (by omega) (by omega)
 | some t=>
  have:=hf i t hi h;show (i,t)::_=(i,t)::_;rw[chsF_more f (k+1) hf k (k+1) t (by omega) (by omega)]
theorem chs_end {f:Nat→Option Nat} {n i:Nat} (hi:n≤i):chsF f n n i=[]:=by
 cases n with
 | zero=>rfl
 | succ k=>rw[chsF,if_neg (by omega)]
def EachP (b TY:Nat) (I:List (Nat×Nat)→World→Prop) (l:List (Nat×Nat)) (W:World) (e:Ending) (w':World):Prop:=
 (∃v,e = .returned v)∧I l w'∧Below b W w'∧∀q T cs m,q≠b→T≠TY→W.heap[q]?=some (.cells cs T m)→w'.heap[q]?=some (.cells cs T m)
def bxF (x:KC×M2) (b:Nat) (w:World):Prop:=w.heap[b]?=some (.cells #[.string x.1.nm, .int .i64 x.1.op, .slice x.1.a1 x.1.n1 x.1.c1, .slice x.1.a2 x.1.n2 x.1.c2, .int .i64 x.1.mn, .int .i64 x.1.mx, .bool x.1.wh, .int .i64 x.1.ck, .int .i64 x.1.en, .slice x.1.a3 x.1.n3 x.1.c3, .int .i64 x.1.nr, .slice x.2.a1 x.2.n1 x.2.c1, .slice x.2.a2 x.2.n2 x.2.c2] 78 (0,0))
theorem bxF.later {x:KC×M2} {b:Nat} {w w':World} (h:bxF x b w) (hb:Below w.heap.size w w'):bxF x b w':=(hb.block b (Array.getElem?_eq_some_iff.1 h).1).trans h
theorem bxF.cells {x:KC×M2} {b:Nat} {w:World} (h:bxF x b w):(w.cell? ⟨b,0,none⟩=some (.string x.1.nm)∧w.cell? ⟨b,1,none⟩=some (.int .i64 x.1.op)∧w.cell? ⟨b,2,none⟩=some (.slice x.1.a1 x.1.n1 x.1.c1)∧w.cell? ⟨b,3,none⟩=some (.slice x.1.a2 x.1.n2 x.1.c2)∧w.cell? ⟨b,4,none⟩=some (.int .i64 x.1.mn)∧w.cell? ⟨b,5,none⟩=some (.int .i64 x.1.mx))∧(w.cell? ⟨b,6,none⟩=some (.bool x.1.wh)∧w.cell? ⟨b,7,none⟩=some (.int .i64 x.1.ck)∧w.cell? ⟨b,8,none⟩=some (.int .i64 x.1.en)∧w.cell? ⟨b,9,none⟩=some (.slice x.1.a3 x.1.n3 x.1.c3)∧w.cell? ⟨b,10,none⟩=some (.int .i64 x.1.nr))∧(w.cell? ⟨b,11,none⟩=some (.slice x.2.a1 x.2.n1 x.2.c1)∧w.cell? ⟨b,12,none⟩=some (.slice x.2.a2 x.2.n2 x.2.c2))∧b<w.heap.size:=by
 refine ⟨⟨?_,?_,?_,?_,?_,?_⟩,⟨?_,?_,?_,?_,?_⟩,⟨?_,?_⟩,(Array.getElem?_eq_some_iff.1 h).1⟩ <;> (rw[cell_of_row _ _ _ _ _ _ h]; rfl)
set_option maxHeartbeats 8000000 in
theorem choices_any (x:KC×M2) (m:Mc) (A:Option Addr) (n c b TY gi:Nat) (caps:Array Value) (bs:List Nat) (I:List (Nat×Nat)→World→Prop) (w:World) (hei:∀args w',(callFunc gi args).run Tryz.prog w' = .ok (.enter gi args) w') (hmb:∀W,Below b w W→McIn W x.2.val m∧ByIn W (.slice A n c) bs) (hv:McGo m) (hn:bs.length=n) (hnl:n≤900000) (hby:∀b∈bs,b<256)
  (hb:b<w.heap.size) (hTY:TY≠78) (h0:I [] w) (hIl:∀l W W',I l W→Below W.heap.size W W'→I l W')
  (hE:∀l a z W,(l++[(a,z)]).length≤n→a<z∧z≤n→Below b w W→I l W→Calls Tryz.prog gi (#[.int .i64 (a:Int), .int .i64 (z:Int)]++caps) W (EachP b TY I (l++[(a,z)]) W)) :
  Calls Tryz.prog 42 #[.agg #[.string x.1.nm, .int .i64 x.1.op, .slice x.1.a1 x.1.n1 x.1.c1, .slice x.1.a2 x.1.n2 x.1.c2, .int .i64 x.1.mn, .int .i64 x.1.mx, .bool x.1.wh, .int .i64 x.1.ck, .int .i64 x.1.en, .slice x.1.a3 x.1.n3 x.1.c3, .int .i64 x.1.nr, .slice x.2.a1 x.2.n1 x.2.c1, .slice x.2.a2 x.2.n2 x.2.c2], .slice A n c, .func (.func gi) #[] caps] w fun e w'=>(∃v,e = .returned v)∧I (chA m x.1.wh bs) w'∧Below b w w':=by
 have HM:=Lib.hid hmb;have HC:=Lib.hid fun (i:Nat) (hi:i≤n) (W:World) (hW:Below b w W)=>choice_any x m A n c i bs W (hmb W hW).1 hv (hmb W hW).2 hn hnl hby hi;have HE:=Lib.hid hE;have HI:=Lib.hid (And.intro hIl hTY);have hwh:∃wh,x.1.wh=wh:=⟨_,rfl⟩;obtain ⟨f,hf⟩:∃f,chF m x.1.wh bs=f:=⟨_,rfl⟩;have hlt:∀i t,i<n→f i=some t→i<t∧t≤n:=fun i t hi h=>by rw[←hn];rw[←hf]at h;exact chF_lt (by omega) h
 have hch:chA m x.1.wh bs=chsF f n n 0:=by unfold chA;rw[hn,hf]
 have hlen:∀k i,i≤n→(chsF f n k i).length+i≤n:=by
  intro k
  induction k with
  | zero=>intro i hi;rw[chsF];simpa using hi
  | succ k ih=>
   intro i hi;rw[chsF];by_cases h:i<n
   ·rw[if_pos h]
    cases hfi:f i with
    | none=>have:=ih (i+1) (by omega);show (chsF f n k (i+1)).length+i≤n;omega
    | some t=>have h9:=hlt i t h hfi;have:=ih t h9.2;show ((i,t)::chsF f n k t).length+i≤n;simp only[List.length_cons];omega
   ·rw[if_neg h];simpa using hi
 rw[hch];have hlen0:=hlen n 0 (Nat.zero_le _);obtain ⟨L,hL⟩:∃L,chsF f n n 0=L:=⟨_,rfl⟩;rw[hL]at hlen0⊢;have HL:=Lib.hid (And.intro hL (And.intro hlt hlen0));have HF:=Lib.hid hf;have HI0:=Lib.hid h0;clear hmb hv hby hE hIl hTY h0 hch hlen hlen0 hlt hL hf hwh hn
 go_enter Tryz.func42,Tryz.ntmps42
 go_wp2_with fail;refine wp_nm fun W0 hW0=>?_;have hb0:Below w.heap.size w W0:=by rw[hW0];exact (Below.refl _ _).alloc (Nat.le_refl _) _
 have hX0:bxF x w.heap.size W0:=by rw[hW0];exact heap_alloc_new w _
 have H0:=Lib.hid (And.intro (hb0.mono (Nat.le_of_lt hb)) (And.intro hX0 (HI.out.1 [] w W0 HI0.out hb0)));clear hW0 hb0 hX0 HI0
 go_loopw [6] (fun v wr=>∃(i:Nat) (l:List (Nat×Nat)),i≤n∧v = .int .i64 (i:Int)∧Hid (l++chsF f n n i=L∧I l wr)∧bxF x w.heap.size wr∧Below b w wr) (fun v _=>n - (intOf v).toNat)
 case atStart=>exact ⟨0,[],by omega,rfl,⟨HL.out.1,H0.out.2.2⟩,H0.out.2.1,H0.out.1⟩
 case round=>
  obtain ⟨i,l,hi,rfl,HR,hX,hbw⟩:=hrel;by_cases hin:i<n
  ·have hd:decide ((i:Int)<(n:Int))=true:=decide_eq_true (by omega)
   have hdn:decide (i<n)=true:=decide_eq_true hin;obtain ⟨⟨c0,c1,c2,c3,c4,c5⟩,⟨c6,c7,c8,c9,c10⟩,⟨c11,c12⟩,lb⟩:=hX.cells;have H1:=Lib.hid (And.intro hX hbw);have CC:=Lib.hid (HC.out i hi wr hbw);rw[HF.out]at CC;have hst:=chs_step (fun i t h1 h2=>(HL.out.2.1 i t h1 h2).1) hin;clear hX hbw
   cases hfi:f i with
   | none=>
    rw[hfi]at CC hst;have HS:=Lib.hid hst;clear hst hfi;go_wp2_with fail;refine CC.out.mono ?_;rintro e w1 ⟨rfl,hb1⟩;have H2:=Lib.hid (And.intro (H1.out.1.later hb1) (And.intro (H1.out.2.trans (hb1.mono (by have:=H1.out.2.size;omega))) (HI.out.1 l wr w1 HR.out.2 hb1)))
    clear hb1 c0 c1 c2 c3 c4 c5 c6 c7 c8 c9 c10 c11 c12 lb;go_wp2_with fail;go_roundw
    case rel=>exact ⟨i+1,l,by omega,by go_num,⟨by rw[←HR.out.1,HS.out],H2.out.2.2⟩,H2.out.1,H2.out.2.1⟩
    case measure=>simp[intOf];omega
   | some t=>
    rw[hfi]at CC hst;have htt:=HL.out.2.1 i t hin hfi;have HS:=Lib.hid hst;clear hst hfi;go_wp2_with fail;refine CC.out.mono ?_;rintro e w1 ⟨rfl,hb1⟩;have H2:=Lib.hid (And.intro (H1.out.1.later hb1) (And.intro (H1.out.2.trans (hb1.mono (by have:=H1.out.2.size;omega))) (HI.out.1 l wr w1 HR.out.2 hb1)))
    clear hb1 c0 c1 c2 c3 c4 c5 c6 c7 c8 c9 c10 c11 c12 lb;have hll:(l++[(i,t)]).length≤n:=by
     have h1:=congrArg List.length HR.out.1;rw[HS.out]at h1;have:=HL.out.2.2;simp only[List.length_append,List.length_cons]at h1⊢;simp only[List.length_nil];omega
    have HEE:=Lib.hid (HE.out l i t w1 hll htt H2.out.2.1 H2.out.2.2);have htz:(t:Int)≤n:=by omega
    clear hll;go_wp2_with fail;refine HEE.out.mono ?_;rintro e w2 ⟨⟨v2,rfl⟩,hI2,hb2,hk2⟩;have H3:=Lib.hid (And.intro (show bxF x w.heap.size w2 from hk2 w.heap.size _ _ _ (by omega) (fun e=>HI.out.2 e.symm) H2.out.1) (And.intro (H2.out.2.1.trans hb2) hI2))
    clear hI2 hb2 hk2;go_wp2_with fail;go_roundw
    case rel=>exact ⟨t,l++[(i,t)],by omega,by go_num,⟨by rw[←HR.out.1,HS.out];simp,H3.out.2.2⟩,H3.out.1,H3.out.2.1⟩
    case measure=>simp[intOf];omega
  ·obtain rfl:i=n:=by omega
   have hd:decide ((i:Int)<(i:Int))=false:=decide_eq_false (by omega)
   have hdn:decide (i<i)=false:=decide_eq_false (by omega)
   go_wp2_with fail
   go_end0
   refine ⟨⟨_,rfl⟩,?_,hbw⟩;have h1:=HR.out.1;rw[chs_end (Nat.le_refl _),List.append_nil]at h1;rw[←h1];exact HR.out.2
end Go.Proofs.YtoaibhacognbjaaGreatDoor
namespace Go.Proofs.YtoaibhacognbjaaGreatDoor
set_option linter.unusedVariables false
set_option linter.unusedSimpArgs false
set_option maxRecDepth 100000
open Go.RowKit
def PassH (u:KC) (v:Value) (n:Nat) (p:Nat→Nat→Bool) (w:World):Prop:=∀W a z,Below w.heap.size w W→a<z→z≤n→Calls Tryz.prog 132 #[.agg #[.string u.nm, .int .i64 u.op, .slice u.a1 u.n1 u.c1, .slice u.a2 u.n2 u.c2, .int .i64 u.mn, .int .i64 u.mx, .bool u.wh, .int .i64 u.ck, .int .i64 u.en, .slice u.a3 u.n3 u.c3, .int .i64 u.nr],v, .int .i64 (a:Int), .int .i64 (z:Int)] W fun e w'=>e = .returned (.bool (p a z))∧Below W.heap.size W w'
theorem PassH.later {u:KC} {v:Value} {n:Nat} {p:Nat→Nat→Bool} {w w':World} (h:PassH u v n p w) (hb:Below w.heap.size w w'):PassH u v n p w':=fun W a z hW=>h W a z (hb.trans (hW.mono hb.size))
theorem fpasses_any (x:KC×M2) (v:Value) (n a z:Nat) (p:Nat→Nat→Bool) (w:World) (hp:PassH x.1 v n p w) (h1:a<z) (h2:z≤n) :
  Calls Tryz.prog 101 #[.agg #[.string x.1.nm, .int .i64 x.1.op, .slice x.1.a1 x.1.n1 x.1.c1, .slice x.1.a2 x.1.n2 x.1.c2, .int .i64 x.1.mn, .int .i64 x.1.mx, .bool x.1.wh, .int .i64 x.1.ck, .int .i64 x.1.en, .slice x.1.a3 x.1.n3 x.1.c3, .int .i64 x.1.nr, .slice x.2.a1 x.2.n1 x.2.c1, .slice x.2.a2 x.2.n2 x.2.c2],v, .int .i64 (a:Int), .int .i64 (z:Int)] w fun e w'=>e = .returned (.bool (p a z))∧Below w.heap.size w w':=by
 have HP:=Lib.hid fun W (hb:Below w.heap.size w W)=>hp W a z hb h1 h2;clear hp h1 h2
 go_enter Tryz.func101,Tryz.ntmps101
 go_wp2_with fail;refine calls_nm fun W0 hW0=>?_;have hb0:Below w.heap.size w W0:=by rw[hW0];exact (Below.refl _ _).alloc (Nat.le_refl _) _
 have H0:=Lib.hid hb0;clear hW0 hb0;refine (HP.out W0 H0.out).mono ?_;rintro e w1 ⟨rfl,hb1⟩;have H1:=Lib.hid (H0.out.trans (hb1.mono H0.out.size));clear hb1;go_wp2_with fail;go_ret;exact ⟨rfl,H1.out⟩
theorem info_match:(Tryz.prog.info? 61).map (fun i=>(i.zero,i.size,i.bytes))=some (some (.agg #[.int .i64 0, .int .i64 0, .int .i64 0]),3,24):=by kernel_rfl
def RnT (b:Nat) (l:List Mt) (w:World):Prop:=∃A c,w.heap[b]?=some (.cells #[.slice A l.length c] 54 (0,0))∧w.ownsRow (b+1) 61 3 (.slice A l.length c) l.length (rowF encT l)
theorem RnT.later {b:Nat} {l:List Mt} {w w':World} (h:RnT b l w) (hb:Below w.heap.size w w'):RnT b l w':=by
 obtain ⟨A,c,h1,h2⟩:=h;exact ⟨A,c,(hb.block b (Array.getElem?_eq_some_iff.1 h1).1).trans h1,own_later h2 hb⟩
structure MaB (x:KC×M2) (v:Value) (kd N:Nat) (w:World):Prop where
 b0:bxF x N w
 b1:w.heap[N+1]?=some (.cells #[v] 41 (0,0))
 b2:w.heap[N+2]?=some (.cells #[.int .i64 (kd:Int)] 3 (0,0))
theorem MaB.later {x:KC×M2} {v:Value} {kd N:Nat} {w w':World} (h:MaB x v kd N w) (hb:Below (N+3) w w'):MaB x v kd N w':=
 ⟨(hb.block _ (by omega)).trans h.b0,(hb.block _ (by omega)).trans h.b1,(hb.block _ (by omega)).trans h.b2⟩
def flT (p:Nat→Nat→Bool) (kd:Nat) (l:List (Nat×Nat)):List Mt:=mtK kd (l.filter fun q=>p q.1 q.2)
theorem flT_snoc (p:Nat→Nat→Bool) (kd:Nat) (l:List (Nat×Nat)) (a z:Nat):flT p kd (l++[(a,z)])=if p a z then flT p kd l++[⟨kd,a,z⟩] else flT p kd l:=by
 unfold flT mtK;rw[List.filter_append,List.map_append]
 cases h:p a z
 ·simp[h]
 ·simp[h]
theorem flT_len (p:Nat→Nat→Bool) (kd:Nat) (l:List (Nat×Nat)):(flT p kd l).length≤l.length:=by
 unfold flT mtK;rw[List.length_map];exact List.length_filter_le _ _
set_option maxHeartbeats 8000000 in
theorem meach_any (x:KC×M2) (v:Value) (n kd N a z:Nat) (p:Nat→Nat→Bool) (l:List (Nat×Nat)) (w w0:World) (hp:PassH x.1 v n p w0) (hpw:Below w0.heap.size w0 w) (hN:w0.heap.size≤N) (hB:MaB x v kd N w) (hR:RnT (N+3) (flT p kd l) w) (h1:a<z) (h2:z≤n) (hl:(flT p kd l).length≤900000) :
  Calls Tryz.prog 100 #[.int .i64 (a:Int), .int .i64 (z:Int), .pointer (some ⟨N,0,none⟩), .pointer (some ⟨N+1,0,none⟩), .pointer (some ⟨N+3,0,none⟩), .pointer (some ⟨N+2,0,none⟩)] w (EachP (N+3) 61 (fun l W=>RnT (N+3) (flT p kd l) W) (l++[(a,z)]) w):=by
 have HF:=Lib.hid fun W (hb:Below w.heap.size w W)=>fpasses_any x v n a z p W (hp.later (hpw.trans (hb.mono hpw.size))) h1 h2;obtain ⟨q,hq⟩:∃q,p a z=q:=⟨_,rfl⟩;rw[hq]at HF;have hsn:=flT_snoc p kd l a z;rw[hq]at hsn;have HSN:=Lib.hid hsn;obtain ⟨⟨c0,c1,c2,c3,c4,c5⟩,⟨c6,c7,c8,c9,c10⟩,⟨c11,c12⟩,lb⟩:=hB.b0.cells;have t0:w.cell? ⟨N+1,0,none⟩=some v:=by rw[cell_of_row _ _ _ _ _ _ hB.b1];rfl
 have l1:N+1<w.heap.size:=(Array.getElem?_eq_some_iff.1 hB.b1).1;have HB:=Lib.hid hB;have HR:=Lib.hid hR;obtain ⟨M,hM⟩:∃M,flT p kd l=M:=⟨_,rfl⟩;rw[hM]at HR HSN hl;have h3:N+3<w.heap.size:=by obtain ⟨A,c,h1,-⟩:=HR.out;exact (Array.getElem?_eq_some_iff.1 h1).1
 clear hp hpw hB hR hsn hq hM h1 h2
 go_enter Tryz.func100,Tryz.ntmps100
 go_wp2_with fail;refine (HF.out w (Below.refl _ _)).mono ?_;rintro e w1 ⟨rfl,hb1⟩;have H1:=Lib.hid (And.intro (HB.out.later (hb1.mono (by omega))) (And.intro (HR.out.later hb1) hb1))
 clear c0 c1 c2 c3 c4 c5 c6 c7 c8 c9 c10 c11 c12 lb t0 l1 hb1
 cases q with
 | false=>
  go_wp2_with fail
  go_end0
  refine ⟨⟨_,rfl⟩,?_,H1.out.2.2.mono (by omega),fun q T cs m _ _ hw=>(H1.out.2.2.block q (Array.getElem?_eq_some_iff.1 hw).1).trans hw⟩
  show RnT (N+3) (flT p kd (l++[(a,z)])) w1;rw[HSN.out];exact H1.out.2.1
 | true=>
  obtain ⟨A,c,g1,g2⟩:=H1.out.2.1;obtain ⟨ie,hie,hk0,hk1,hk2⟩:=info_parts info_match;have b0:w1.cell? ⟨N+3,0,none⟩=some (.slice A M.length c):=by rw[cell_of_row _ _ _ _ _ _ g1];rfl
  have fb:w1.frozen? ⟨N+3,0,none⟩=false:=by simp[World.frozen?,g1]
  have lb:N+3<w1.heap.size:=(Array.getElem?_eq_some_iff.1 g1).1;have b2:w1.cell? ⟨N+2,0,none⟩=some (.int .i64 (kd:Int)):=by rw[cell_of_row _ _ _ _ _ _ H1.out.1.b2];rfl
  have lb2:N+2<w1.heap.size:=by omega
  have hown:=World.ownsRow.alloc g2 (.cells #[.int .i64 (kd:Int), .int .i64 (a:Int), .int .i64 (z:Int)] 61);have hcx:∀j u,[Value.int .i64 (kd:Int), .int .i64 (a:Int), .int .i64 (z:Int)][j]?=some u→(w1.alloc (.cells #[.int .i64 (kd:Int), .int .i64 (a:Int), .int .i64 (z:Int)] 61)).cell? ((⟨w1.heap.size,0,none⟩:Addr).add j)=some u:=by
   intro j u hj;rw[Addr.add_lit,Nat.zero_add,World.cell?_alloc_mark];simpa using hj
  have hbz:N+3+1≤(w1.alloc (.cells #[.int .i64 (kd:Int), .int .i64 (a:Int), .int .i64 (z:Int)] 61)).heap.size:=by simp;omega
  have H:=Lib.hid (And.intro g1 g2);clear g1 g2;go_wp2_with (at_builtin; refine appI_at rfl _ _ 54 rfl (N+3+1) 61 ie _ 3 24 Tryz.underlying54 hie hk0 hk1 hk2 rfl (by decide) _ M.length (rowF encT M) rfl hown ⟨w1.heap.size,0,none⟩ 1 1 [.int .i64 (kd:Int), .int .i64 (a:Int), .int .i64 (z:Int)] rfl rfl hcx (by intro u hu; simp only[List.mem_cons,List.not_mem_nil,or_false]at hu; rcases hu with rfl | rfl | rfl <;> rfl) (by unfold maxLen; omega) (by omega) hbz ?_)
  intro v9 w9 hown9 hg9 hf9;obtain ⟨A9,c9,rfl,-,-⟩:=own_form hown9;have hb1:(w1.alloc (.cells #[.int .i64 (kd:Int), .int .i64 (a:Int), .int .i64 (z:Int)] 61)).heap[N+3]?=some (.cells #[.slice A M.length c] 54 (0,0)):=(old_alloc _ _ _ lb).trans H.out.1;have hbb:w9.heap[N+3]?=some (.cells #[.slice A M.length c] 54 (0,0)):=(hg9.block (N+3) (by simp;omega) (fun e=>by have:=(hown.lt (N+3) e.symm).1;omega)).trans hb1
  have z0:w9.cell? ⟨N+3,0,none⟩=some (.slice A M.length c):=by rw[cell_of_row _ _ _ _ _ _ hbb];rfl
  have z1:w9.frozen? ⟨N+3,0,none⟩=false:=by simp[World.frozen?,hbb]
  have z2:N+3<w9.heap.size:=(Array.getElem?_eq_some_iff.1 hbb).1;have hB9:Below (N+3) w1 w9:=((Below.refl (N+3) w1).alloc (by omega) _).grown hg9 (by simp;omega) (fun q hq=>by have:=(hown.lt q hq).1;omega)
  have hty:∀q T cs m,q≠N+3→T≠61→w1.heap[q]?=some (.cells cs T m)→w9.heap[q]?=some (.cells cs T m):=fun q T cs m hq hT hw=>by
   have hl:=(Array.getElem?_eq_some_iff.1 hw).1;refine (hg9.block q (by simp;omega) (fun e=>?_)).trans ((old_alloc _ _ _ hl).trans hw)
   obtain ⟨cs',m',h9⟩:=own_type H.out.2 q e.symm;rw[hw]at h9;injection h9 with h9;injection h9 with _ h9 _;exact hT h9
  have H9:=Lib.hid (And.intro hown9 (And.intro hbb (And.intro hB9 hty)));clear hown9 hg9 hf9 hb1 hbb hB9 hty hown hcx hbz;go_wp2_with fail
  go_end0
  have hM1:flT p kd (l++[(a,z)])=M++[⟨kd,a,z⟩]:=HSN.out;refine ⟨⟨_,rfl⟩,?_,(H1.out.2.2.mono (by omega)).trans (H9.out.2.2.1.setCell (p:=⟨N+3,0,none⟩) (Nat.le_refl _) _),fun q T cs m hq hT hw=>(Below.heap_setCell _ ⟨N+3,0,none⟩ _ q hq).trans (H9.out.2.2.2 q T cs m hq hT ((H1.out.2.2.block q (Array.getElem?_eq_some_iff.1 hw).1).trans hw))⟩
  show RnT (N+3) (flT p kd (l++[(a,z)])) _;rw[hM1];refine ⟨A9,c9,?_,?_⟩
  ·have:=set_row3 H9.out.2.1 0 (.slice A9 (M.length+1) c9);simpa using this
  ·have h9:=own_same H9.out.1 (w':=w9.setCell ⟨N+3,0,none⟩ (.slice A9 (M.length+1) c9)) fun q hq=>Below.heap_setCell _ ⟨N+3,0,none⟩ _ q (fun e=>by have:=(H9.out.1.lt q hq).1;have e':q=N+3:=e;omega)
   rw[rowF_app,rowF_single,List.length_append];exact h9
theorem callMe (args:Array Value) (w:World):(callFunc 100 args).run Tryz.prog w = .ok (.enter 100 args) w:=by rfl
set_option maxHeartbeats 8000000 in
theorem matches_any (x:KC×M2) (m:Mc) (A:Option Addr) (n c kd:Nat) (bs:List Nat) (p:Nat→Nat→Bool) (w:World) (hm:McIn w x.2.val m) (hv:McGo m) (hb:ByIn w (.slice A n c) bs) (hn:bs.length=n) (hnl:n≤900000) (hby:∀b∈bs,b<256) (hp:PassH x.1 (.slice A n c) n p w) :
  Calls Tryz.prog 64 #[.agg #[.string x.1.nm, .int .i64 x.1.op, .slice x.1.a1 x.1.n1 x.1.c1, .slice x.1.a2 x.1.n2 x.1.c2, .int .i64 x.1.mn, .int .i64 x.1.mx, .bool x.1.wh, .int .i64 x.1.ck, .int .i64 x.1.en, .slice x.1.a3 x.1.n3 x.1.c3, .int .i64 x.1.nr, .slice x.2.a1 x.2.n1 x.2.c1, .slice x.2.a2 x.2.n2 x.2.c2], .slice A n c, .int .i64 (kd:Int)] w fun e w'=>∃v,e = .returned v∧OR 61 3 encT w.heap.size v (flT p kd (chA m x.1.wh bs)) w'∧Below w.heap.size w w':=by
 have HM:=Lib.hid fun W (hW:Below w.heap.size w W)=>And.intro (hm.later hW) (hb.later hW);have HV:=Lib.hid (And.intro hv (And.intro hn (And.intro hby hp)));clear hm hv hb hn hby hp
 go_enter Tryz.func64,Tryz.ntmps64
 go_wp2_with fail;refine calls_nm fun W0 hW0=>?_;have hWa:W0=allocs w [(#[.string x.1.nm, .int .i64 x.1.op, .slice x.1.a1 x.1.n1 x.1.c1, .slice x.1.a2 x.1.n2 x.1.c2, .int .i64 x.1.mn, .int .i64 x.1.mx, .bool x.1.wh, .int .i64 x.1.ck, .int .i64 x.1.en, .slice x.1.a3 x.1.n3 x.1.c3, .int .i64 x.1.nr, .slice x.2.a1 x.2.n1 x.2.c1, .slice x.2.a2 x.2.n2 x.2.c2],78),(#[.slice A n c],41),(#[.int .i64 (kd:Int)],3),(#[.slice none 0 0],54)]:=by rw[hW0];rfl
 have hMB:MaB x (.slice A n c) kd w.heap.size W0:=by rw[hWa];exact ⟨allocs_at 0 rfl,allocs_at 1 rfl,allocs_at 2 rfl⟩
 have hR0:RnT (w.heap.size+3) (flT p kd []) W0:=by
  rw[hWa];exact ⟨none,0,allocs_at 3 rfl,World.ownsRow_nil _ _ _ _⟩
 have hbel:Below w.heap.size w W0:=by rw[hWa];exact allocs_below _ _
 have h3:w.heap.size+3<W0.heap.size:=by obtain ⟨A,c,h1,-⟩:=hR0;exact (Array.getElem?_eq_some_iff.1 h1).1
 have H0:=Lib.hid (And.intro hMB (And.intro hR0 hbel));clear hW0 hWa hMB hR0 hbel;refine (choices_any x m A n c (w.heap.size+3) 61 100 #[.pointer (some ⟨w.heap.size,0,none⟩), .pointer (some ⟨w.heap.size+1,0,none⟩), .pointer (some ⟨w.heap.size+3,0,none⟩), .pointer (some ⟨w.heap.size+2,0,none⟩)] bs (fun l W=>RnT (w.heap.size+3) (flT p kd l) W) W0 callMe (fun W hW=>HM.out W (H0.out.2.2.trans (hW.mono (by omega)))) HV.out.1 HV.out.2.1 hnl HV.out.2.2.1 h3 (by decide) H0.out.2.1 (fun l W W' h hb=>h.later hb) (fun l a z W hl haz hbW hI=>?_)).mono ?_
 ·refine meach_any x (.slice A n c) n kd w.heap.size a z p l W w HV.out.2.2.2 (H0.out.2.2.trans (hbW.mono (by omega))) (Nat.le_refl _) (H0.out.1.later hbW) hI haz.1 haz.2 ?_
  have:=flT_len p kd l;simp at hl;omega
 ·rintro e w1 ⟨⟨v1,rfl⟩,hI1,hb1⟩;obtain ⟨A9,c9,g1,g2⟩:=hI1;have b0:w1.cell? ⟨w.heap.size+3,0,none⟩=some (.slice A9 (flT p kd (chA m x.1.wh bs)).length c9):=by rw[cell_of_row _ _ _ _ _ _ g1];rfl
  have lb:w.heap.size+3<w1.heap.size:=(Array.getElem?_eq_some_iff.1 g1).1;have H1:=Lib.hid (And.intro g2 (H0.out.2.2.trans (hb1.mono (by omega))))
  clear g1 g2 hb1;go_wp2_with fail;go_ret;exact ⟨_,rfl,OR.mono (enc:=encT) (n:=3) (o:=flT p kd (chA m x.1.wh bs)) H1.out.1 (by omega),H1.out.2⟩
end Go.Proofs.YtoaibhacognbjaaGreatDoor
namespace Go.Proofs.YtoaibhacognbjaaGreatDoor
set_option linter.unusedVariables false
set_option linter.unusedSimpArgs false
set_option maxRecDepth 100000
open Go.RowKit
theorem app_OR {α:Type} {enc:α→List Value} {n:Nat} (E:EncS enc n) {P:Program} {T e:TypeId} {i0:TypeInfo} {z:Value} {by_:Nat} (ht:P.underlying T=some (.slice e)) (hi:P.info? e=some i0) (hz0:i0.zero=some z) (hz1:i0.size=n) (hz2:i0.bytes=by_) (hzs:z.cells.size=n) (hby:by_≤1000)
  {w:World} {ops:Array Oper} {rest:List Oper} {op:Oper} {a:Act} {Q:Exit→Act→World→Prop} (s x:Operand) (v y:Value) (o p:List α) (B B2:Nat)
  (hgd:op.guard=none) (ho:op.op = .call { callee:=.builtin .append,args:=#[s,x],argTypes:=#[T,T] })
  (hs:a.eval s=v) (hx:a.eval x=y) (hown:OR e n enc B v o w) (hy:OR e n enc B2 y p w) (hl:o.length≤1000000) (hl2:p.length≤1000000) (hB:B≤w.heap.size)
  (h:∀v' w1,OR e n enc B v' (o++p) w1→Below B w w1→wpList P ops Q rest (a.put op.dst v') w1) :
  wpList P ops Q (op::rest) a w:=by
 obtain ⟨A,c,rfl,-,hc⟩:=hy.cells E
 cases A with
 | none=>
  rcases hc with rfl | ⟨g,h1,-⟩
  ·rcases hy.2 with ⟨h1,-⟩ | ⟨g,cap,cur,h1,-⟩
   ·injection h1 with _ _ h3;subst h3;refine wpList_append_own_none hgd s x T ho B e i0 n ht hi v o.length _ hs hown hx ?_;exact h v w (by simpa using hown) (Below.refl _ _)
   ·cases h1
  ·cases h1
 | some ad=>
  rcases hy.2 with ⟨h1,-⟩ | ⟨g,cap,cur,h1,-⟩
  ·cases h1
  ·injection h1 with h1 _ h3;injection h1 with h1;subst h1 h3;refine app_rows E ht hi hz0 hz1 hz2 hzs hby s x v g 0 c o p B hgd ho hs hx hown (fun i hi j hj=>?_) hl hl2 hB h;rcases hc with rfl | ⟨g',h1,-,-,h4⟩
   ·cases hi
   ·injection h1 with h1;injection h1 with h1 _;subst h1;rw[Nat.zero_add];exact (h4 i hi j hj).1
def evF (fs:List (KC×M2)) (ms:List Mc) (bs:List Nat) (p:Nat→Nat→Nat→Bool) (i:Nat):List (Nat×Nat):=(chA ((ms[i]?).getD ⟨[],[]⟩) ((fs[i]?).map (·.1.wh) |>.getD false) bs).filter fun q=>p i q.1 q.2
theorem fd_cells {w:World} {g f i:Nat} {x:KC×M2} (h:∀j,j<13→w.cell? ⟨g,f+i*13+j,none⟩=(encFd x)[j]?):(w.cell? ⟨g,f+i*13,none⟩=some (.string x.1.nm)∧w.cell? ⟨g,f+i*13+1,none⟩=some (.int .i64 x.1.op)∧w.cell? ⟨g,f+i*13+2,none⟩=some (.slice x.1.a1 x.1.n1 x.1.c1)∧w.cell? ⟨g,f+i*13+3,none⟩=some (.slice x.1.a2 x.1.n2 x.1.c2)∧w.cell? ⟨g,f+i*13+4,none⟩=some (.int .i64 x.1.mn)∧w.cell? ⟨g,f+i*13+5,none⟩=some (.int .i64 x.1.mx))∧(w.cell? ⟨g,f+i*13+6,none⟩=some (.bool x.1.wh)∧w.cell? ⟨g,f+i*13+7,none⟩=some (.int .i64 x.1.ck)∧w.cell? ⟨g,f+i*13+8,none⟩=some (.int .i64 x.1.en)∧w.cell? ⟨g,f+i*13+9,none⟩=some (.slice x.1.a3 x.1.n3 x.1.c3)∧w.cell? ⟨g,f+i*13+10,none⟩=some (.int .i64 x.1.nr))∧w.cell? ⟨g,f+i*13+11,none⟩=some (.slice x.2.a1 x.2.n1 x.2.c1)∧w.cell? ⟨g,f+i*13+12,none⟩=some (.slice x.2.a2 x.2.n2 x.2.c2):=
 ⟨⟨h 0 (by decide),h 1 (by decide),h 2 (by decide),h 3 (by decide),h 4 (by decide),h 5 (by decide)⟩,⟨h 6 (by decide),h 7 (by decide),h 8 (by decide),h 9 (by decide),h 10 (by decide)⟩,h 11 (by decide),h 12 (by decide)⟩
theorem chA_len (m:Mc) (wh:Bool) (bs:List Nat):(chA m wh bs).length≤bs.length:=by
 have hlen:∀k i,i≤bs.length→(chsF (chF m wh bs) bs.length k i).length+i≤bs.length:=by
  intro k
  induction k with
  | zero=>intro i hi;rw[chsF];simpa using hi
  | succ k ih=>
   intro i hi;rw[chsF];by_cases h:i<bs.length
   ·rw[if_pos h]
    cases hfi:chF m wh bs i with
    | none=>have:=ih (i+1) (by omega);show (chsF _ _ k (i+1)).length+i≤_;omega
    | some t=>have h9:=chF_lt (by omega) hfi;have:=ih t h9.2;show ((i,t)::chsF _ _ k t).length+i≤_;simp only[List.length_cons];omega
   ·rw[if_neg h];simpa using hi
 have:=hlen bs.length 0 (Nat.zero_le _);unfold chA;omega
theorem evF_len (fs:List (KC×M2)) (ms:List Mc) (bs:List Nat) (p:Nat→Nat→Nat→Bool) (i:Nat):(evF fs ms bs p i).length≤bs.length:=Nat.le_trans (List.length_filter_le _ _) (chA_len _ _ _)
theorem allK_len {f:Nat→List (Nat×Nat)} {L:Nat} (h:∀i,(f i).length≤L):∀n i,(allK f n i).length≤n*L
 | 0,i=>by rw[allK];simp
 | n+1,i=>by
  rw[allK,List.length_append,Nat.succ_mul];have:=allK_len h n (i+1);have:=h i;unfold mtK;rw[List.length_map];omega
set_option maxHeartbeats 8000000 in
theorem every_any (Av:Option Addr) (nv cv:Nat) (fs:List (KC×M2)) (ms:List Mc) (A:Option Addr) (n c:Nat) (bs:List Nat) (p:Nat→Nat→Nat→Bool) (w:World) (hf:FnsIn w (.slice Av nv cv) fs ms) (hv:∀m∈ms,McGo m) (hb:ByIn w (.slice A n c) bs) (hn:bs.length=n) (hnl:n≤900000) (hcap:fs.length*n≤900000) (hby:∀b∈bs,b<256) (hp:∀i (h:i<fs.length),PassH fs[i].1 (.slice A n c) n (p i) w) :
  Calls Tryz.prog 56 #[.slice Av nv cv, .slice A n c] w fun e w'=>∃v o,e = .returned v∧MtIn w' v o∧o.Perm (allK (evF fs ms bs p) fs.length 0)∧o.Pairwise LeMt∧Below w.heap.size w w':=by
 obtain ⟨hl,A',c',e0,hc,hor,hmc⟩:=id hf;injection e0 with e1 e2 e3;subst e1 e2 e3;obtain ⟨N,hN⟩:∃N,fs.length=N:=⟨_,rfl⟩;have hml:ms.length=N:=by omega
 have hbound:=allK_len (fun i=>evF_len fs ms bs p i) N 0;rw[hn]at hbound;rw[hN]at hc hcap⊢;have HM:=Lib.hid fun (i:Nat) (h1:i<fs.length) (h2:i<ms.length) (W:World) (hW:Below w.heap.size w W)=>matches_any fs[i] ms[i] A n c i bs (p i) W ((hmc i h1 h2).later hW) (hv _ (List.getElem_mem h2)) (hb.later hW) hn hnl hby ((hp i h1).later hW);have HO:=Lib.hid hor;have HN:=Lib.hid (And.intro hN (And.intro hml (And.intro hc (And.intro hbound hcap))));clear hf hv hb hby hp hl hc hor hmc hN hml hbound hn;obtain ⟨ie,hie,hk0,hk1,hk2⟩:=info_parts info_match;have hNi:(N:Int)≤9223372036854775807:=by have:=HN.out.2.2.1;omega
 go_enter Tryz.func56,Tryz.ntmps56
 go_wp2_with fail
 go_loopw [5,10] (fun v i wr=>∃(k:Nat) (o:List Mt),k≤N∧i = .int .i64 (k:Int)∧OR 61 3 encT w.heap.size v o wr∧Hid (o++allK (evF fs ms bs p) (N-k) k=allK (evF fs ms bs p) N 0)∧Below w.heap.size w wr) (fun _ i _=>N - (intOf i).toNat)
 case atStart=>exact ⟨0,[],by omega,rfl,OR.nil_ _ _ _,rfl,Below.refl _ _⟩
 case round=>
  obtain ⟨k,o,hk,rfl,hown,HR,hbw⟩:=hrel;by_cases hlt:k<N
  ·have hd:decide ((k:Int)<(N:Int))=true:=decide_eq_true (by omega)
   have hdn:decide (k<N)=true:=decide_eq_true hlt;have hkf:k<fs.length:=by have:=HN.out.1;omega
   have hkm:k<ms.length:=by have:=HN.out.2.1;omega
   obtain ⟨g,f,rfl,hg,hcl⟩:=HO.out.resolve_left (by rintro rfl;cases hkf)
   obtain ⟨x,hx⟩:∃x,fs[k]=x:=⟨_,rfl⟩;have hcl':=fun j hj=>(hbw.cell (p:=⟨g,f+k*13+j,none⟩) hg).trans (hcl k hkf j hj);have MM:=HM.out k hkf hkm;rw[hx]at hcl' MM;have hev:evF fs ms bs p k=(chA ms[k] x.1.wh bs).filter fun q=>p k q.1 q.2:=by
    unfold evF;rw[List.getElem?_eq_getElem hkf,List.getElem?_eq_getElem hkm,hx];rfl
   have HEV:=Lib.hid (show flT (p k) k (chA ms[k] x.1.wh bs)=mtK k (evF fs ms bs p k) by rw[hev];rfl)
   obtain ⟨⟨q0,q1,q2,q3,q4,q5⟩,⟨q6,q7,q8,q9,q10⟩,q11,q12⟩:=fd_cells hcl';have hgr:g<wr.heap.size:=Nat.lt_of_lt_of_le hg hbw.size;have H1:=Lib.hid (And.intro hown hbw);have HMM:=Lib.hid MM;clear hown hbw hcl hcl' hx MM hev;go_wp2_with fail;refine calls_nm fun W0 hW0=>?_;have hb0:Below wr.heap.size wr W0:=by rw[hW0];exact (Below.refl _ _).alloc (Nat.le_refl _) _
   have HB0:=Lib.hid hb0;clear hW0 hb0 q0 q1 q2 q3 q4 q5 q6 q7 q8 q9 q10 q11 q12 hgr;refine (HMM.out W0 (H1.out.2.trans (HB0.out.mono H1.out.2.size))).mono ?_;rintro e w1 ⟨v1,rfl,hrow,hb1⟩;rw[HEV.out]at hrow;have hb01:Below wr.heap.size wr w1:=HB0.out.trans (hb1.mono HB0.out.size);have hown1:=H1.out.1.later hb01;have hstep:allK (evF fs ms bs p) (N-k) k=mtK k (evF fs ms bs p k)++allK (evF fs ms bs p) (N - (k+1)) (k+1):=by rw[show N-k=(N - (k+1))+1 by omega,allK]
   obtain ⟨r,hr⟩:∃r,mtK k (evF fs ms bs p k)=r:=⟨_,rfl⟩;rw[hr]at hrow hstep;have hsum:(o++r)++allK (evF fs ms bs p) (N - (k+1)) (k+1)=allK (evF fs ms bs p) N 0:=by rw[←HR.out,hstep,List.append_assoc]
   have htot:o.length+r.length≤900000:=by
    have h1:=congrArg List.length hsum;simp only[List.length_append]at h1;have:=HN.out.2.2.2.1;have:=HN.out.2.2.2.2;omega
   have hB1:w.heap.size≤w1.heap.size:=Nat.le_trans H1.out.2.size hb01.size;have HS:=Lib.hid (And.intro hsum (H1.out.2.trans (hb01.mono H1.out.2.size)));clear hsum hb01 hstep hr hb1;go_wp2_with (at_builtin;refine app_OR encT_E Tryz.underlying54 hie hk0 hk1 hk2 rfl (by decide) _ _ _ _ o r w.heap.size _ rfl rfl rfl rfl hown1 hrow (by omega) (by omega) hB1 ?_;intro v2 w2 hown2 hb2)
   have H2:=Lib.hid (And.intro hown2 (HS.out.2.trans hb2));clear hown2 hb2 hown1 hrow;go_roundw
   case rel=>exact ⟨k+1,o++r,by omega,by go_num,H2.out.1,HS.out.1,H2.out.2⟩
   case measure=>simp[intOf];omega
  ·obtain rfl:k=N:=by omega
   have hd:decide ((k:Int)<(k:Int))=false:=decide_eq_false (by omega)
   have hdn:decide (k<k)=false:=decide_eq_false (by omega)
   have hR:=HR.out;rw[Nat.sub_self,allK,List.append_nil]at hR;have HS:=Lib.hid (sortT_any o _ w.heap.size wr hown (by rw[hR];have:=HN.out.2.2.2;omega))
   have HRR:=Lib.hid hR;have HBW:=Lib.hid (And.intro hown hbw);clear hown hbw hR;go_wp2_with fail;refine HS.out.mono ?_;rintro e w1 ⟨rfl,o',hperm,hsort,hmt,hg1⟩;have hbf:Below w.heap.size w w1:=HBW.out.2.grown hg1 HBW.out.2.size (fun q hq=>((show wr.ownsRow _ _ _ _ _ _ from HBW.out.1).lt q hq).1);rw[HRR.out]at hperm;have HF:=Lib.hid (And.intro hperm (And.intro hsort (And.intro hmt hbf)));clear hperm hsort hmt hg1 hbf;go_wp2_with fail;go_ret;exact ⟨_,o',rfl,HF.out.2.2.1,HF.out.1,HF.out.2.1,HF.out.2.2.2⟩
end Go.Proofs.YtoaibhacognbjaaGreatDoor
namespace Go.Proofs.YtoaibhacognbjaaGreatDoor
set_option linter.unusedVariables false
set_option linter.unusedSimpArgs false
set_option maxRecDepth 100000
open Go.RowKit
theorem LcA.good {k:Kn} {m:Mc} (h:LcA k 0 m):CmGood k.pat m∧validF k.pat=0∧LcOK k=true∧nmOK (bl k.nm)=true:=by
 rcases h with ⟨-,h⟩ | ⟨h0,er0,hc,⟨h1,h2⟩ | ⟨rfl,h2⟩⟩
 ·cases h
 ·exact absurd h2.symm h1
 ·cases hq:LcOK k with
  | false=>rw[hq]at h2;cases h2
  | true=>exact ⟨hc.good.1,hc.good.2,rfl,h0⟩
theorem CmGood.go {nd:Nd} {m:Mc} (h:CmGood nd m):McGo m:=⟨h.vld.1,h.vld.2.1,h.vld.2.2.1⟩
theorem LaA.all {ks:List Kn} {ms:List Mc} (h:LaA ks 0 ms):(1≤ks.length∧ks.length≤32)∧ms.length=ks.length∧∀i (h1:i<ks.length) (h2:i<ms.length),LcA ks[i] 0 ms[i]:=by
 rcases h with ⟨-,h⟩ | ⟨h1,⟨i,-,-,-,h⟩ | ⟨h2,h3,-⟩⟩
 ·cases h
 ·exact absurd rfl h
 ·exact ⟨h1,h2,h3⟩
def evK (ks:List Kn) (ms:List Mc) (bs:List Nat) (p:Nat→Nat→Nat→Bool) (i:Nat):List (Nat×Nat):=(chA ((ms[i]?).getD ⟨[],[]⟩) ((ks[i]?).map Kn.wh |>.getD false) bs).filter fun q=>p i q.1 q.2
def SaPost (ks:List Kn) (bs:List Nat) (p:Nat→Nat→Nat→Bool) (w:World) (e:Ending) (w':World):Prop:=Below w.heap.size w w'∧∃er ms,LaA ks er ms∧
 ((er≠0∧e = .returned (.tuple #[.slice none 0 0, .int .i64 er]))∨(er=0∧65536<bs.length∧e = .returned (.tuple #[.slice none 0 0, .int .i64 3]))∨
  (er=0∧bs.length≤65536∧∃v o,e = .returned (.tuple #[v, .int .i64 0])∧MtIn w' v o∧o.Perm (allK (evK ks ms bs p) ks.length 0)∧o.Pairwise LeMt))
set_option maxHeartbeats 8000000 in
theorem sall_any (Ak:Option Addr) (nk ck:Nat) (us:List KC) (ks:List Kn) (A:Option Addr) (n c:Nat) (bs:List Nat) (p:Nat→Nat→Nat→Bool) (w:World) (h:KnsIn w (.slice Ak nk ck) us ks) (hvr:VrOK w) (hnm:∀k∈ks,k.nm.size≤140737488355328) (hb:ByIn w (.slice A n c) bs) (hn:bs.length=n) (hnl:n≤900000) (hcap:ks.length*n≤900000) (hby:∀b∈bs,b<256) (hp:∀i (h:i<us.length),PassH us[i] (.slice A n c) n (p i) w) :
  Calls Tryz.prog 29 #[.slice Ak nk ck, .slice A n c] w (SaPost ks bs p w):=by
 have HF:=Lib.hid (finders_any Ak nk ck us ks w h hvr hnm);have HA:=Lib.hid (And.intro hb (And.intro hn (And.intro hby (And.intro hp (And.intro hcap h)))));clear h hvr hnm hb hcap hby hp hn;have hnc:n≤c∧c≤9223372036854775807:=by
  obtain ⟨A',c',e,h1,-⟩:=HA.out.1;injection e with _ e2 e3;omega
 have hn63:(n:Int)≤9223372036854775807:=by omega
 go_enter Tryz.func29,Tryz.ntmps29
 go_wp2_with fail;refine HF.out.mono ?_;rintro e w1 ⟨hb1,er,ms,hla,hpost⟩;have HL:=Lib.hid hla;have HB1:=Lib.hid hb1;clear hla hb1;rcases hpost with ⟨her,rfl⟩ | ⟨rfl,v,fs,rfl,hfs,hfu⟩
 ·have HER:=Lib.hid her;have her0:(er == 0)=false:=by simpa using her
  have her1:(er != 0)=true:=by simpa using her
  clear her;go_wp2_with fail
  go_ret2
  exact ⟨HB1.out,er,ms,HL.out, .inl ⟨HER.out,rfl⟩⟩
 ·obtain ⟨hfm,Af,cf,rfl,-⟩:=id hfs;by_cases hbig:65536<n
  ·have d:decide (65536<(n:Int))=true:=decide_eq_true (by omega)
   clear hfs hfu;go_wp2_with fail
   go_ret2
   exact ⟨HB1.out,0,ms,HL.out, .inr (.inl ⟨rfl,by rw[HA.out.2.1];exact hbig,rfl⟩)⟩
  ·have d:decide (65536<(n:Int))=false:=decide_eq_false (by omega)
   obtain ⟨-,hmk,hLc⟩:=HL.out.all;have hus:∀i (h1:i<fs.length),∃h2:i<us.length,fs[i].1=us[i]:=fun i h1=>by
    have h2:i<us.length:=by rw[←hfu];simpa using h1
    refine ⟨h2,?_⟩;have:us[i]=(fs.map Prod.fst)[i]'(by simpa using h1):=by congr 1;exact hfu.symm
    rw[this];simp
   have hgo:∀m∈ms,McGo m:=fun m hm=>by
    obtain ⟨i,h1,rfl⟩:=List.mem_iff_getElem.1 hm;exact (hLc i (by omega) h1).good.1.go
   have hkn:∀i (h1:i<us.length) (h2:i<ks.length),us[i].wh=ks[i].wh:=fun i h1 h2=>by
    obtain ⟨-,-,-,-,-,-,hk⟩:=HA.out.2.2.2.2.2;exact (hk i h1 h2).wh
   have hev:∀i,0≤i→i<0+fs.length→evF fs ms bs p i=evK ks ms bs p i:=fun i _ hi=>by
    have h1:i<fs.length:=by omega
    obtain ⟨h2,h3⟩:=hus i h1;have h4:i<ks.length:=by omega
    unfold evF evK;rw[List.getElem?_eq_getElem h1,List.getElem?_eq_getElem h4];simp only[Option.map_some,Option.getD_some];rw[h3,hkn i h2 h4]
   have hall:=allK_congr (n:=fs.length) (i:=0) hev;have hfk:fs.length=ks.length:=by omega
   have HE:=Lib.hid (every_any Af fs.length cf fs ms A n c bs p w1 hfs hgo (HA.out.1.later HB1.out) HA.out.2.1 hnl (by rw[hfk];exact HA.out.2.2.2.2.1) HA.out.2.2.1 (fun i h1=>by
    obtain ⟨h2,h3⟩:=hus i h1;rw[h3];exact (HA.out.2.2.2.1 i h2).later HB1.out))
   rw[hall,hfk]at HE;clear hfs hfu hus hgo hkn hev hall hLc hmk hfm;rw[hfk];go_wp2_with fail;refine HE.out.mono ?_;rintro e w2 ⟨v2,o,rfl,q1,q2,q3,hb2⟩;have HR:=Lib.hid (And.intro q1 (And.intro q2 (And.intro q3 (HB1.out.trans (hb2.mono HB1.out.size)))));clear q1 q2 q3 hb2;go_wp2_with fail
   go_ret2
   exact ⟨HR.out.2.2.2,0,ms,HL.out, .inr (.inr ⟨rfl,by rw[HA.out.2.1];omega,_,o,rfl,HR.out.1,HR.out.2.1,HR.out.2.2.1⟩)⟩
end Go.Proofs.YtoaibhacognbjaaGreatDoor
namespace Go.Proofs.YtoaibhacognbjaaGreatDoor
set_option linter.unusedVariables false
set_option linter.unusedSimpArgs false
set_option maxRecDepth 100000
open Go.RowKit
def partS (l:List Nat) (a z:Nat):ByteArray:=bs (((l.drop a).take (z-a)).map UInt8.ofNat)
theorem chold0 (s:ByteArray) (w:World):Calls Tryz.prog 161 #[.int .i64 0, .string s] w fun e w'=>e = .returned (.bool true)∧w'=w:=by
 go_enter Tryz.func161,Tryz.ntmps161
 go_wp2_with fail;go_ret;exact ⟨rfl,rfl⟩
set_option maxHeartbeats 4000000 in
theorem passes_nw (u:KC) (A:Option Addr) (n c a z:Nat) (l:List Nat) (hb:Bool) (w:World) (hby:ByIn w (.slice A n c) l) (hn:l.length=n) (hnl:n≤900000) (h256:∀b∈l,b<256) (h1:a<z) (h2:z≤n) (hw:u.n3=0)
  (HH:∀W,Below w.heap.size w W→Calls Tryz.prog 161 #[.int .i64 u.ck, .string (partS l a z)] W fun e w'=>e = .returned (.bool hb)∧Below W.heap.size W w') :
  Calls Tryz.prog 132 #[.agg #[.string u.nm, .int .i64 u.op, .slice u.a1 u.n1 u.c1, .slice u.a2 u.n2 u.c2, .int .i64 u.mn, .int .i64 u.mx, .bool u.wh, .int .i64 u.ck, .int .i64 u.en, .slice u.a3 u.n3 u.c3, .int .i64 u.nr], .slice A n c, .int .i64 (a:Int), .int .i64 (z:Int)] w fun e w'=>e = .returned (.bool (hb && decide (u.en≤((meaF ((l.drop a).take (z-a)):Nat):Int))))∧Below w.heap.size w w':=by
 obtain ⟨A',c',e0,hc,hor⟩:=id hby;injection e0 with e1 e2 e3;subst e1 e3;obtain ⟨g,f,rfl,hg,hcl⟩:=hor.resolve_left (by rintro rfl;simp at hn;omega)
 obtain ⟨p,hp,hplen,hat⟩:∃p,(l.drop a).take (z-a)=p∧p.length=z-a∧∀j (h:j<p.length) (h2:a+j<l.length),p[j]=l[a+j]:=
  ⟨_,rfl,by rw[List.length_take,List.length_drop];omega,fun j h h2=>by simp⟩
 have hpb:partS l a z=bs (p.map UInt8.ofNat):=by unfold partS;rw[hp]
 rw[hp];have hpby:∀W,Below w.heap.size w W→ByIn W (.slice (some ⟨g,f+a,none⟩) (z-a) (c-a)) p:=fun W hW=>by
  refine ⟨_,c-a,by rw[hplen],⟨by omega,by omega⟩, .inr ⟨g,f+a,rfl,Nat.lt_of_lt_of_le hg hW.size,fun i hi=>?_⟩⟩
  rw[hat i hi (by omega),Nat.add_assoc]
  exact (hW.cell (p:=⟨g,f+(a+i),none⟩) hg).trans (hcl (a+i) (by omega))
 have hp256:∀b∈p,b<256:=fun b hb=>h256 b (by rw[←hp]at hb;exact List.mem_of_mem_drop (List.mem_of_mem_take hb))
 have HM:=Lib.hid fun W (hW:Below w.heap.size w W)=>measure_any (some ⟨g,f+a,none⟩) (z-a) (c-a) p W (hpby W hW) hplen hp256 (by omega)
 rw[hpb]at HH;have hcv0:=fun W (hW:Below w.heap.size w W)=>run_convert_bytes_back (P:=Tryz.prog) W 41 9 5 ⟨g,f+a,none⟩ (c-a) (p.map UInt8.ofNat) Tryz.underlying41 Tryz.underlying5 Tryz.underlying9 (fun j hj=>by
  have hj2:j<p.length:=by simpa using hj
  obtain ⟨A2,c2,e5,-,hor5⟩:=hpby W hW;injection e5 with e6 _ _;rcases hor5 with h | ⟨g5,f5,e7,-,h5⟩
  ·rw[h]at hj2;cases hj2
  ·rw[←e6]at e7;injection e7 with e7;injection e7 with e7 e8 _;subst e7 e8;rw[Addr.add_lit,h5 j hj2];simp only[List.getElem_map];have:=hp256 _ (List.getElem_mem hj2)
   congr 2
   rw[UInt8.toNat_ofNat'];omega)
 rw[show (p.map UInt8.ofNat).length=z-a by rw[List.length_map,hplen]]at hcv0
 have hcv:∀W,Below w.heap.size w W→(convert 41 9 (.slice (some ⟨g,f+a,none⟩) (z-a) (c-a))).run Tryz.prog W = .ok (.string (bs (p.map UInt8.ofNat))) W:=hcv0;obtain ⟨S,hS⟩:∃S,bs (p.map UInt8.ofNat)=S:=⟨_,rfl⟩;obtain ⟨M,hMe⟩:∃M,meaF p=M:=⟨_,rfl⟩;rw[hS]at hcv HH;rw[hMe]at HM;rw[hMe];have HHH:=Lib.hid HH;have HCV:=Lib.hid hcv;have HWI:=Lib.hid fun W=>within_A (some ⟨g,f,none⟩) n c a z W;have d1:decide (a≤z)=true:=decide_eq_true (by omega)
 have d2:decide (z≤n)=true:=decide_eq_true h2;rw[d1,d2]at HWI;have hca:(a:Int)≤(z:Int):=by omega
 have hzc:(z:Int)≤(c:Int):=by omega
 have hcc:¬c-a=0:=by omega
 have hcn:c≤9223372036854775807:=hc.2;obtain ⟨x,hx⟩:∃x,decide ((M:Int)<u.en)=x:=⟨_,rfl⟩;have hxe:decide (u.en≤(M:Int))=!x:=by rw[←hx,Bool.eq_iff_iff];simp
 rw[hxe];clear HH hcv hcv0 hby hor hcl hat hp hpby hp256 hplen hpb hS hMe d1 d2 hxe h256 hn hg hc e2 h1 h2;have HW3:=Lib.hid hw;clear hw
 go_enter Tryz.func132,Tryz.ntmps132
 go_wp2_with fail;refine calls_nm fun W0 hW0=>?_;have hb0:Below w.heap.size w W0:=by rw[hW0];exact (Below.refl _ _).alloc (Nat.le_refl _) _
 have hK0:bxU u w.heap.size W0:=by rw[hW0];exact heap_alloc_new w _
 have H0:=Lib.hid (And.intro hb0 hK0);clear hW0 hb0 hK0;refine (HWI.out W0).mono ?_;rintro e w1 ⟨rfl,rfl⟩
 go_upto_region 4 with fail
 have hdc:=fun d:BelT w1.heap.size w1=>(H0.out.2.later d.property).cells;have hd0:∀d:BelT w1.heap.size w1,d.val.cell? ⟨w.heap.size,7,none⟩=some (.int .i64 u.ck):=fun d=>(hdc d).2.1.2.1;have hd1:∀d:BelT w1.heap.size w1,d.val.cell? ⟨w.heap.size,8,none⟩=some (.int .i64 u.en):=fun d=>(hdc d).2.1.2.2.1;have hd2:∀d:BelT w1.heap.size w1,w.heap.size<d.val.heap.size:=fun d=>(hdc d).2.2;have hd3:∀d:BelT w1.heap.size w1,(convert 41 9 (.slice (some ⟨g,f+a,none⟩) (z-a) (c-a))).run Tryz.prog d.val = .ok (.string S) d.val:=fun d=>HCV.out d.val (H0.out.1.trans (d.property.mono H0.out.1.size));have HA1:=Lib.hid fun d:BelT w1.heap.size w1=>HHH.out d.val (H0.out.1.trans (d.property.mono H0.out.1.size));have HA2:=Lib.hid fun d:BelT w1.heap.size w1=>HM.out d.val (H0.out.1.trans (d.property.mono H0.out.1.size));have ht:((u.n3:Int) == 0)=true:=by rw[HW3.out];rfl
 clear hdc
 cases hb with
 | false=>
  refine wp_region_below (Below.refl w1.heap.size w1) (by kernel_rfl) (by kernel_rfl) ?_
  repeat (go_big_quiet_step (fail))
  go_big_quiet_step ((go_at_call 161;exact Calls.below_of (Nat.le_refl _) (HA1.out _)))
  repeat (go_big_quiet_step (fail))
  refine wpQuiet_nil ?_;intro w9 hw';have hw9:Below w1.heap.size w1 w9:=by obtain ⟨d9,rfl⟩:=hw';exact d9.property
  have HB9:=Lib.hid (H0.out.1.trans (hw9.mono H0.out.1.size));clear hw' hd0 hd1 hd2 hd3 hw9;go_wp2_with fail;go_ret;exact ⟨rfl,HB9.out⟩
 | true=>
  cases x with
  | true=>
   refine wp_region_below (Below.refl w1.heap.size w1) (by kernel_rfl) (by kernel_rfl) ?_
   repeat (go_big_quiet_step (fail))
   go_big_quiet_step ((go_at_call 161;exact Calls.below_of (Nat.le_refl _) (HA1.out _)))
   repeat (go_big_quiet_step (fail))
   go_big_quiet_step ((go_at_call 162;exact Calls.below_of (Nat.le_refl _) (HA2.out _)))
   repeat (go_big_quiet_step (fail))
   refine wpQuiet_nil ?_;intro w9 hw';have hw9:Below w1.heap.size w1 w9:=by obtain ⟨d9,rfl⟩:=hw';exact d9.property
   have HB9:=Lib.hid (H0.out.1.trans (hw9.mono H0.out.1.size));clear hw' hd0 hd1 hd2 hd3 hw9;go_wp2_with fail;go_ret;exact ⟨rfl,HB9.out⟩
  | false=>
   refine wp_region_below (Below.refl w1.heap.size w1) (by kernel_rfl) (by kernel_rfl) ?_
   repeat (go_big_quiet_step (fail))
   go_big_quiet_step ((go_at_call 161;exact Calls.below_of (Nat.le_refl _) (HA1.out _)))
   repeat (go_big_quiet_step (fail))
   go_big_quiet_step ((go_at_call 162;exact Calls.below_of (Nat.le_refl _) (HA2.out _)))
   repeat (go_big_quiet_step (fail))
   refine wpQuiet_nil ?_;intro w9 hw';have hw9:Below w1.heap.size w1 w9:=by obtain ⟨d9,rfl⟩:=hw';exact d9.property
   have HB9:=Lib.hid (And.intro (H0.out.1.trans (hw9.mono H0.out.1.size)) (H0.out.2.later hw9));clear hw' hd0 hd1 hd2 hd3 hw9;obtain ⟨⟨c0,c1,c2,c3,c4,c5⟩,⟨c6,c7,c8,c9,c10⟩,lb⟩:=HB9.out.2.cells;go_wp2_with fail;go_ret;exact ⟨rfl,HB9.out.1⟩
end Go.Proofs.YtoaibhacognbjaaGreatDoor
namespace Go.Proofs.YtoaibhacognbjaaGreatDoor
set_option linter.unusedVariables false
set_option linter.unusedSimpArgs false
set_option maxRecDepth 100000
open Go.RowKit
def GoodK (k:Kn):Prop:=nmOK (bl k.nm)=true∧validF k.pat=0∧posF k.pat≤10∧LcOK k=true
theorem LcA.ok {k:Kn} {er:Int} {m:Mc} (h:LcA k er m) (hg:GoodK k):er=0:=by
 rcases h with ⟨h,-⟩ | ⟨-,er0,hc,h⟩
 ·rw[hg.1]at h;cases h
 ·have h0:=hc.few hg.2.1 hg.2.2.1;rcases h with ⟨h1,-⟩ | ⟨-,h2⟩
  ·exact absurd h0 h1
  ·rw[h2,hg.2.2.2];rfl
theorem LaA.ok {ks:List Kn} {er:Int} {ms:List Mc} (h:LaA ks er ms) (h1:1≤ks.length) (h2:ks.length≤32) (hg:∀k∈ks,GoodK k) (hd:dupF ks=false):er=0:=by
 rcases h with ⟨h,-⟩ | ⟨-,⟨i,hi,-,⟨m,hm⟩,hne⟩ | ⟨-,-,h⟩⟩
 ·omega
 ·exact absurd (hm.ok (hg _ (List.getElem_mem hi))) hne
 ·rw[h,hd];rfl
theorem plN_bl:bl (plN 0)=[112,108,97,105,110,48]∧bl (plN 1)=[112,108,97,105,110,49]:=by
 have h:∀s t:ByteArray,bl (s++t)=bl s++bl t:=fun s t=>by unfold bl;simp
 unfold plN;have d0:Lib.decDigits 0=[48]:=by rw[Lib.decDigits];rfl
 have d1:Lib.decDigits 1=[49]:=by rw[Lib.decDigits];rfl
 rw[h,h,bl_bs,bl_bs,d0,d1];exact ⟨rfl,rfl⟩
theorem plN_ne:plN 0≠plN 1:=fun e=>by
 have:=congrArg bl e;rw[plN_bl.1,plN_bl.2]at this;exact absurd this (by decide)
theorem plGood (i j:Nat) (hi:i<2) (hj:j<2):GoodK ⟨plN i,shN j,true,0,0,[],0⟩:=by
 have hi2:i=0∨i=1:=by omega
 have hj2:j=0∨j=1:=by omega
 rcases hi2 with rfl | rfl <;> rcases hj2 with rfl | rfl <;> exact ⟨by first | (show nmOK (bl (plN 0))=true; rw[plN_bl.1]; decide) | (show nmOK (bl (plN 1))=true; rw[plN_bl.2]; decide),by decide,by decide,by decide⟩
theorem plK_mem {js:List Nat} {k:Kn} (h:k∈plK 0 js) (hl:js.length≤2) (hj:∀j∈js,j<2):GoodK k∧∃j,j<2∧k.pat=shN j∧k.wh=true:=by
 obtain ⟨i,hi,rfl⟩:=List.mem_iff_getElem.1 h;have h2:i<js.length:=by rw[plK_len]at hi;exact hi
 rw[plK_get js 0 i hi h2,Nat.zero_add];have:=hj _ (List.getElem_mem h2);exact ⟨plGood i _ (by omega) this,_,this,rfl,rfl⟩
theorem plK_dup (js:List Nat) (hl:js.length≤2):dupF (plK 0 js)=false:=by
 match js,hl with
 | [],_=>rfl
 | [a],_=>rfl
 | [a,b],_=>
  unfold dupF;have h:=plN_ne;simp[plK,List.range_succ,h]
theorem sh_no (j:Nat) (hj:j<2):noB 32 (shN j)=true∧noB 10 (shN j)=true:=by
 have hj2:j=0∨j=1:=by omega
 rcases hj2 with rfl | rfl <;> exact ⟨by decide,by decide⟩
def plF (ks:List Kn) (ms:List Mc) (bs:List Nat) (i:Nat):List (Nat×Nat):=chA ((ms[i]?).getD ⟨[],[]⟩) ((ks[i]?).map Kn.wh |>.getD false) bs
theorem evK_all (ks:List Kn) (ms:List Mc) (bs:List Nat) (i:Nat):evK ks ms bs (fun _ _ _=>true) i=plF ks ms bs i:=by
 unfold evK plF;exact List.filter_eq_self.2 fun _ _=>rfl
theorem plF_no {ks:List Kn} {ms:List Mc} (h:LaA ks 0 ms) (hk:∀k∈ks,∃j,j<2∧k.pat=shN j∧k.wh=true) (i:Nat) (hi:i<ks.length):∃m:Mc,(∀bs,plF ks ms bs i=chA m true bs)∧(∀w,acF m w 0=true→32∉w)∧(∀w,acF m w 0=true→10∉w)∧∀w,acF m w 0=true↔langN ks[i].pat w:=by
 obtain ⟨-,l1,q1⟩:=h.all;have hl:=(q1 i hi (by omega)).good.1.vld.2.2.2.2
 obtain ⟨j,hj,e1,e2⟩:=hk _ (List.getElem_mem hi);obtain ⟨n1,n2⟩:=sh_no j hj;refine ⟨ms[i]'(by omega),fun bs=>?_,fun w hw=>?_,fun w hw=>?_,hl⟩
 ·unfold plF;rw[List.getElem?_eq_getElem (show i<ms.length by omega),List.getElem?_eq_getElem hi]
  simp only[Option.getD_some,Option.map_some];rw[e2]
 ·exact no_byte n1 (e1▸(hl w).1 hw)
 ·exact no_byte n2 (e1▸(hl w).1 hw)
theorem pass_plain {u:KC} {A:Option Addr} {n c:Nat} {l:List Nat} {w:World} (hu:u.ck=0∧u.en=0∧u.n3=0) (hby:ByIn w (.slice A n c) l) (hn:l.length=n) (hnl:n≤900000) (h256:∀b∈l,b<256):PassH u (.slice A n c) n (fun _ _=>true) w:=fun W a z hW h1 h2=>by
 have h:=passes_nw u A n c a z l true W (hby.later hW) hn hnl h256 h1 h2 hu.2.2 (fun V _=>by rw[hu.1];exact (chold0 _ V).mono fun e w' ⟨q1,q2⟩=>⟨q1,q2▸Below.refl _ _⟩)
 have hd:decide (u.en≤((meaF ((l.drop a).take (z-a)):Nat):Int))=true:=decide_eq_true (by rw[hu.2.1];omega)
 rw[hd]at h;exact h
def SpPost (ks:List Kn) (bs:List Nat) (w:World) (e:Ending) (w':World):Prop:=∃v o ms,e = .returned (.tuple #[v, .int .i64 0])∧MtIn w' v o∧LaA ks 0 ms∧o.Perm (allK (plF ks ms bs) ks.length 0)∧o.Pairwise LeMt∧Below w.heap.size w w'
theorem plN_size (i:Nat) (hi:i<2):(plN i).size≤100:=by
 have hi2:i=0∨i=1:=by omega
 rcases hi2 with rfl | rfl
 ·rw[←size_list,plN_bl.1];decide
 ·rw[←size_list,plN_bl.2];decide
theorem splain_any (v vt:Value) (us:List KC) (js:List Nat) (bs:List Nat) (w:World) (h:KnsIn w v us (plK 0 js)) (hl:1≤js.length∧js.length≤2) (hj:∀j∈js,j<2) (hu:∀u∈us,u.ck=0∧u.en=0∧u.n3=0∧u.wh=true) (hvr:VrOK w) (hb:ByIn w vt bs) (hbl:bs.length≤60000) (h256:∀b∈bs,b<256) :
  Calls Tryz.prog 29 #[v,vt] w (SpPost (plK 0 js) bs w):=by
 obtain ⟨hlk,Ak,ck,rfl,-⟩:=id h;obtain ⟨A,c,rfl,-⟩:=id hb;have hkl:=plK_len js 0;refine (sall_any Ak us.length ck us (plK 0 js) A bs.length c bs (fun _ _ _=>true) w h hvr (fun k hk=>?_) hb rfl (by omega) (by rw[hkl];have:js.length*bs.length≤2*bs.length:=Nat.mul_le_mul_right _ hl.2;omega) h256 (fun i hi=>?_)).mono ?_
 ·obtain ⟨i,hi,rfl⟩:=List.mem_iff_getElem.1 hk;have h2:i<js.length:=by rw[hkl]at hi;exact hi
  rw[plK_get js 0 i hi h2,Nat.zero_add];have:=plN_size i (by omega)
  show (plN i).size≤_;omega
 ·obtain ⟨q1,q2,q3,-⟩:=hu _ (List.getElem_mem hi);exact pass_plain ⟨q1,q2,q3⟩ hb rfl (by omega) h256
 ·rintro e w' ⟨hbw,er,ms,hla,hpost⟩;have h0:er=0:=hla.ok (by rw[hkl];exact hl.1) (by rw[hkl];omega) (fun k hk=>(plK_mem hk hl.2 hj).1) (plK_dup js hl.2)
  subst h0;rcases hpost with ⟨h1,-⟩ | ⟨-,h1,-⟩ | ⟨-,-,v2,o,rfl,q1,q2,q3⟩
  ·exact absurd rfl h1
  ·omega
  ·refine ⟨v2,o,ms,rfl,q1,hla,?_,q3,hbw⟩;have:=allK_congr (f:=evK (plK 0 js) ms bs (fun _ _ _=>true)) (g:=plF (plK 0 js) ms bs) (n:=(plK 0 js).length) (i:=0) (fun j _ _=>evK_all _ _ _ _);rw[←this];exact q2
end Go.Proofs.YtoaibhacognbjaaGreatDoor
