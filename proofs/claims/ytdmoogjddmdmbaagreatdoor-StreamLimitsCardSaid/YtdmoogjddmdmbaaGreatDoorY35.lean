/- scan.Finder.Choice: the last end that is clear. -/
import Derived.Test.YtdmoogjddmdmbaaGreatDoorY30
import Derived.Test.YtdmoogjddmdmbaaGreatDoorY15
import Derived.Test.YtdmoogjddmdmbaaGreatDoorY34
import Derived.Test.YtdmoogjddmdmbaaGreatDoorY25
import Derived.Test.YtdmoogjddmdmbaaGreatDoorY14
namespace Go.Proofs.YtdmoogjddmdmbaaGreatDoor
set_option linter.unusedVariables false
set_option linter.unusedSimpArgs false
set_option maxRecDepth 100000
open Go.RowKit Go.Shelf
attribute [local go_sem] Oper.semAt_some
theorem callsIn_nm {F:Fence} {n:Nat} {P:Program} {f:FuncId} {args:Array Value} {Q:Ending->World->Prop} {w:World} (h:∀W,W=w->CallsIn F n P f args W Q):CallsIn F n P f args w Q:=h w rfl
theorem find_at (p:Nat->Bool):∀(L:List Nat) (k:Nat),k<L.length->(∀x,x<k->p ((L[x]?).getD 0)=false)->p ((L[k]?).getD 0)=true->L.find? p=some ((L[k]?).getD 0)
 | a::L,0,_,_,h2=>by
  have h2:p a=true:=h2;rw[List.find?_cons,h2];rfl
 | a::L,k+1,hk,h1,h2=>by
  have h0:p a=false:=h1 0 (by omega)
  rw[List.find?_cons,h0];exact find_at p L k (by simpa using hk) (λx hx=>h1 (x+1) (by omega)) h2
theorem find_no (p:Nat->Bool):∀(L:List Nat),(∀x,x<L.length->p ((L[x]?).getD 0)=false)->L.find? p=none
 | [],_=>rfl
 | a::L,h=>by
  have h0:p a=false:=h 0 (by simp)
  rw[List.find?_cons,h0];exact find_no p L λx hx=>h (x+1) (by simpa using hx)
theorem bkV_rev {R:List Nat} {x:Nat} (h:x<R.length):bkV R x=((R.reverse)[x]?).getD 0:=by unfold bkV;rw[List.getElem?_reverse h]
theorem bkV_mem {R:List Nat} {x:Nat} (h:0<R.length):bkV R x∈R:=by
 unfold bkV;rw[List.getElem?_eq_getElem (by omega)]
 exact List.getElem_mem _
theorem choF_some {R:List Nat} {i k:Nat} {clr:Nat->Bool} (hk:k<R.length) (h1:∀x,x<k->(decide (i<bkV R x) && clr (bkV R x))=false) (h2:(decide (i<bkV R k) && clr (bkV R k))=true):choF R i clr=some (bkV R k):=by
 rw[bkV_rev hk];exact find_at _ R.reverse k (by simpa using hk) (λx hx=>by rw[<-bkV_rev (by omega)];exact h1 x hx) (by rw[<-bkV_rev hk];exact h2)
theorem choF_none {R:List Nat} {i:Nat} {clr:Nat->Bool} (h1:∀x,x<R.length->(decide (i<bkV R x) && clr (bkV R x))=false):choF R i clr=none:=
 find_no _ R.reverse λx hx=>by rw[List.length_reverse]at hx;rw[<-bkV_rev hx];exact h1 x hx
structure ChB (w:World) (fv:Array Value) (v:Value) (i:Nat) (r:Value) (ok:Bool) (W:World):Prop where
 b0:W.heap[w.heap.size]?=some (.cells fv 95 (0,0))
 b1:W.heap[w.heap.size+1]?=some (.cells #[v] 28 (0,0))
 b2:W.heap[w.heap.size+2]?=some (.cells #[.int .i64 (i:Int)] 3 (0,0))
 b3:W.heap[w.heap.size+3]?=some (.cells #[r] 3 (0,0))
 b4:W.heap[w.heap.size+4]?=some (.cells #[.bool ok] 4 (0,0))
 bel:Below w.heap.size w W
theorem ChB.lt {w:World} {fv:Array Value} {v r:Value} {i:Nat} {ok:Bool} {W:World} (h:ChB w fv v i r ok W):w.heap.size+4<W.heap.size:=(Array.getElem?_eq_some_iff.1 h.b4).1
theorem ChB.to {w:World} {fv:Array Value} {v r:Value} {i:Nat} {ok:Bool} {W W':World} (h:ChB w fv v i r ok W) (hs:W.heap.size<=W'.heap.size) (ho:W'.os=W.os/\W'.tape=W.tape/\W'.output=W.output) (hb:∀k,k<w.heap.size+5->W'.heap[k]?=W.heap[k]?):ChB w fv v i r ok W':=
 ⟨(hb _ (by omega)).trans h.b0,(hb _ (by omega)).trans h.b1,(hb _ (by omega)).trans h.b2,(hb _ (by omega)).trans h.b3,(hb _ (by omega)).trans h.b4,⟨ho.1.trans h.bel.os,ho.2.1.trans h.bel.tape,ho.2.2.trans h.bel.output,Nat.le_trans h.bel.size hs,λk hk=>(hb k (by omega)).trans (h.bel.block k hk)⟩⟩
theorem ChB.later {w:World} {fv:Array Value} {v r:Value} {i:Nat} {ok:Bool} {W W':World} (h:ChB w fv v i r ok W) (hb:Below W.heap.size W W'):ChB w fv v i r ok W':=
 h.to hb.size ⟨hb.os,hb.tape,hb.output⟩ λk hk=>hb.block k (by have:=h.lt;omega)
theorem ChB.put {w:World} {fv:Array Value} {v r:Value} {i:Nat} {ok:Bool} {W:World} (h:ChB w fv v i r ok W) (r':Value) (ok':Bool):ChB w fv v i r' ok' ((W.setCell ⟨w.heap.size+3,0,none⟩ r').setCell ⟨w.heap.size+4,0,none⟩ (.bool ok')):=by
 have hs:∀k,k≠w.heap.size+3->k≠w.heap.size+4->((W.setCell ⟨w.heap.size+3,0,none⟩ r').setCell ⟨w.heap.size+4,0,none⟩ (.bool ok')).heap[k]?=W.heap[k]?:=λk h1 h2=>(Below.heap_setCell _ ⟨w.heap.size+4,0,none⟩ _ k h2).trans (Below.heap_setCell _ ⟨w.heap.size+3,0,none⟩ _ k h1);refine ⟨(hs _ (by omega) (by omega)).trans h.b0,(hs _ (by omega) (by omega)).trans h.b1,(hs _ (by omega) (by omega)).trans h.b2,?_,?_,⟨h.bel.os,h.bel.tape,h.bel.output,by have:=h.bel.size;simpa [World.setCell] using this,λk hk=>(hs k (by omega) (by omega)).trans (h.bel.block k hk)⟩⟩
 .exact (Below.heap_setCell _ ⟨w.heap.size+4,0,none⟩ _ _ (by show w.heap.size+3≠w.heap.size+4;omega)).trans (by have:=set_row3 h.b3 0 r';simpa using this)
 .have:=set_row3 ((Below.heap_setCell W ⟨w.heap.size+3,0,none⟩ r' (w.heap.size+4) (by show w.heap.size+4≠w.heap.size+3;omega)).trans h.b4) 0 (.bool ok')
  simpa using this
def ChI (w w2:World) (fv:Array Value) (v:Value) (i:Nat) (R:List Nat) (clr:Nat->Bool) (pre:List Nat) (W:World):Prop:=(ChB w fv v i (.int .i64 0) false W/\Below w2.heap.size w2 W)/\∀x∈pre,(decide (i<bkV R x) && clr (bkV R x))=false
def ChX (w:World) (fv:Array Value) (v:Value) (i:Nat) (R:List Nat) (clr:Nat->Bool) (c:Code) (pre:List Nat) (W:World):Prop:=c = .ret/\∃q x,pre=q++[x]/\(∀x∈q,(decide (i<bkV R x) && clr (bkV R x))=false)/\(decide (i<bkV R x) && clr (bkV R x))=true/\ChB w fv v i (.int .i64 ((bkV R x:Nat):Int)) true W
theorem ChI.own (w w2:World) (fv:Array Value) (v:Value) (i:Nat) (R:List Nat) (clr:Nat->Bool) (h:w.heap.size+5<=w2.heap.size):OwnFrom w2.heap.size (ChI w w2 fv v i R clr):=by
 rintro s W W' row ⟨⟨h1,h2⟩,h3⟩ hg hr;refine ⟨⟨h1.to hg.size ⟨hg.os,hg.tape,hg.output⟩ λk hk=>hg.block k (by have:=h1.lt;omega) (λe=>by have:=(hr _ e.symm).1;omega),h2.grown hg h2.size (λk hk=>by have:=(hr k hk).1;omega)⟩,h3⟩
theorem ChX.own (w:World) (B:Nat) (fv:Array Value) (v:Value) (i:Nat) (R:List Nat) (clr:Nat->Bool) (h:w.heap.size+5<=B) (c:Code):OwnFrom B (ChX w fv v i R clr c):=by
 rintro s W W' row ⟨h1,q,x,h2,h3,h4,h5⟩ hg hr;exact ⟨h1,q,x,h2,h3,h4,h5.to hg.size ⟨hg.os,hg.tape,hg.output⟩ λk hk=>hg.block k (by have:=h5.lt;omega) (λe=>by have:=(hr _ e.symm).1;omega)⟩
set_option maxRecDepth 100000 in
set_option maxHeartbeats 8000000 in
theorem fchoice_any (u:KC) (m:Mc) (Ae Aa A:Option Addr) (ne na ce ca n c i:Nat) (bs R:List Nat) (clr:Nat->Bool) (w:World) (hm:McIn w (.agg #[.slice Ae ne ce, .slice Aa na ca]) m) (hvl:Vld m) (hms:McSm m) (hm1:1<=m.ed.length) (hb:ByIn w (.slice A n c) bs) (hn:bs.length=n) (hnl:n<=900000) (hby:∀b∈bs,b<256) (hi:i<=n)
  (hR:rchF m (bs.drop i) 0 i=R) (hRl:R.length<=1000000) (hRb:∀t∈R,t<=1000000)
  (hclr:∀W t,Below w.heap.size w W->t∈R->Calls Tryz.prog 95 #[.agg #[.string u.nm, .int .i64 u.op, .slice u.a1 u.n1 u.c1, .slice u.a2 u.n2 u.c2, .int .i64 u.mn, .int .i64 u.mx, .bool u.wh, .int .i64 u.ck, .int .i64 u.en, .slice u.a3 u.n3 u.c3, .int .i64 u.nr], .slice A n c, .int .i64 (i:Int), .int .i64 (t:Int)] W λe w'=>e = .returned (.bool (clr t))/\Below W.heap.size W w') :
  Calls Tryz.prog 75 #[.agg #[.string u.nm, .int .i64 u.op, .slice u.a1 u.n1 u.c1, .slice u.a2 u.n2 u.c2, .int .i64 u.mn, .int .i64 u.mx, .bool u.wh, .int .i64 u.ck, .int .i64 u.en, .slice u.a3 u.n3 u.c3, .int .i64 u.nr, .slice Ae ne ce, .slice Aa na ca], .slice A n c, .int .i64 (i:Int)] w λe w'=>e = .returned (.tuple #[.int .i64 (((choF R i clr).getD 0:Nat):Int), .bool (choF R i clr).isSome])/\Below w.heap.size w w':=by
 have HRC:=Lib.hid λW (hbw:Below w.heap.size w W)=>reach_any _ (.slice A n c) m bs i W (hm.later hbw) hvl hms hm1 (hb.later hbw) (by omega) hby (by omega)
 rw[hR]at HRC;have HCL:=Lib.hid hclr;have HL:=Lib.hid (And.intro hRl hRb);clear hm hvl hms hm1 hb hby hR hclr hRl hRb hn;refine (callsIn_wide (n:=7)).1 ?_;refine callsIn_of_wp_marks Tryz.func75 rfl trivial ?_ rfl;simp only[Tryz.ntmps75,List.size_toArray,List.length_cons,List.length_nil,Nat.reduceAdd,Nat.reduceSub,Array.replicate_succ,Array.replicate_zero,List.push_toArray,List.append_toArray,List.nil_append,List.cons_append]
 gi_wp2_with fail
 refine ⟨trivial,?_⟩;refine callsIn_nm λW0 hW0=>?_;have hC0:ChB w #[.string u.nm, .int .i64 u.op, .slice u.a1 u.n1 u.c1, .slice u.a2 u.n2 u.c2, .int .i64 u.mn, .int .i64 u.mx, .bool u.wh, .int .i64 u.ck, .int .i64 u.en, .slice u.a3 u.n3 u.c3, .int .i64 u.nr, .slice Ae ne ce, .slice Aa na ca] (.slice A n c) i (.int .i64 0) false W0:=by
  have hWa:W0=allocs w [(#[.string u.nm, .int .i64 u.op, .slice u.a1 u.n1 u.c1, .slice u.a2 u.n2 u.c2, .int .i64 u.mn, .int .i64 u.mx, .bool u.wh, .int .i64 u.ck, .int .i64 u.en, .slice u.a3 u.n3 u.c3, .int .i64 u.nr, .slice Ae ne ce, .slice Aa na ca],95),(#[.slice A n c],28),(#[.int .i64 (i:Int)],3),(#[.int .i64 0],3),(#[.bool false],4)]:=by rw[hW0];rfl
  rw[hWa];exact ⟨allocs_at 0 rfl,allocs_at 1 rfl,allocs_at 2 rfl,allocs_at 3 rfl,allocs_at 4 rfl,allocs_below _ _⟩
 have HC0:=Lib.hid hC0;clear hW0 hC0;refine (callsIn_wide.2 (HRC.out W0 HC0.out.bel)).mono ?_;rintro e w1 ⟨rv,rfl,hown,hb1⟩;obtain ⟨Ar,cr,rfl,-,-⟩:=own_form (show w1.ownsRow _ _ _ _ _ _ from hown);obtain ⟨nr,hnr⟩:∃x,R.length=x:=⟨_,rfl⟩;have lt1':=(HC0.out.later hb1).lt;obtain ⟨gR,hgR,hA,hcR⟩:∃gR,gR<w1.heap.size/\(nr=0\/Ar=some ⟨gR,0,none⟩)/\∀j,j<nr->gR<w1.heap.size/\w1.cell? ⟨gR,0+j,none⟩=some (.int .i64 (((R[j]?).getD 0:Nat):Int)):=by
  obtain ⟨A',c',e,-,hor⟩:=hown.cells inC_E;injection e with e1 _ _;rcases hor with hnil | ⟨gR,hA',-,hg,hcs⟩
  .exact ⟨0,by omega, .inl (by rw[<-hnr,hnil];rfl),λj hj=>by rw[<-hnr,hnil]at hj;cases hj⟩
  .refine ⟨gR,hg, .inr (e1.trans hA'),λj hj=>⟨hg,?_⟩⟩;have h9:=(hcs j (show j<R.length by omega) 0 (by decide)).1
   rw[Nat.mul_one,Nat.add_zero]at h9;rw[Nat.zero_add,h9,List.getElem?_eq_getElem (show j<R.length by omega)];rfl
 have HC1:=Lib.hid (HC0.out.later hb1);have HA:=Lib.hid (And.intro hA hcR);have HN:=Lib.hid hnr;rw[hnr];clear hown hb1 hA hcR hnr
 gi_wp2_with fail
 refine ⟨trivial,?_⟩;refine (back_in Fence.wide _ trivial rfl _ _ _ _).mono ?_;rintro e w2 ⟨rfl,hw2⟩;have hb2:Below w1.heap.size w1 w2:=by rw[hw2];exact (Below.refl _ _).alloc (Nat.le_refl _) _
 have hS2:w2.heap[w1.heap.size]?=some (.cells #[.slice Ar nr cr] 22 (0,0)):=by rw[hw2];exact heap_alloc_new w1 _
 have HC2:=Lib.hid (HC1.out.later hb2);have HS2:=Lib.hid (And.intro hb2 hS2);clear hw2 hb2 hS2
 gi_wp2_with fail
 have hC2:=HC2.out;have lt2:=hC2.lt;have hs1:w1.heap.size<w2.heap.size:=(Array.getElem?_eq_some_iff.1 HS2.out.2).1;have lt1:=HC1.out.lt;have hI0:ChI w w2 #[.string u.nm, .int .i64 u.op, .slice u.a1 u.n1 u.c1, .slice u.a2 u.n2 u.c2, .int .i64 u.mn, .int .i64 u.mx, .bool u.wh, .int .i64 u.ck, .int .i64 u.en, .slice u.a3 u.n3 u.c3, .int .i64 u.nr, .slice Ae ne ce, .slice Aa na ca] (.slice A n c) i R clr [] w2:=⟨⟨hC2,Below.refl _ _⟩,λx hx=>by cases hx⟩
 refine wpIn_rangeFunc_ownG rfl (by omega) (gf:=121) (lb:=#[.pointer (some ⟨w1.heap.size,0,none⟩)]) rfl trivial (enters_of Tryz.func121 (by kernel_rfl) rfl)
  (back_stops Fence.wide _ trivial rfl (by omega) w1.heap.size gR 0 Ar R nr cr HN.out (by have:=HL.out.1;have:=HN.out;omega) HA.out.1 w2 (by rw[cell_of_row _ _ _ _ _ _ HS2.out.2];rfl) hs1 (λj hj=>⟨Nat.lt_trans (HA.out.2 j hj).1 hs1,(HS2.out.1.cell (p:=⟨gR,0+j,none⟩) (HA.out.2 j hj).1).trans (HA.out.2 j hj).2⟩)) KpB.trans
  (λW q o o' hq hW _ _=>⟨World.putObj_heap_other (by omega),World.putObj_heap_other (by omega)⟩) (Below.refl _ _) (λ_=>rfl)
  (ChI w w2 #[.string u.nm, .int .i64 u.op, .slice u.a1 u.n1 u.c1, .slice u.a2 u.n2 u.c2, .int .i64 u.mn, .int .i64 u.mx, .bool u.wh, .int .i64 u.ck, .int .i64 u.en, .slice u.a3 u.n3 u.c3, .int .i64 u.nr, .slice Ae ne ce, .slice Aa na ca] (.slice A n c) i R clr) (ChX w #[.string u.nm, .int .i64 u.op, .slice u.a1 u.n1 u.c1, .slice u.a2 u.n2 u.c2, .int .i64 u.mn, .int .i64 u.mx, .bool u.wh, .int .i64 u.ck, .int .i64 u.en, .slice u.a3 u.n3 u.c3, .int .i64 u.nr, .slice Ae ne ce, .slice Aa na ca] (.slice A n c) i R clr) (ChI.own w w2 _ _ i R clr (by omega)) (λc'=>ChX.own w w2.heap.size _ _ i R clr (by omega) c') hI0
  (λx=>{ tmps:=#[.agg #[.string u.nm, .int .i64 u.op, .slice u.a1 u.n1 u.c1, .slice u.a2 u.n2 u.c2, .int .i64 u.mn, .int .i64 u.mx, .bool u.wh, .int .i64 u.ck, .int .i64 u.en, .slice u.a3 u.n3 u.c3, .int .i64 u.nr, .slice Ae ne ce, .slice Aa na ca], .slice A n c, .int .i64 (i:Int), .pointer (some ⟨w.heap.size,0,none⟩), .pointer (some ⟨w.heap.size+1,0,none⟩), .pointer (some ⟨w.heap.size+1+1,0,none⟩), .pointer (some ⟨w.heap.size+1+1+1,0,none⟩), .pointer (some ⟨w.heap.size+1+1+1+1,0,none⟩),undef, .int .i64 ((bkV R x:Nat):Int), .pointer (some ⟨w.heap.size,11,none⟩), .agg #[.slice Ae ne ce, .slice Aa na ca], .slice A n c, .int .i64 (i:Int), .slice Ar nr cr,
   .func (.func 121) #[] #[.pointer (some ⟨w1.heap.size,0,none⟩)], .int .i64 ((R.length:Int) - 1-x), .int .i64 ((bkV R x:Nat):Int),undef,undef,undef,undef,undef,undef,undef,undef,undef,undef,undef,undef],defers:=[] }) ?assign ?body ?done ?stop
 case assign=>
  intro q x W K hK;unfold bkE
  gi_wp2
  exact hK
 case body=>
  rintro q pre x W ⟨⟨hC,hbl⟩,hpre⟩ hlt;have hmem:bkV R x∈R:=bkV_mem (by have:=HN.out;omega)
  have hvb:=HL.out.2 _ hmem;obtain ⟨v,hv⟩:∃v,bkV R x=v:=⟨_,rfl⟩;rw[hv]at hmem hvb|-;have HCV:=Lib.hid (HCL.out W v hC.bel hmem);have HW:=Lib.hid (And.intro hC (And.intro hbl (And.intro hpre hv)));have ltW:=hC.lt;have a0:W.cell? ⟨w.heap.size,0,none⟩=some (.string u.nm):=by rw[cell_of_row _ _ _ _ _ _ hC.b0];rfl
  have a1:W.cell? ⟨w.heap.size,1,none⟩=some (.int .i64 u.op):=by rw[cell_of_row _ _ _ _ _ _ hC.b0];rfl
  have a2:W.cell? ⟨w.heap.size,2,none⟩=some (.slice u.a1 u.n1 u.c1):=by rw[cell_of_row _ _ _ _ _ _ hC.b0];rfl
  have a3:W.cell? ⟨w.heap.size,3,none⟩=some (.slice u.a2 u.n2 u.c2):=by rw[cell_of_row _ _ _ _ _ _ hC.b0];rfl
  have a4:W.cell? ⟨w.heap.size,4,none⟩=some (.int .i64 u.mn):=by rw[cell_of_row _ _ _ _ _ _ hC.b0];rfl
  have a5:W.cell? ⟨w.heap.size,5,none⟩=some (.int .i64 u.mx):=by rw[cell_of_row _ _ _ _ _ _ hC.b0];rfl
  have a6:W.cell? ⟨w.heap.size,6,none⟩=some (.bool u.wh):=by rw[cell_of_row _ _ _ _ _ _ hC.b0];rfl
  have a7:W.cell? ⟨w.heap.size,7,none⟩=some (.int .i64 u.ck):=by rw[cell_of_row _ _ _ _ _ _ hC.b0];rfl
  have a8:W.cell? ⟨w.heap.size,8,none⟩=some (.int .i64 u.en):=by rw[cell_of_row _ _ _ _ _ _ hC.b0];rfl
  have a9:W.cell? ⟨w.heap.size,9,none⟩=some (.slice u.a3 u.n3 u.c3):=by rw[cell_of_row _ _ _ _ _ _ hC.b0];rfl
  have a10:W.cell? ⟨w.heap.size,10,none⟩=some (.int .i64 u.nr):=by rw[cell_of_row _ _ _ _ _ _ hC.b0];rfl
  have a11:W.cell? ⟨w.heap.size+1,0,none⟩=some (.slice A n c):=by rw[cell_of_row _ _ _ _ _ _ hC.b1];rfl
  have a12:W.cell? ⟨w.heap.size+1+1,0,none⟩=some (.int .i64 (i:Int)):=by rw[cell_of_row _ _ _ _ _ _ hC.b2];rfl
  have l0:w.heap.size<W.heap.size:=by omega
  have l1:w.heap.size+1<W.heap.size:=by omega
  have l2:w.heap.size+1+1<W.heap.size:=by omega
  clear hC hbl hpre hv hmem hI0 hC2;by_cases hiv:i<v
  .have d1:decide ((i:Int)<(v:Int))=true:=decide_eq_true (by omega)
   have d1n:decide (i<v)=true:=decide_eq_true hiv
   gi_wp2_with fail
   refine ⟨trivial,(CallsIn.inRound q (callsIn_wide.2 HCV.out)).mono ?_⟩;rintro e w3 ⟨rfl,hb3⟩;have hC3:=HW.out.1.later hb3;have hz3:=hb3.size;have l3:w.heap.size+1+1+1<w3.heap.size:=by omega
   have l4:w.heap.size+1+1+1+1<w3.heap.size:=by omega
   have e3:w3.cell? ⟨w.heap.size+1+1+1,0,none⟩=some (.int .i64 0):=by rw[cell_of_row _ _ _ _ _ _ hC3.b3];rfl
   have e4:w3.cell? ⟨w.heap.size+1+1+1+1,0,none⟩=some (.bool false):=by rw[cell_of_row _ _ _ _ _ _ hC3.b4];rfl
   have f3:w3.frozen? ⟨w.heap.size+1+1+1,0,none⟩=false:=by simp[World.frozen?,show w3.heap[w.heap.size+1+1+1]?=_ from hC3.b3]
   have f4:w3.frozen? ⟨w.heap.size+1+1+1+1,0,none⟩=false:=by simp[World.frozen?,show w3.heap[w.heap.size+1+1+1+1]?=_ from hC3.b4]
   have hko:KeepsOthers W w3:=⟨hb3.size,λk ob hk _=>(hb3.block k (Array.getElem?_eq_some_iff.1 hk).1).trans hk⟩;have H3:=Lib.hid (And.intro hC3 (And.intro hb3 hko));clear hC3 hb3 hko
   cases hcl:clr v with
   | true=>
    have HCLR:=Lib.hid hcl;clear hcl
    gi_wp2_with fail
    refine ⟨((H3.out.2.2.trans (KeepsOthers.setCell _ _ _)).trans (KeepsOthers.setCell _ _ _)).from _,rfl,pre,x,rfl,HW.out.2.2.1,by rw[HW.out.2.2.2,HCLR.out,d1n];rfl,?_⟩
    rw[HW.out.2.2.2];exact H3.out.1.put _ true
   | false=>
    have HCLR:=Lib.hid hcl;clear hcl
    gi_wp2_with fail
    exact ⟨H3.out.2.2.from _,⟨H3.out.2.1.block _ (by have:=HW.out.2.1.size;omega),H3.out.2.1.block _ (by have:=HW.out.2.1.size;omega)⟩,⟨H3.out.1,HW.out.2.1.trans (H3.out.2.1.mono HW.out.2.1.size)⟩,λy hy=>(List.mem_append.1 hy).elim (HW.out.2.2.1 y) λhy=>by rw[List.mem_singleton]at hy;subst hy;rw[HW.out.2.2.2,HCLR.out,Bool.and_false]⟩
  .have d1:decide ((i:Int)<(v:Int))=false:=decide_eq_false (by omega)
   have d1n:decide (i<v)=false:=decide_eq_false hiv
   gi_wp2_with fail
   refine ⟨trivial,?_⟩
   gi_wp2_with fail
   exact ⟨KeepsFrom.refl _ _,KpB.refl _ _ _,⟨HW.out.1,HW.out.2.1⟩,λy hy=>(List.mem_append.1 hy).elim (HW.out.2.2.1 y) λhy=>by rw[List.mem_singleton]at hy;subst hy;rw[HW.out.2.2.2,d1n,Bool.false_and]⟩
 case done=>
  rintro D ys W hD rfl ⟨⟨hC,hbl⟩,hpre⟩ hK;have ltW:=hC.lt;have l3:w.heap.size+1+1+1<W.heap.size:=by omega
  have l4:w.heap.size+1+1+1+1<W.heap.size:=by omega
  have e3:W.cell? ⟨w.heap.size+1+1+1,0,none⟩=some (.int .i64 0):=by rw[cell_of_row _ _ _ _ _ _ hC.b3];rfl
  have e4:W.cell? ⟨w.heap.size+1+1+1+1,0,none⟩=some (.bool false):=by rw[cell_of_row _ _ _ _ _ _ hC.b4];rfl
  have f3:W.frozen? ⟨w.heap.size+1+1+1,0,none⟩=false:=by simp[World.frozen?,show W.heap[w.heap.size+1+1+1]?=_ from hC.b3]
  have f4:W.frozen? ⟨w.heap.size+1+1+1+1,0,none⟩=false:=by simp[World.frozen?,show W.heap[w.heap.size+1+1+1+1]?=_ from hC.b4]
  have hcn:choF R i clr=none:=choF_none λx hx=>hpre x (List.mem_range.2 (by have:=HN.out;omega))
  have HD:=Lib.hid (And.intro hC (And.intro hcn (And.intro hK hD)));clear hC hbl hpre hcn hK hI0 hC2
  gi_wp2
  have hC9:=HD.out.1.put (.int .i64 0) false;obtain ⟨W9,hW9⟩:∃V,V=((W.setCell ⟨w.heap.size+3,0,none⟩ (.int .i64 0)).setCell ⟨w.heap.size+4,0,none⟩ (.bool false)):=⟨_,rfl⟩;rw[<-hW9]at hC9;have hK9:W9.heap[D]?=some (.deferred (some [])):=by rw[hW9];exact (Below.heap_setCell _ ⟨w.heap.size+4,0,none⟩ _ D (by show D≠w.heap.size+4;omega)).trans ((Below.heap_setCell _ ⟨w.heap.size+3,0,none⟩ _ D (by show D≠w.heap.size+3;omega)).trans HD.out.2.2.1)
  have c0:(W9.putObj D (.deferred none)).cell? ⟨w.heap.size+1+1+1,0,none⟩=some (.int .i64 0):=by rw[cell_of_row _ _ _ _ _ _ ((World.putObj_heap_other (by omega)).trans hC9.b3)];rfl
  have c1:(W9.putObj D (.deferred none)).cell? ⟨w.heap.size+1+1+1+1,0,none⟩=some (.bool false):=by rw[cell_of_row _ _ _ _ _ _ ((World.putObj_heap_other (by omega)).trans hC9.b4)];rfl
  have hbf:Below w.heap.size w (W9.putObj D (.deferred none)):=hC9.bel.trans (belowK_b (w:=w) (Nat.le_refl _) W9 D _ _ (by omega) hK9 rfl rfl)
  rw[<-hW9];refine ⟨by simp, .inl ⟨_,_,rfl,run_takeDeferred hK9,?_⟩⟩
  refine ⟨.tuple #[.int .i64 0, .bool false],by simp[results,Tryz.results75,go_sem,c0,c1];try rfl,?_⟩
  exact ⟨by rw[HD.out.2.1];rfl,hbf⟩
 case stop=>
  rintro D c' pre W hD ⟨k,hk,rfl⟩ ⟨rfl,q,x,hq,h3,h4,hC⟩ hK;have hqx:q=List.range k/\x=k:=by
   rw[List.range_succ]at hq;obtain ⟨e1,e2⟩:=List.append_inj' hq rfl;injection e2 with e2;exact ⟨e1.symm,e2.symm⟩
  obtain ⟨rfl,rfl⟩:=hqx;have hcs:choF R i clr=some (bkV R x):=choF_some (by have:=HN.out;omega) (λy hy=>h3 y (List.mem_range.2 hy)) h4
  have HD:=Lib.hid (And.intro hC (And.intro hcs (And.intro hK hD)));clear hq h3 h4 hC hcs hI0 hC2
  gi_wp2
  have ltW:=HD.out.1.lt;have hC9:=HD.out.1;have c0:(W.putObj D (.deferred none)).cell? ⟨w.heap.size+1+1+1,0,none⟩=some (.int .i64 ((bkV R x:Nat):Int)):=by rw[cell_of_row _ _ _ _ _ _ ((World.putObj_heap_other (by omega)).trans hC9.b3)];rfl
  have c1:(W.putObj D (.deferred none)).cell? ⟨w.heap.size+1+1+1+1,0,none⟩=some (.bool true):=by rw[cell_of_row _ _ _ _ _ _ ((World.putObj_heap_other (by omega)).trans hC9.b4)];rfl
  have hbf:Below w.heap.size w (W.putObj D (.deferred none)):=hC9.bel.trans (belowK_b (w:=w) (Nat.le_refl _) W D _ _ (by omega) HD.out.2.2.1 rfl rfl)
  refine ⟨by simp, .inl ⟨_,_,rfl,run_takeDeferred HD.out.2.2.1,?_⟩⟩
  refine ⟨.tuple #[.int .i64 ((bkV R x:Nat):Int), .bool true],by simp[results,Tryz.results75,go_sem,c0,c1];try rfl,?_⟩
  exact ⟨by rw[HD.out.2.1];rfl,hbf⟩
end Go.Proofs.YtdmoogjddmdmbaaGreatDoor
