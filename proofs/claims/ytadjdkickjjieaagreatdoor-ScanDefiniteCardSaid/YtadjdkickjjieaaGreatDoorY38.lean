/- scan.Finder.Choice: the last end that is clear. · scan.Choices at chapter 8's example. · (scan.Finder).choices at chapter 8's example. · scan.Choices at chapter 8's example; law08.awake. -/
import Derived.Test.YtadjdkickjjieaaGreatDoorY31
import Derived.Test.YtadjdkickjjieaaGreatDoorY13
import Derived.Test.YtadjdkickjjieaaGreatDoorY37
import Derived.Test.YtadjdkickjjieaaGreatDoorY23
import Derived.Test.YtadjdkickjjieaaGreatDoorY10
import Derived.Test.YtadjdkickjjieaaGreatDoorY25
import Derived.Test.YtadjdkickjjieaaGreatDoorY14
namespace Go.Proofs.YtadjdkickjjieaaGreatDoor
set_option linter.unusedVariables false
set_option linter.unusedSimpArgs false
set_option maxRecDepth 100000
open Go.RowKit Go.Shelf
attribute [local go_sem] Oper.semAt_some
theorem zHL {F:Fence} {n:Nat} {P:Program} {f:FuncId} {args:Array Value} {Q:Ending->World->Prop} {w:World} (h:∀W,W=w->CallsIn F n P f args W Q):CallsIn F n P f args w Q:=h w rfl
theorem zJZ (p:Nat->Bool):∀(L:List Nat) (k:Nat),k<L.length->(∀x,x<k->p ((L[x]?).getD 0)=false)->p ((L[k]?).getD 0)=true->L.find? p=some ((L[k]?).getD 0)
 | a::L,0,_,_,h2=>by
  have h2:p a=true:=h2;rw[List.find?_cons,h2];rfl
 | a::L,k+1,hk,h1,h2=>by
  have h0:p a=false:=h1 0 (by omega)
  rw[List.find?_cons,h0];exact zJZ p L k (by simpa using hk) (λx hx=>h1 (x+1) (by omega)) h2
theorem zII (p:Nat->Bool):∀(L:List Nat),(∀x,x<L.length->p ((L[x]?).getD 0)=false)->L.find? p=none
 | [],_=>rfl
 | a::L,h=>by
  have h0:p a=false:=h 0 (by simp)
  rw[List.find?_cons,h0];exact zII p L λx hx=>h (x+1) (by simpa using hx)
theorem zEe {R:List Nat} {x:Nat} (h:x<R.length):bkV R x=((R.reverse)[x]?).getD 0:=by unfold bkV;rw[List.getElem?_reverse h]
theorem zLh {R:List Nat} {x:Nat} (h:0<R.length):bkV R x∈R:=by
 unfold bkV;rw[List.getElem?_eq_getElem (by omega)]
 exact List.getElem_mem _
theorem zH7 {R:List Nat} {i k:Nat} {clr:Nat->Bool} (hk:k<R.length) (h1:∀x,x<k->(decide (i<bkV R x) && clr (bkV R x))=false) (h2:(decide (i<bkV R k) && clr (bkV R k))=true):choF R i clr=some (bkV R k):=by
 rw[zEe hk];exact zJZ _ R.reverse k (by simpa using hk) (λx hx=>by rw[<-zEe (by omega)];exact h1 x hx) (by rw[<-zEe hk];exact h2)
theorem zHr {R:List Nat} {i:Nat} {clr:Nat->Bool} (h1:∀x,x<R.length->(decide (i<bkV R x) && clr (bkV R x))=false):choF R i clr=none:=
 zII _ R.reverse λx hx=>by rw[List.length_reverse]at hx;rw[<-zEe hx];exact h1 x hx
structure ChB (w:World) (fv:Array Value) (v:Value) (i:Nat) (r:Value) (ok:Bool) (W:World):Prop where
 b0:W.heap[w.heap.size]?=some (.cells fv 75 (0,0))
 b1:W.heap[w.heap.size+1]?=some (.cells #[v] 41 (0,0))
 b2:W.heap[w.heap.size+2]?=some (.cells #[.int .i64 (i:Int)] 3 (0,0))
 b3:W.heap[w.heap.size+3]?=some (.cells #[r] 3 (0,0))
 b4:W.heap[w.heap.size+4]?=some (.cells #[.bool ok] 4 (0,0))
 bel:Below w.heap.size w W
theorem ChB.lt {w:World} {fv:Array Value} {v r:Value} {i:Nat} {ok:Bool} {W:World} (h:ChB w fv v i r ok W):w.heap.size+4<W.heap.size:=(Array.getElem?_eq_some_iff.1 h.b4).1
theorem ChB.to {w:World} {fv:Array Value} {v r:Value} {i:Nat} {ok:Bool} {W W':World} (h:ChB w fv v i r ok W) (hs:W.heap.size<=W'.heap.size) (ho:W'.os=W.os/\W'.tape=W.tape/\W'.output=W.output) (hb:∀k,k<w.heap.size+5->W'.heap[k]?=W.heap[k]?):ChB w fv v i r ok W':=
 ⟨(hb _ (by omega)).trans h.b0,(hb _ (by omega)).trans h.b1,(hb _ (by omega)).trans h.b2,(hb _ (by omega)).trans h.b3,(hb _ (by omega)).trans h.b4,⟨ho.1.trans h.bel.os,ho.2.1.trans h.bel.tape,ho.2.2.trans h.bel.output,Nat.le_trans h.bel.size hs,λk hk=>(hb k (by omega)).trans (h.bel.block k hk)⟩⟩
theorem ChB.later {w:World} {fv:Array Value} {v r:Value} {i:Nat} {ok:Bool} {W W':World} (h:ChB w fv v i r ok W) (hb:Below W.heap.size W W'):ChB w fv v i r ok W':=
 h.to hb.size ⟨hb.os,hb.tape,hb.output⟩ λk hk=>hb.block k (by have:=h.lt;omega)
theorem ChB.put {w:World} {fv:Array Value} {v r:Value} {i:Nat} {ok:Bool} {W:World} (h:ChB w fv v i r ok W) (r':Value) (ok':Bool):ChB w fv v i r' ok' ((W.setCell ⟨w.heap.size+3,0,none⟩ r').setCell ⟨w.heap.size+4,0,none⟩ (.bool ok')):=by
 have hs:∀k,k≠w.heap.size+3->k≠w.heap.size+4->((W.setCell ⟨w.heap.size+3,0,none⟩ r').setCell ⟨w.heap.size+4,0,none⟩ (.bool ok')).heap[k]?=W.heap[k]?:=λk h1 h2=>(Below.heap_setCell _ ⟨w.heap.size+4,0,none⟩ _ k h2).trans (Below.heap_setCell _ ⟨w.heap.size+3,0,none⟩ _ k h1);refine ⟨(hs _ (by omega) (by omega)).trans h.b0,(hs _ (by omega) (by omega)).trans h.b1,(hs _ (by omega) (by omega)).trans h.b2,?_,?_,⟨h.bel.os,h.bel.tape,h.bel.output,by have:=h.bel.size;simpa [World.setCell] using this,λk hk=>(hs k (by omega) (by omega)).trans (h.bel.block k hk)⟩⟩
 .exact (Below.heap_setCell _ ⟨w.heap.size+4,0,none⟩ _ _ (by show w.heap.size+3≠w.heap.size+4;omega)).trans (by have:=zAR h.b3 0 r';simpa using this)
 .have:=zAR ((Below.heap_setCell W ⟨w.heap.size+3,0,none⟩ r' (w.heap.size+4) (by show w.heap.size+4≠w.heap.size+3;omega)).trans h.b4) 0 (.bool ok')
  simpa using this
def ChI (w w2:World) (fv:Array Value) (v:Value) (i:Nat) (R:List Nat) (clr:Nat->Bool) (pre:List Nat) (W:World):Prop:=(ChB w fv v i (.int .i64 0) false W/\Below w2.heap.size w2 W)/\∀x∈pre,(decide (i<bkV R x) && clr (bkV R x))=false
def ChX (w:World) (fv:Array Value) (v:Value) (i:Nat) (R:List Nat) (clr:Nat->Bool) (c:Code) (pre:List Nat) (W:World):Prop:=c = .ret/\∃q x,pre=q++[x]/\(∀x∈q,(decide (i<bkV R x) && clr (bkV R x))=false)/\(decide (i<bkV R x) && clr (bkV R x))=true/\ChB w fv v i (.int .i64 ((bkV R x:Nat):Int)) true W
theorem ChI.own (w w2:World) (fv:Array Value) (v:Value) (i:Nat) (R:List Nat) (clr:Nat->Bool) (h:w.heap.size+5<=w2.heap.size):OwnFrom w2.heap.size (ChI w w2 fv v i R clr):=by
 rintro s W W' row ⟨⟨h1,h2⟩,h3⟩ hg hr;refine ⟨⟨h1.to hg.size ⟨hg.os,hg.tape,hg.output⟩ λk hk=>hg.block k (by have:=h1.lt;omega) (λe=>by have:=(hr _ e.symm).1;omega),h2.grown hg h2.size (λk hk=>by have:=(hr k hk).1;omega)⟩,h3⟩
theorem ChX.own (w:World) (B:Nat) (fv:Array Value) (v:Value) (i:Nat) (R:List Nat) (clr:Nat->Bool) (h:w.heap.size+5<=B) (c:Code):OwnFrom B (ChX w fv v i R clr c):=by
 rintro s W W' row ⟨h1,q,x,h2,h3,h4,h5⟩ hg hr;exact ⟨h1,q,x,h2,h3,h4,h5.to hg.size ⟨hg.os,hg.tape,hg.output⟩ λk hk=>hg.block k (by have:=h5.lt;omega) (λe=>by have:=(hr _ e.symm).1;omega)⟩
set_option maxRecDepth 100000 in
set_option maxHeartbeats 8000000 in
theorem zDN (u:KC) (m:Mc) (Ae Aa A:Option Addr) (ne na ce ca n c i:Nat) (bs R:List Nat) (clr:Nat->Bool) (w:World) (hm:McIn w (.agg #[.slice Ae ne ce, .slice Aa na ca]) m) (hvl:Vld m) (hms:McSm m) (hm1:1<=m.ed.length) (hb:ByIn w (.slice A n c) bs) (hn:bs.length=n) (hnl:n<=900000) (hby:∀b∈bs,b<256) (hi:i<=n)
  (hR:rchF m (bs.drop i) 0 i=R) (hRl:R.length<=1000000) (hRb:∀t∈R,t<=1000000)
  (hclr:∀W t,Below w.heap.size w W->t∈R->Calls Tryz.prog 99 #[.agg #[.string u.nm, .int .i64 u.op, .slice u.a1 u.n1 u.c1, .slice u.a2 u.n2 u.c2, .int .i64 u.mn, .int .i64 u.mx, .bool u.wh, .int .i64 u.ck, .int .i64 u.en, .slice u.a3 u.n3 u.c3, .int .i64 u.nr], .slice A n c, .int .i64 (i:Int), .int .i64 (t:Int)] W λe w'=>e = .returned (.bool (clr t))/\Below W.heap.size W w') :
  Calls Tryz.prog 61 #[.agg #[.string u.nm, .int .i64 u.op, .slice u.a1 u.n1 u.c1, .slice u.a2 u.n2 u.c2, .int .i64 u.mn, .int .i64 u.mx, .bool u.wh, .int .i64 u.ck, .int .i64 u.en, .slice u.a3 u.n3 u.c3, .int .i64 u.nr, .slice Ae ne ce, .slice Aa na ca], .slice A n c, .int .i64 (i:Int)] w λe w'=>e = .returned (.tuple #[.int .i64 (((choF R i clr).getD 0:Nat):Int), .bool (choF R i clr).isSome])/\Below w.heap.size w w':=by
 have HRC:=Lib.hid λW (hbw:Below w.heap.size w W)=>zIC _ (.slice A n c) m bs i W (hm.later hbw) hvl hms hm1 (hb.later hbw) (by omega) hby (by omega)
 rw[hR]at HRC;have HCL:=Lib.hid hclr;have HL:=Lib.hid (And.intro hRl hRb);clear hm hvl hms hm1 hb hby hR hclr hRl hRb hn;refine (callsIn_wide (n:=7)).1 ?_;refine callsIn_of_wp_marks Tryz.func61 rfl trivial ?_ rfl;simp only[Tryz.ntmps61,List.size_toArray,List.length_cons,List.length_nil,Nat.reduceAdd,Nat.reduceSub,Array.replicate_succ,Array.replicate_zero,List.push_toArray,List.append_toArray,List.nil_append,List.cons_append]
 gi_wp2_with fail
 refine ⟨trivial,?_⟩;refine zHL λW0 hW0=>?_;have hC0:ChB w #[.string u.nm, .int .i64 u.op, .slice u.a1 u.n1 u.c1, .slice u.a2 u.n2 u.c2, .int .i64 u.mn, .int .i64 u.mx, .bool u.wh, .int .i64 u.ck, .int .i64 u.en, .slice u.a3 u.n3 u.c3, .int .i64 u.nr, .slice Ae ne ce, .slice Aa na ca] (.slice A n c) i (.int .i64 0) false W0:=by
  have hWa:W0=zBz w [(#[.string u.nm, .int .i64 u.op, .slice u.a1 u.n1 u.c1, .slice u.a2 u.n2 u.c2, .int .i64 u.mn, .int .i64 u.mx, .bool u.wh, .int .i64 u.ck, .int .i64 u.en, .slice u.a3 u.n3 u.c3, .int .i64 u.nr, .slice Ae ne ce, .slice Aa na ca],75),(#[.slice A n c],41),(#[.int .i64 (i:Int)],3),(#[.int .i64 0],3),(#[.bool false],4)]:=by rw[hW0];rfl
  rw[hWa];exact ⟨zAj 0 rfl,zAj 1 rfl,zAj 2 rfl,zAj 3 rfl,zAj 4 rfl,zBM _ _⟩
 have HC0:=Lib.hid hC0;clear hW0 hC0;refine (callsIn_wide.2 (HRC.out W0 HC0.out.bel)).mono ?_;rintro e w1 ⟨rv,rfl,hown,hb1⟩;obtain ⟨Ar,cr,rfl,-,-⟩:=zAC (show w1.ownsRow _ _ _ _ _ _ from hown);obtain ⟨nr,hnr⟩:∃x,R.length=x:=⟨_,rfl⟩;have lt1':=(HC0.out.later hb1).lt;obtain ⟨gR,hgR,hA,hcR⟩:∃gR,gR<w1.heap.size/\(nr=0\/Ar=some ⟨gR,0,none⟩)/\∀j,j<nr->gR<w1.heap.size/\w1.cell? ⟨gR,0+j,none⟩=some (.int .i64 (((R[j]?).getD 0:Nat):Int)):=by
  obtain ⟨A',c',e,-,hor⟩:=hown.cells zLq;injection e with e1 _ _;rcases hor with hnil | ⟨gR,hA',-,hg,hcs⟩
  .exact ⟨0,by omega, .inl (by rw[<-hnr,hnil];rfl),λj hj=>by rw[<-hnr,hnil]at hj;cases hj⟩
  .refine ⟨gR,hg, .inr (e1.trans hA'),λj hj=>⟨hg,?_⟩⟩;have h9:=(hcs j (show j<R.length by omega) 0 (by decide)).1
   rw[Nat.mul_one,Nat.add_zero]at h9;rw[Nat.zero_add,h9,List.getElem?_eq_getElem (show j<R.length by omega)];rfl
 have HC1:=Lib.hid (HC0.out.later hb1);have HA:=Lib.hid (And.intro hA hcR);have HN:=Lib.hid hnr;rw[hnr];clear hown hb1 hA hcR hnr
 gi_wp2_with fail
 refine ⟨trivial,?_⟩;refine (zLS Fence.wide _ trivial rfl _ _ _ _).mono ?_;rintro e w2 ⟨rfl,hw2⟩;have hb2:Below w1.heap.size w1 w2:=by rw[hw2];exact (Below.refl _ _).alloc (Nat.le_refl _) _
 have hS2:w2.heap[w1.heap.size]?=some (.cells #[.slice Ar nr cr] 22 (0,0)):=by rw[hw2];exact heap_alloc_new w1 _
 have HC2:=Lib.hid (HC1.out.later hb2);have HS2:=Lib.hid (And.intro hb2 hS2);clear hw2 hb2 hS2
 gi_wp2_with fail
 have hC2:=HC2.out;have lt2:=hC2.lt;have hs1:w1.heap.size<w2.heap.size:=(Array.getElem?_eq_some_iff.1 HS2.out.2).1;have lt1:=HC1.out.lt;have hI0:ChI w w2 #[.string u.nm, .int .i64 u.op, .slice u.a1 u.n1 u.c1, .slice u.a2 u.n2 u.c2, .int .i64 u.mn, .int .i64 u.mx, .bool u.wh, .int .i64 u.ck, .int .i64 u.en, .slice u.a3 u.n3 u.c3, .int .i64 u.nr, .slice Ae ne ce, .slice Aa na ca] (.slice A n c) i R clr [] w2:=⟨⟨hC2,Below.refl _ _⟩,λx hx=>by cases hx⟩
 refine wpIn_rangeFunc_ownG rfl (by omega) (gf:=128) (lb:=#[.pointer (some ⟨w1.heap.size,0,none⟩)]) rfl trivial (enters_of Tryz.func128 (by kernel_rfl) rfl)
  (zHS Fence.wide _ trivial rfl (by omega) w1.heap.size gR 0 Ar R nr cr HN.out (by have:=HL.out.1;have:=HN.out;omega) HA.out.1 w2 (by rw[cell_of_row _ _ _ _ _ _ HS2.out.2];rfl) hs1 (λj hj=>⟨Nat.lt_trans (HA.out.2 j hj).1 hs1,(HS2.out.1.cell (p:=⟨gR,0+j,none⟩) (HA.out.2 j hj).1).trans (HA.out.2 j hj).2⟩)) KpB.trans
  (λW q o o' hq hW _ _=>⟨World.putObj_heap_other (by omega),World.putObj_heap_other (by omega)⟩) (Below.refl _ _) (λ_=>rfl)
  (ChI w w2 #[.string u.nm, .int .i64 u.op, .slice u.a1 u.n1 u.c1, .slice u.a2 u.n2 u.c2, .int .i64 u.mn, .int .i64 u.mx, .bool u.wh, .int .i64 u.ck, .int .i64 u.en, .slice u.a3 u.n3 u.c3, .int .i64 u.nr, .slice Ae ne ce, .slice Aa na ca] (.slice A n c) i R clr) (ChX w #[.string u.nm, .int .i64 u.op, .slice u.a1 u.n1 u.c1, .slice u.a2 u.n2 u.c2, .int .i64 u.mn, .int .i64 u.mx, .bool u.wh, .int .i64 u.ck, .int .i64 u.en, .slice u.a3 u.n3 u.c3, .int .i64 u.nr, .slice Ae ne ce, .slice Aa na ca] (.slice A n c) i R clr) (ChI.own w w2 _ _ i R clr (by omega)) (λc'=>ChX.own w w2.heap.size _ _ i R clr (by omega) c') hI0
  (λx=>{ tmps:=#[.agg #[.string u.nm, .int .i64 u.op, .slice u.a1 u.n1 u.c1, .slice u.a2 u.n2 u.c2, .int .i64 u.mn, .int .i64 u.mx, .bool u.wh, .int .i64 u.ck, .int .i64 u.en, .slice u.a3 u.n3 u.c3, .int .i64 u.nr, .slice Ae ne ce, .slice Aa na ca], .slice A n c, .int .i64 (i:Int), .pointer (some ⟨w.heap.size,0,none⟩), .pointer (some ⟨w.heap.size+1,0,none⟩), .pointer (some ⟨w.heap.size+1+1,0,none⟩), .pointer (some ⟨w.heap.size+1+1+1,0,none⟩), .pointer (some ⟨w.heap.size+1+1+1+1,0,none⟩),undef, .int .i64 ((bkV R x:Nat):Int), .pointer (some ⟨w.heap.size,11,none⟩), .agg #[.slice Ae ne ce, .slice Aa na ca], .slice A n c, .int .i64 (i:Int), .slice Ar nr cr,
   .func (.func 128) #[] #[.pointer (some ⟨w1.heap.size,0,none⟩)], .int .i64 ((R.length:Int) - 1-x), .int .i64 ((bkV R x:Nat):Int),undef,undef,undef,undef,undef,undef,undef,undef,undef,undef,undef,undef],defers:=[] }) ?assign ?body ?done ?stop
 case assign=>
  intro q x W K hK;unfold bkE
  gi_wp2
  exact hK
 case body=>
  rintro q pre x W ⟨⟨hC,hbl⟩,hpre⟩ hlt;have hmem:bkV R x∈R:=zLh (by have:=HN.out;omega)
  have hvb:=HL.out.2 _ hmem;obtain ⟨v,hv⟩:∃v,bkV R x=v:=⟨_,rfl⟩;rw[hv]at hmem hvb|-;have HCV:=Lib.hid (HCL.out W v hC.bel hmem);have HW:=Lib.hid (And.intro hC (And.intro hbl (And.intro hpre hv)));have ltW:=hC.lt;have a0:W.cell? ⟨w.heap.size,0,none⟩=some (.string u.nm):=by rw[cell_of_row _ _ _ _ _ _ hC.b0];rfl
  have a1:W.cell? ⟨w.heap.size,1,none⟩=some (.int .i64 u.op):=by rw[cell_of_row _ _ _ _ _ _ hC.b0];rfl
  have a2:W.cell? ⟨w.heap.size,2,none⟩=some (.slice u.a1 u.n1 u.c1):=by rw[cell_of_row _ _ _ _ _ _ hC.b0];rfl
  have a3:W.cell? ⟨w.heap.size,3,none⟩=some (.slice u.a2 u.n2 u.c2):=by rw[cell_of_row _ _ _ _ _ _ hC.b0];rfl
  have a4:W.cell? ⟨w.heap.size,4,none⟩=some (.int .i64 u.mn):=by rw[cell_of_row _ _ _ _ _ _ hC.b0];rfl
  have a5:W.cell? ⟨w.heap.size,5,none⟩=some (.int .i64 u.mx):=by rw[cell_of_row _ _ _ _ _ _ hC.b0];rfl
  have a6:W.cell? ⟨w.heap.size,6,none⟩=some (.bool u.wh):=by rw[cell_of_row _ _ _ _ _ _ hC.b0];rfl
  have a7:W.cell? ⟨w.heap.size,7,none⟩=some (.int .i64 u.ck):=by rw[cell_of_row _ _ _ _ _ _ hC.b0];rfl
  have a8:W.cell? ⟨w.heap.size,8,none⟩=some (.int .i64 u.en):=by rw[cell_of_row _ _ _ _ _ _ hC.b0];rfl
  have a9:W.cell? ⟨w.heap.size,9,none⟩=some (.slice u.a3 u.n3 u.c3):=by rw[cell_of_row _ _ _ _ _ _ hC.b0];rfl
  have a10:W.cell? ⟨w.heap.size,10,none⟩=some (.int .i64 u.nr):=by rw[cell_of_row _ _ _ _ _ _ hC.b0];rfl
  have a11:W.cell? ⟨w.heap.size+1,0,none⟩=some (.slice A n c):=by rw[cell_of_row _ _ _ _ _ _ hC.b1];rfl
  have a12:W.cell? ⟨w.heap.size+1+1,0,none⟩=some (.int .i64 (i:Int)):=by rw[cell_of_row _ _ _ _ _ _ hC.b2];rfl
  have l0:w.heap.size<W.heap.size:=by omega
  have l1:w.heap.size+1<W.heap.size:=by omega
  have l2:w.heap.size+1+1<W.heap.size:=by omega
  clear hC hbl hpre hv hmem hI0 hC2;by_cases hiv:i<v
  .have d1:decide ((i:Int)<(v:Int))=true:=decide_eq_true (by omega)
   have d1n:decide (i<v)=true:=decide_eq_true hiv
   gi_wp2_with fail
   refine ⟨trivial,(CallsIn.inRound q (callsIn_wide.2 HCV.out)).mono ?_⟩;rintro e w3 ⟨rfl,hb3⟩;have hC3:=HW.out.1.later hb3;have hz3:=hb3.size;have l3:w.heap.size+1+1+1<w3.heap.size:=by omega
   have l4:w.heap.size+1+1+1+1<w3.heap.size:=by omega
   have e3:w3.cell? ⟨w.heap.size+1+1+1,0,none⟩=some (.int .i64 0):=by rw[cell_of_row _ _ _ _ _ _ hC3.b3];rfl
   have e4:w3.cell? ⟨w.heap.size+1+1+1+1,0,none⟩=some (.bool false):=by rw[cell_of_row _ _ _ _ _ _ hC3.b4];rfl
   have f3:w3.frozen? ⟨w.heap.size+1+1+1,0,none⟩=false:=by simp[World.frozen?,show w3.heap[w.heap.size+1+1+1]?=_ from hC3.b3]
   have f4:w3.frozen? ⟨w.heap.size+1+1+1+1,0,none⟩=false:=by simp[World.frozen?,show w3.heap[w.heap.size+1+1+1+1]?=_ from hC3.b4]
   have hko:KeepsOthers W w3:=⟨hb3.size,λk ob hk _=>(hb3.block k (Array.getElem?_eq_some_iff.1 hk).1).trans hk⟩;have H3:=Lib.hid (And.intro hC3 (And.intro hb3 hko));clear hC3 hb3 hko
   cases hcl:clr v with
   | true=>
    have HCLR:=Lib.hid hcl;clear hcl
    gi_wp2_with fail
    refine ⟨((H3.out.2.2.trans (KeepsOthers.setCell _ _ _)).trans (KeepsOthers.setCell _ _ _)).from _,rfl,pre,x,rfl,HW.out.2.2.1,by rw[HW.out.2.2.2,HCLR.out,d1n];rfl,?_⟩
    rw[HW.out.2.2.2];exact H3.out.1.put _ true
   | false=>
    have HCLR:=Lib.hid hcl;clear hcl
    gi_wp2_with fail
    exact ⟨H3.out.2.2.from _,⟨H3.out.2.1.block _ (by have:=HW.out.2.1.size;omega),H3.out.2.1.block _ (by have:=HW.out.2.1.size;omega)⟩,⟨H3.out.1,HW.out.2.1.trans (H3.out.2.1.mono HW.out.2.1.size)⟩,λy hy=>(List.mem_append.1 hy).elim (HW.out.2.2.1 y) λhy=>by rw[List.mem_singleton]at hy;subst hy;rw[HW.out.2.2.2,HCLR.out,Bool.and_false]⟩
  .have d1:decide ((i:Int)<(v:Int))=false:=decide_eq_false (by omega)
   have d1n:decide (i<v)=false:=decide_eq_false hiv
   gi_wp2_with fail
   refine ⟨trivial,?_⟩
   gi_wp2_with fail
   exact ⟨KeepsFrom.refl _ _,KpB.refl _ _ _,⟨HW.out.1,HW.out.2.1⟩,λy hy=>(List.mem_append.1 hy).elim (HW.out.2.2.1 y) λhy=>by rw[List.mem_singleton]at hy;subst hy;rw[HW.out.2.2.2,d1n,Bool.false_and]⟩
 case done=>
  rintro D ys W hD rfl ⟨⟨hC,hbl⟩,hpre⟩ hK;have ltW:=hC.lt;have l3:w.heap.size+1+1+1<W.heap.size:=by omega
  have l4:w.heap.size+1+1+1+1<W.heap.size:=by omega
  have e3:W.cell? ⟨w.heap.size+1+1+1,0,none⟩=some (.int .i64 0):=by rw[cell_of_row _ _ _ _ _ _ hC.b3];rfl
  have e4:W.cell? ⟨w.heap.size+1+1+1+1,0,none⟩=some (.bool false):=by rw[cell_of_row _ _ _ _ _ _ hC.b4];rfl
  have f3:W.frozen? ⟨w.heap.size+1+1+1,0,none⟩=false:=by simp[World.frozen?,show W.heap[w.heap.size+1+1+1]?=_ from hC.b3]
  have f4:W.frozen? ⟨w.heap.size+1+1+1+1,0,none⟩=false:=by simp[World.frozen?,show W.heap[w.heap.size+1+1+1+1]?=_ from hC.b4]
  have hcn:choF R i clr=none:=zHr λx hx=>hpre x (List.mem_range.2 (by have:=HN.out;omega))
  have HD:=Lib.hid (And.intro hC (And.intro hcn (And.intro hK hD)));clear hC hbl hpre hcn hK hI0 hC2
  gi_wp2
  have hC9:=HD.out.1.put (.int .i64 0) false;obtain ⟨W9,hW9⟩:∃V,V=((W.setCell ⟨w.heap.size+3,0,none⟩ (.int .i64 0)).setCell ⟨w.heap.size+4,0,none⟩ (.bool false)):=⟨_,rfl⟩;rw[<-hW9]at hC9;have hK9:W9.heap[D]?=some (.deferred (some [])):=by rw[hW9];exact (Below.heap_setCell _ ⟨w.heap.size+4,0,none⟩ _ D (by show D≠w.heap.size+4;omega)).trans ((Below.heap_setCell _ ⟨w.heap.size+3,0,none⟩ _ D (by show D≠w.heap.size+3;omega)).trans HD.out.2.2.1)
  have c0:(W9.putObj D (.deferred none)).cell? ⟨w.heap.size+1+1+1,0,none⟩=some (.int .i64 0):=by rw[cell_of_row _ _ _ _ _ _ ((World.putObj_heap_other (by omega)).trans hC9.b3)];rfl
  have c1:(W9.putObj D (.deferred none)).cell? ⟨w.heap.size+1+1+1+1,0,none⟩=some (.bool false):=by rw[cell_of_row _ _ _ _ _ _ ((World.putObj_heap_other (by omega)).trans hC9.b4)];rfl
  have hbf:Below w.heap.size w (W9.putObj D (.deferred none)):=hC9.bel.trans (belowK_b (w:=w) (Nat.le_refl _) W9 D _ _ (by omega) hK9 rfl rfl)
  rw[<-hW9];refine ⟨by simp, .inl ⟨_,_,rfl,run_takeDeferred hK9,?_⟩⟩
  refine ⟨.tuple #[.int .i64 0, .bool false],by simp[results,Tryz.results61,go_sem,c0,c1];try rfl,?_⟩
  exact ⟨by rw[HD.out.2.1];rfl,hbf⟩
 case stop=>
  rintro D c' pre W hD ⟨k,hk,rfl⟩ ⟨rfl,q,x,hq,h3,h4,hC⟩ hK;have hqx:q=List.range k/\x=k:=by
   rw[List.range_succ]at hq;obtain ⟨e1,e2⟩:=List.append_inj' hq rfl;injection e2 with e2;exact ⟨e1.symm,e2.symm⟩
  obtain ⟨rfl,rfl⟩:=hqx;have hcs:choF R i clr=some (bkV R x):=zH7 (by have:=HN.out;omega) (λy hy=>h3 y (List.mem_range.2 hy)) h4
  have HD:=Lib.hid (And.intro hC (And.intro hcs (And.intro hK hD)));clear hq h3 h4 hC hcs hI0 hC2
  gi_wp2
  have ltW:=HD.out.1.lt;have hC9:=HD.out.1;have c0:(W.putObj D (.deferred none)).cell? ⟨w.heap.size+1+1+1,0,none⟩=some (.int .i64 ((bkV R x:Nat):Int)):=by rw[cell_of_row _ _ _ _ _ _ ((World.putObj_heap_other (by omega)).trans hC9.b3)];rfl
  have c1:(W.putObj D (.deferred none)).cell? ⟨w.heap.size+1+1+1+1,0,none⟩=some (.bool true):=by rw[cell_of_row _ _ _ _ _ _ ((World.putObj_heap_other (by omega)).trans hC9.b4)];rfl
  have hbf:Below w.heap.size w (W.putObj D (.deferred none)):=hC9.bel.trans (belowK_b (w:=w) (Nat.le_refl _) W D _ _ (by omega) HD.out.2.2.1 rfl rfl)
  refine ⟨by simp, .inl ⟨_,_,rfl,run_takeDeferred HD.out.2.2.1,?_⟩⟩
  refine ⟨.tuple #[.int .i64 ((bkV R x:Nat):Int), .bool true],by simp[results,Tryz.results61,go_sem,c0,c1];try rfl,?_⟩
  exact ⟨by rw[HD.out.2.1];rfl,hbf⟩
theorem zFS (g:Nat) (Ae Aa A:Option Addr) (ce ca n c i:Nat) (bs R:List Nat) (clr:Nat->Bool) (w:World) (hm:McIn w (.agg #[.slice Ae 3 ce, .slice Aa 3 ca]) mcAA) (hb:ByIn w (.slice A n c) bs) (hn:bs.length=n) (hnl:n<=900000) (hby:∀b∈bs,b<256) (hi:i<=n)
  (hR:rchF mcAA (bs.drop i) 0 i=R) (hRl:R.length<=1000000) (hRb:∀t∈R,t<=1000000)
  (hclr:∀W t,Below w.heap.size w W->t∈R->Calls Tryz.prog 99 #[.agg #[.string nmX, .int .i64 4, .slice none 0 0, .slice (some ⟨g,0,none⟩) 1 1, .int .i64 1, .int .i64 2, .bool false, .int .i64 0, .int .i64 0, .slice none 0 0, .int .i64 0], .slice A n c, .int .i64 (i:Int), .int .i64 (t:Int)] W λe w'=>e = .returned (.bool (clr t))/\Below W.heap.size W w') :
  Calls Tryz.prog 61 #[.agg #[.string nmX, .int .i64 4, .slice none 0 0, .slice (some ⟨g,0,none⟩) 1 1, .int .i64 1, .int .i64 2, .bool false, .int .i64 0, .int .i64 0, .slice none 0 0, .int .i64 0, .slice Ae 3 ce, .slice Aa 3 ca], .slice A n c, .int .i64 (i:Int)] w λe w'=>e = .returned (.tuple #[.int .i64 (((choF R i clr).getD 0:Nat):Int), .bool (choF R i clr).isSome])/\Below w.heap.size w w':=
 zDN ⟨nmX,4,none,0,0,some ⟨g,0,none⟩,1,1,1,2,false,0,0,none,0,0,0⟩ mcAA Ae Aa A 3 3 ce ca n c i bs R clr w hm ⟨canon_AA.len,canon_AA.srt,canon_AA.to⟩ ⟨by decide,by decide,by decide⟩ (by decide) hb hn hnl hby hi hR hRl hRb hclr
end Go.Proofs.YtadjdkickjjieaaGreatDoor
namespace Go.Proofs.YtadjdkickjjieaaGreatDoor
set_option linter.unusedVariables false
set_option linter.unusedSimpArgs false
set_option maxRecDepth 100000
open Go.RowKit
theorem zHy (g:Nat) (A:Option Addr) (n c i t:Nat) (w:World):Calls Tryz.prog 99 #[.agg #[.string nmX, .int .i64 4, .slice none 0 0, .slice (some ⟨g,0,none⟩) 1 1, .int .i64 1, .int .i64 2, .bool false, .int .i64 0, .int .i64 0, .slice none 0 0, .int .i64 0], .slice A n c, .int .i64 (i:Int), .int .i64 (t:Int)] w λe w'=>e = .returned (.bool (decide (i<=t) && decide (t<=n)))/\Below w.heap.size w w':=by
 obtain ⟨b,hb⟩:∃b,(decide (i<=t) && decide (t<=n))=b:=⟨_,rfl⟩;have HW:=Lib.hid λW=>zGh A n c i t W;rw[hb]at HW|-;clear hb
 go_enter Tryz.func99,Tryz.ntmps99
 go_wp2_with fail;refine zAM λW0 hW0=>?_;have hb0:Below w.heap.size w W0:=by rw[hW0];exact (Below.refl _ _).alloc (Nat.le_refl _) _
 have hK:bxK g w.heap.size W0:=by rw[hW0];exact heap_alloc_new w _
 have H0:=Lib.hid hb0;obtain ⟨-,⟨c6,-,-,-,-⟩,lb⟩:=hK.cells;clear hW0 hb0 hK;refine (HW.out W0).mono ?_;rintro e w1 ⟨rfl,rfl⟩
 cases b with
 | false=>
  go_wp2_with fail;go_ret;exact ⟨rfl,H0.out⟩
 | true=>
  go_wp2_with fail;go_ret;exact ⟨rfl,H0.out⟩
theorem zGN:(Tryz.prog.info? 80).map (λi=>(i.zero,i.size,i.bytes))=some (some (.agg #[.int .i64 0, .int .i64 0, .int .i64 0]),3,24):=by kernel_rfl
def RnB (b k:Nat) (xs:List Value) (w:World):Prop:=∃A c,w.heap[b]?=some (.cells #[.slice A k c] 36 (0,0))/\w.ownsRow (b+1) 80 3 (.slice A k c) k xs
theorem RnB.later {b k:Nat} {xs:List Value} {w w':World} (h:RnB b k xs w) (hb:Below w.heap.size w w'):RnB b k xs w':=by
 obtain ⟨A,c,h1,h2⟩:=h;exact ⟨A,c,(hb.block b (Array.getElem?_eq_some_iff.1 h1).1).trans h1,zAb h2 hb⟩
set_option maxHeartbeats 4000000 in
theorem zH0 (b k a z:Nat) (xs:List Value) (w:World) (h:RnB b k xs w) (hk:k<=1000):Calls Tryz.prog 33 #[.int .i64 (a:Int), .int .i64 (z:Int), .pointer (some ⟨b,0,none⟩)] w λe w'=>(∃v,e = .returned v)/\RnB b (k+1) (xs++[.int .i64 0, .int .i64 (a:Int), .int .i64 (z:Int)]) w'/\Below b w w'/\∀q T cs m,q≠b->T≠80->w.heap[q]?=some (.cells cs T m)->w'.heap[q]?=some (.cells cs T m):=by
 obtain ⟨A,c,h1,h2⟩:=h;obtain ⟨ie,hie,hk0,hk1,hk2⟩:=info_parts zGN;have b0:w.cell? ⟨b,0,none⟩=some (.slice A k c):=by rw[cell_of_row _ _ _ _ _ _ h1];rfl
 have fb:w.frozen? ⟨b,0,none⟩=false:=by simp[World.frozen?,h1]
 have lb:b<w.heap.size:=(Array.getElem?_eq_some_iff.1 h1).1;have hown:=World.ownsRow.alloc h2 (.cells #[.int .i64 0, .int .i64 (a:Int), .int .i64 (z:Int)] 80);have hcx:∀j u,[Value.int .i64 0, .int .i64 (a:Int), .int .i64 (z:Int)][j]?=some u->(w.alloc (.cells #[.int .i64 0, .int .i64 (a:Int), .int .i64 (z:Int)] 80)).cell? ((⟨w.heap.size,0,none⟩:Addr).add j)=some u:=by
  intro j u hj;rw[Addr.add_lit,Nat.zero_add,World.cell?_alloc_mark];simpa using hj
 have hbz:b+1<=(w.alloc (.cells #[.int .i64 0, .int .i64 (a:Int), .int .i64 (z:Int)] 80)).heap.size:=by simp;omega
 have H:=Lib.hid (And.intro h1 h2);clear h1 h2
 go_enter Tryz.func33,Tryz.ntmps33
 go_wp2_with (at_builtin; refine zAt rfl _ _ 36 rfl (b+1) 80 ie _ 3 24 Tryz.underlying36 hie hk0 hk1 hk2 rfl (by decide) _ k xs rfl hown ⟨w.heap.size,0,none⟩ 1 1 [.int .i64 0, .int .i64 (a:Int), .int .i64 (z:Int)] rfl rfl hcx (by intro u hu; simp only[List.mem_cons,List.not_mem_nil,or_false]at hu; rcases hu with rfl | rfl | rfl <;> rfl) (by unfold maxLen; omega) (by omega) hbz ?_)
 intro v9 w9 hown9 hg9 hf9;obtain ⟨A9,c9,rfl,-,-⟩:=zAC hown9;have hb1:(w.alloc (.cells #[.int .i64 0, .int .i64 (a:Int), .int .i64 (z:Int)] 80)).heap[b]?=some (.cells #[.slice A k c] 36 (0,0)):=(zAI _ _ _ lb).trans H.out.1;have hbb:w9.heap[b]?=some (.cells #[.slice A k c] 36 (0,0)):=(hg9.block b (by simp;omega) (λe=>by have:=(hown.lt b e.symm).1;omega)).trans hb1
 have z0:w9.cell? ⟨b,0,none⟩=some (.slice A k c):=by rw[cell_of_row _ _ _ _ _ _ hbb];rfl
 have z1:w9.frozen? ⟨b,0,none⟩=false:=by simp[World.frozen?,hbb]
 have z2:b<w9.heap.size:=(Array.getElem?_eq_some_iff.1 hbb).1;have hB9:Below b w w9:=((Below.refl b w).alloc (by omega) _).grown hg9 (by simp;omega) (λq hq=>by have:=(hown.lt q hq).1;omega)
 have hty:∀q T cs m,q≠b->T≠80->w.heap[q]?=some (.cells cs T m)->w9.heap[q]?=some (.cells cs T m):=λq T cs m hq hT hw=>by
  have hl:=(Array.getElem?_eq_some_iff.1 hw).1;refine (hg9.block q (by simp;omega) (λe=>?_)).trans ((zAI _ _ _ hl).trans hw)
  obtain ⟨cs',m',h9⟩:=zA1 H.out.2 q e.symm;rw[hw]at h9;injection h9 with h9;injection h9 with _ h9 _;exact hT h9
 have H9:=Lib.hid (And.intro hown9 (And.intro hbb (And.intro hB9 hty)));clear hown9 hg9 hf9 hb1 hbb hB9 hty hown hcx hbz;go_wp2_with fail
 go_end0
 refine ⟨⟨_,rfl⟩,⟨A9,c9,by have:=zAR H9.out.2.1 0 (.slice A9 (k+1) c9);simpa using this,zAN H9.out.1 λq hq=>Below.heap_setCell _ ⟨b,0,none⟩ _ q (λe=>by have:=(H9.out.1.lt q hq).1;have e':q=b:=e;omega)⟩,H9.out.2.2.1.setCell (p:=⟨b,0,none⟩) (Nat.le_refl _) _,λq T cs m hq hT hw=>(Below.heap_setCell _ ⟨b,0,none⟩ _ q hq).trans (H9.out.2.2.2 q T cs m hq hT hw)⟩
theorem ch_0 (g:Nat) (Ae Aa A:Option Addr) (ce ca c:Nat) (w:World) (hm:McIn w (.agg #[.slice Ae 3 ce, .slice Aa 3 ca]) mcAA) (hb:ByIn w (.slice A 3 c) [97,97,97]):Calls Tryz.prog 61 #[.agg #[.string nmX, .int .i64 4, .slice none 0 0, .slice (some ⟨g,0,none⟩) 1 1, .int .i64 1, .int .i64 2, .bool false, .int .i64 0, .int .i64 0, .slice none 0 0, .int .i64 0, .slice Ae 3 ce, .slice Aa 3 ca], .slice A 3 c, .int .i64 0] w λe w'=>e = .returned (.tuple #[.int .i64 2, .bool true])/\Below w.heap.size w w':=by
 have h:=zFS g Ae Aa A ce ca 3 c 0 [97,97,97] [1,2] (λt=>decide (0<=t) && decide (t<=3)) w hm hb rfl (by decide) (by decide) (by decide) (by decide) (by decide) (by decide) (λW' t _ _=>zHy g A 3 c 0 t W')
 have hc:choF [1,2] 0 (λt=>decide (0<=t) && decide (t<=3))=some 2:=by decide
 rw[hc]at h;exact h
theorem ch_2 (g:Nat) (Ae Aa A:Option Addr) (ce ca c:Nat) (w:World) (hm:McIn w (.agg #[.slice Ae 3 ce, .slice Aa 3 ca]) mcAA) (hb:ByIn w (.slice A 3 c) [97,97,97]):Calls Tryz.prog 61 #[.agg #[.string nmX, .int .i64 4, .slice none 0 0, .slice (some ⟨g,0,none⟩) 1 1, .int .i64 1, .int .i64 2, .bool false, .int .i64 0, .int .i64 0, .slice none 0 0, .int .i64 0, .slice Ae 3 ce, .slice Aa 3 ca], .slice A 3 c, .int .i64 2] w λe w'=>e = .returned (.tuple #[.int .i64 3, .bool true])/\Below w.heap.size w w':=by
 have h:=zFS g Ae Aa A ce ca 3 c 2 [97,97,97] [3] (λt=>decide (2<=t) && decide (t<=3)) w hm hb rfl (by decide) (by decide) (by decide) (by decide) (by decide) (by decide) (λW' t _ _=>zHy g A 3 c 2 t W')
 have hc:choF [3] 2 (λt=>decide (2<=t) && decide (t<=3))=some 3:=by decide
 rw[hc]at h;exact h
set_option maxHeartbeats 8000000 in
theorem zJL (g b:Nat) (Ae Aa A:Option Addr) (ce ca c:Nat) (w:World) (hmb:∀W,Below b w W->McIn W (.agg #[.slice Ae 3 ce, .slice Aa 3 ca]) mcAA/\ByIn W (.slice A 3 c) [97,97,97]) (h:RnB b 0 [] w):Calls Tryz.prog 32 #[.agg #[.string nmX, .int .i64 4, .slice none 0 0, .slice (some ⟨g,0,none⟩) 1 1, .int .i64 1, .int .i64 2, .bool false, .int .i64 0, .int .i64 0, .slice none 0 0, .int .i64 0, .slice Ae 3 ce, .slice Aa 3 ca], .slice A 3 c, .func (.func 33) #[] #[.pointer (some ⟨b,0,none⟩)]] w λe w'=>(∃v,e = .returned v)/\RnB b 2 [.int .i64 0, .int .i64 0, .int .i64 2, .int .i64 0, .int .i64 2, .int .i64 3] w'/\Below b w w':=by
 have lb:b<w.heap.size:=by obtain ⟨A,c,h1,-⟩:=h;exact (Array.getElem?_eq_some_iff.1 h1).1
 have HM:=Lib.hid hmb;have HR:=Lib.hid h;clear hmb h
 go_enter Tryz.func32,Tryz.ntmps32
 go_wp2_with fail;refine zBl λW0 hW0=>?_;have hb0:Below w.heap.size w W0:=by rw[hW0];exact (Below.refl _ _).alloc (Nat.le_refl _) _
 have hF:W0.heap[w.heap.size]?=some (.cells #[.string nmX, .int .i64 4, .slice none 0 0, .slice (some ⟨g,0,none⟩) 1 1, .int .i64 1, .int .i64 2, .bool false, .int .i64 0, .int .i64 0, .slice none 0 0, .int .i64 0, .slice Ae 3 ce, .slice Aa 3 ca] 75 (0,0)):=by rw[hW0];exact heap_alloc_new w _
 have H0:=Lib.hid (And.intro (hb0.mono (Nat.le_of_lt lb)) (And.intro hF (HR.out.later hb0)));have a0:W0.cell? ⟨w.heap.size,0,none⟩=some (.string nmX):=by rw[cell_of_row _ _ _ _ _ _ hF];rfl
 have a1:W0.cell? ⟨w.heap.size,1,none⟩=some (.int .i64 4):=by rw[cell_of_row _ _ _ _ _ _ hF];rfl
 have a2:W0.cell? ⟨w.heap.size,2,none⟩=some (.slice none 0 0):=by rw[cell_of_row _ _ _ _ _ _ hF];rfl
 have a3:W0.cell? ⟨w.heap.size,3,none⟩=some (.slice (some ⟨g,0,none⟩) 1 1):=by rw[cell_of_row _ _ _ _ _ _ hF];rfl
 have a4:W0.cell? ⟨w.heap.size,4,none⟩=some (.int .i64 1):=by rw[cell_of_row _ _ _ _ _ _ hF];rfl
 have a5:W0.cell? ⟨w.heap.size,5,none⟩=some (.int .i64 2):=by rw[cell_of_row _ _ _ _ _ _ hF];rfl
 have a6:W0.cell? ⟨w.heap.size,6,none⟩=some (.bool false):=by rw[cell_of_row _ _ _ _ _ _ hF];rfl
 have a7:W0.cell? ⟨w.heap.size,7,none⟩=some (.int .i64 0):=by rw[cell_of_row _ _ _ _ _ _ hF];rfl
 have a8:W0.cell? ⟨w.heap.size,8,none⟩=some (.int .i64 0):=by rw[cell_of_row _ _ _ _ _ _ hF];rfl
 have a9:W0.cell? ⟨w.heap.size,9,none⟩=some (.slice none 0 0):=by rw[cell_of_row _ _ _ _ _ _ hF];rfl
 have a10:W0.cell? ⟨w.heap.size,10,none⟩=some (.int .i64 0):=by rw[cell_of_row _ _ _ _ _ _ hF];rfl
 have a11:W0.cell? ⟨w.heap.size,11,none⟩=some (.slice Ae 3 ce):=by rw[cell_of_row _ _ _ _ _ _ hF];rfl
 have a12:W0.cell? ⟨w.heap.size,12,none⟩=some (.slice Aa 3 ca):=by rw[cell_of_row _ _ _ _ _ _ hF];rfl
 have lf:w.heap.size<W0.heap.size:=(Array.getElem?_eq_some_iff.1 hF).1;clear hW0 hb0 hF;refine wp_loop_rounds 3 ?_;rw[rounds_succ];go_wp2_with fail;refine (ch_0 g Ae Aa A ce ca c W0 (HM.out W0 H0.out.1).1 (HM.out W0 H0.out.1).2).mono ?_;rintro e w1 ⟨rfl,hb1⟩;have hz0:=lf;clear a0 a1 a2 a3 a4 a5 a6 a7 a8 a9 a10 a11 a12 lf;have H1:=Lib.hid (And.intro (H0.out.1.trans (hb1.mono (by omega))) (And.intro ((hb1.block w.heap.size hz0).trans H0.out.2.1) (H0.out.2.2.later hb1)))
 clear hb1;go_wp2_with fail;refine (zH0 b 0 0 2 [] w1 H1.out.2.2 (by decide)).mono ?_
 rintro e w2 ⟨⟨v2,rfl⟩,hr2,hb2,ht2⟩;have hF2:=ht2 w.heap.size _ _ _ (by omega) (by decide) H1.out.2.1
 have H2:=Lib.hid (And.intro (H1.out.1.trans hb2) (And.intro hF2 hr2));have a0:w2.cell? ⟨w.heap.size,0,none⟩=some (.string nmX):=by rw[cell_of_row _ _ _ _ _ _ hF2];rfl
 have a1:w2.cell? ⟨w.heap.size,1,none⟩=some (.int .i64 4):=by rw[cell_of_row _ _ _ _ _ _ hF2];rfl
 have a2:w2.cell? ⟨w.heap.size,2,none⟩=some (.slice none 0 0):=by rw[cell_of_row _ _ _ _ _ _ hF2];rfl
 have a3:w2.cell? ⟨w.heap.size,3,none⟩=some (.slice (some ⟨g,0,none⟩) 1 1):=by rw[cell_of_row _ _ _ _ _ _ hF2];rfl
 have a4:w2.cell? ⟨w.heap.size,4,none⟩=some (.int .i64 1):=by rw[cell_of_row _ _ _ _ _ _ hF2];rfl
 have a5:w2.cell? ⟨w.heap.size,5,none⟩=some (.int .i64 2):=by rw[cell_of_row _ _ _ _ _ _ hF2];rfl
 have a6:w2.cell? ⟨w.heap.size,6,none⟩=some (.bool false):=by rw[cell_of_row _ _ _ _ _ _ hF2];rfl
 have a7:w2.cell? ⟨w.heap.size,7,none⟩=some (.int .i64 0):=by rw[cell_of_row _ _ _ _ _ _ hF2];rfl
 have a8:w2.cell? ⟨w.heap.size,8,none⟩=some (.int .i64 0):=by rw[cell_of_row _ _ _ _ _ _ hF2];rfl
 have a9:w2.cell? ⟨w.heap.size,9,none⟩=some (.slice none 0 0):=by rw[cell_of_row _ _ _ _ _ _ hF2];rfl
 have a10:w2.cell? ⟨w.heap.size,10,none⟩=some (.int .i64 0):=by rw[cell_of_row _ _ _ _ _ _ hF2];rfl
 have a11:w2.cell? ⟨w.heap.size,11,none⟩=some (.slice Ae 3 ce):=by rw[cell_of_row _ _ _ _ _ _ hF2];rfl
 have a12:w2.cell? ⟨w.heap.size,12,none⟩=some (.slice Aa 3 ca):=by rw[cell_of_row _ _ _ _ _ _ hF2];rfl
 have lf:w.heap.size<w2.heap.size:=(Array.getElem?_eq_some_iff.1 hF2).1;clear hr2 hb2 ht2 hF2;go_wp2_with fail;rw[rounds_succ];go_wp2_with fail;refine (ch_2 g Ae Aa A ce ca c w2 (HM.out w2 H2.out.1).1 (HM.out w2 H2.out.1).2).mono ?_;rintro e w3 ⟨rfl,hb3⟩;have hz2:=lf;clear a0 a1 a2 a3 a4 a5 a6 a7 a8 a9 a10 a11 a12 lf;have H3:=Lib.hid (And.intro (H2.out.1.trans (hb3.mono (by omega))) (H2.out.2.2.later hb3))
 clear hb3;go_wp2_with fail;refine (zH0 b 1 2 3 _ w3 H3.out.2 (by decide)).mono ?_
 rintro e w4 ⟨⟨v4,rfl⟩,hr4,hb4,-⟩;have H4:=Lib.hid (And.intro (H3.out.1.trans hb4) hr4);clear hr4 hb4;go_wp2_with fail;rw[rounds_succ];go_wp2_with fail
 go_end0
 exact ⟨⟨_,rfl⟩,H4.out.2,H4.out.1⟩
theorem zFT {w:World} {B B' k n:Nat} {e:TypeId} {v:Value} {xs:List Value} (h:w.ownsRow B e k v n xs) (hB:B'<=B):w.ownsRow B' e k v n xs:=by
 refine ⟨h.1,h.2.imp id ?_⟩;rintro ⟨g,cap,cur,h1,h2,h3⟩;exact ⟨g,cap,cur,h1,Nat.le_trans hB h2,h3⟩
set_option maxHeartbeats 16000000 in
theorem zHa (g q:Nat) (A:Option Addr) (c:Nat) (w:World) (h:LfA g q w) (hvr:VrOK w) (hby:ByIn w (.slice A 3 c) [97,97,97]):Calls Tryz.prog 10 #[.agg #[.string nmX, .int .i64 4, .slice none 0 0, .slice (some ⟨g,0,none⟩) 1 1, .int .i64 1, .int .i64 2, .bool false, .int .i64 0, .int .i64 0, .slice none 0 0, .int .i64 0], .slice A 3 c] w λe w'=>∃A2 c2,e = .returned (.tuple #[.slice A2 2 c2, .int .i64 0])/\w'.ownsRow 0 80 3 (.slice A2 2 c2) 2 [.int .i64 0, .int .i64 0, .int .i64 2, .int .i64 0, .int .i64 2, .int .i64 3]/\Below w.heap.size w w':=by
 have HFI:=Lib.hid λW (hb:Below w.heap.size w W)=>zKN g q W (h.later hb) (hvr.later hb);have HBY:=Lib.hid hby;clear h hvr hby
 go_enter Tryz.func10,Tryz.ntmps10
 go_wp2_with fail;refine zAM λW0 hW0=>?_;have hb0:Below w.heap.size w W0:=by rw[hW0];exact (Below.refl _ _).alloc (Nat.le_refl _) _
 have H0:=Lib.hid hb0;clear hW0 hb0;refine (HFI.out W0 H0.out).mono ?_;rintro e w1 ⟨Ae,ce,Aa,ca,rfl,hup,hb1⟩;have H1:=Lib.hid (And.intro (H0.out.trans (hb1.mono H0.out.size)) hup.mc);clear hup hb1;go_wp2_with fail;refine zAM λW3 hW3=>?_;have hb2:Below w1.heap.size w1 (w1.alloc (.cells #[.string nmX, .int .i64 4, .slice none 0 0, .slice (some ⟨g,0,none⟩) 1 1, .int .i64 1, .int .i64 2, .bool false, .int .i64 0, .int .i64 0, .slice none 0 0, .int .i64 0, .slice Ae 3 ce, .slice Aa 3 ca] 75)):=(Below.refl _ _).alloc (Nat.le_refl _) _;have hz2:(w1.alloc (.cells #[.string nmX, .int .i64 4, .slice none 0 0, .slice (some ⟨g,0,none⟩) 1 1, .int .i64 1, .int .i64 2, .bool false, .int .i64 0, .int .i64 0, .slice none 0 0, .int .i64 0, .slice Ae 3 ce, .slice Aa 3 ca] 75)).heap.size=w1.heap.size+1:=by simp
 have hb3:Below (w1.heap.size+1) (w1.alloc (.cells #[.string nmX, .int .i64 4, .slice none 0 0, .slice (some ⟨g,0,none⟩) 1 1, .int .i64 1, .int .i64 2, .bool false, .int .i64 0, .int .i64 0, .slice none 0 0, .int .i64 0, .slice Ae 3 ce, .slice Aa 3 ca] 75)) W3:=by rw[hW3];exact (Below.refl _ _).alloc (by simp) _
 have hRn:RnB (w1.heap.size+1) 0 [] W3:=by
  refine ⟨none,0,?_,World.ownsRow_nil _ _ _ _⟩;rw[hW3];simpa using heap_alloc_new (w1.alloc (.cells #[.string nmX, .int .i64 4, .slice none 0 0, .slice (some ⟨g,0,none⟩) 1 1, .int .i64 1, .int .i64 2, .bool false, .int .i64 0, .int .i64 0, .slice none 0 0, .int .i64 0, .slice Ae 3 ce, .slice Aa 3 ca] 75)) (.cells #[.slice none 0 0] 36)
 have hbw:Below w1.heap.size w1 W3:=hb2.trans (hb3.mono (by omega))
 have H3:=Lib.hid (And.intro hbw hRn);clear hW3 hb2 hz2 hb3 hRn hbw;refine (zJL g (w1.heap.size+1) Ae Aa A ce ca c W3 (λW hW=>⟨H1.out.2.later (H3.out.1.trans (hW.mono (by omega))),(HBY.out.later H1.out.1).later (H3.out.1.trans (hW.mono (by omega)))⟩) H3.out.2).mono ?_
 rintro e w4 ⟨⟨v4,rfl⟩,⟨A2,c2,h1,h2⟩,hb4⟩;have b0:w4.cell? ⟨w1.heap.size+1,0,none⟩=some (.slice A2 2 c2):=by rw[cell_of_row _ _ _ _ _ _ h1];rfl
 have lb:w1.heap.size+1<w4.heap.size:=(Array.getElem?_eq_some_iff.1 h1).1;have H4:=Lib.hid (And.intro (zFT h2 (Nat.zero_le _)) (H1.out.1.trans ((H3.out.1.trans (hb4.mono (by omega))).mono H1.out.1.size)))
 clear h1 h2 hb4;go_wp2_with fail
 go_ret2
 exact ⟨A2,c2,rfl,H4.out.1,H4.out.2⟩
set_option maxHeartbeats 8000000 in
theorem zHe (w:World) (hvr:VrOK w):Calls Tryz.prog 11 #[] w λe w'=>e = .returned (.bool true)/\Below w.heap.size w w':=by
 have HVR:=Lib.hid hvr;clear hvr
 go_enter Tryz.func11,Tryz.ntmps11
 go_wp2_with fail;refine (zKS w).mono ?_;rintro e w1 ⟨g,q,rfl,-,hlf,hb1⟩;have H1:=Lib.hid (And.intro hlf hb1);clear hlf hb1;have hcv:=Go.Joins.run_convert_bytes_const_at (P:=Tryz.prog) (w1.alloc (.cells #[.int .i64 4, .slice none 0 0, .slice (some ⟨g,0,none⟩) 1 1, .int .i64 1, .int .i64 2] 29)) 41 5 #[.int .u8 97, .int .u8 97, .int .u8 97] 3 3 (w1.heap.size+1) (by simp) Tryz.underlying41 Tryz.underlying5
 go_wp2_with fail;refine zAM λW0 hW0=>?_;have hb0:Below w1.heap.size w1 W0:=by rw[hW0];exact ((Below.refl _ _).alloc (Nat.le_refl _) _).alloc (by simp) _
 have hby:ByIn W0 (.slice (some ⟨w1.heap.size+1,0,none⟩) 3 3) [97,97,97]:=by
  have hr:W0.heap[w1.heap.size+1]?=some (.cells #[.int .u8 97, .int .u8 97, .int .u8 97] 5 (3,4)):=by rw[hW0];simpa using heap_alloc_new (w1.alloc (.cells #[.int .i64 4, .slice none 0 0, .slice (some ⟨g,0,none⟩) 1 1, .int .i64 1, .int .i64 2] 29)) (.cells #[.int .u8 97, .int .u8 97, .int .u8 97] 5 (3,4))
  refine ⟨_,3,rfl,by simp, .inr ⟨w1.heap.size+1,0,rfl,(Array.getElem?_eq_some_iff.1 hr).1,λi hi=>?_⟩⟩
  rw[cell_of_row _ _ _ _ _ _ hr]
  match i,hi with
  | 0,_=>rfl
  | 1,_=>rfl
  | 2,_=>rfl
 have H0:=Lib.hid (And.intro (H1.out.2.trans (hb0.mono H1.out.2.size)) (And.intro (H1.out.1.later hb0) hby));clear hW0 hb0 hby hcv;refine (zHa g q _ 3 W0 H0.out.2.1 (HVR.out.later H0.out.1) H0.out.2.2).mono ?_;rintro e w2 ⟨A2,c2,rfl,hown,hb2⟩;have H2:=Lib.hid (H0.out.1.trans (hb2.mono H0.out.1.size));obtain ⟨g2,hA2,lg,hcs⟩:∃g2,A2=some ⟨g2,0,none⟩/\g2<w2.heap.size/\∀j,j<6->w2.cell? ⟨g2,j,none⟩=([.int .i64 0, .int .i64 0, .int .i64 2, .int .i64 0, .int .i64 2, .int .i64 3]:List Value)[j]?:=by
  rcases hown.2 with ⟨h1,h9⟩ | ⟨g,cap,cur,h1,hB,hg,-⟩
  .cases h9
  .injection h1 with h1 _ h3;subst h1 h3;exact ⟨g,rfl,(Array.getElem?_eq_some_iff.1 hg).1,λj hj=>World.ownsRow.cellAt hown j (by omega)⟩
 subst hA2;have k0:w2.cell? ⟨g2,0,none⟩=some (.int .i64 0):=hcs 0 (by decide)
 have k1:w2.cell? ⟨g2,1,none⟩=some (.int .i64 0):=hcs 1 (by decide)
 have k2:w2.cell? ⟨g2,2,none⟩=some (.int .i64 2):=hcs 2 (by decide)
 have k3:w2.cell? ⟨g2,3,none⟩=some (.int .i64 0):=hcs 3 (by decide)
 have k4:w2.cell? ⟨g2,4,none⟩=some (.int .i64 2):=hcs 4 (by decide)
 have k5:w2.cell? ⟨g2,5,none⟩=some (.int .i64 3):=hcs 5 (by decide)
 clear hown hb2 hcs;go_wp2_with fail;go_ret;exact ⟨rfl,H2.out⟩
end Go.Proofs.YtadjdkickjjieaaGreatDoor
