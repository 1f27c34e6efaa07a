/- Walks. -/
import Derived.Test.YtdmoogjddmdmbaaGreatDoorV30
import Derived.Test.YtdmoogjddmdmbaaGreatDoorV15
import Derived.Test.YtdmoogjddmdmbaaGreatDoorV34
import Derived.Test.YtdmoogjddmdmbaaGreatDoorV25
import Derived.Test.YtdmoogjddmdmbaaGreatDoorV12
set_option maxRecDepth 100000
set_option maxHeartbeats 16000000
set_option linter.unusedVariables false
set_option linter.unusedSimpArgs false
namespace Go.Proofs.YtdmoogjddmdmbaaGreatDoor
section
set_option linter.unusedVariables false
set_option linter.unusedSimpArgs false
open Go.RowKit Go.Shelf
attribute [local go_sem] Oper.semAt_some
theorem EH {F:Fence} {n:Nat} {P:Program} {f:FuncId} {args:Array Value} {Q:Ending->World->Prop} {w:World} (h:∀W,W=w->CallsIn F n P f args W Q):CallsIn F n P f args w Q:=h w rfl
theorem Gw (p:Nat->Bool):∀(L:List Nat) (k:Nat),k<L.length->(∀x,x<k->p ((L[x]?).getD 0)=false)->p ((L[k]?).getD 0)=true->L.find? p=some ((L[k]?).getD 0)
 | a::L,0,_,_,h2=>by
  have h2:p a=true:=h2;rw[List.find?_cons,h2];rfl
 | a::L,k+1,hk,h1,h2=>by
  have h0:p a=false:=h1 0 (by omega)
  rw[List.find?_cons,h0];exact Gw p L k (by simpa using hk) (λx hx=>h1 (x+1) (by omega)) h2
theorem Gx (p:Nat->Bool):∀(L:List Nat),(∀x,x<L.length->p ((L[x]?).getD 0)=false)->L.find? p=none
 | [],_=>rfl
 | a::L,h=>by
  have h0:p a=false:=h 0 (by simp)
  rw[List.find?_cons,h0];exact Gx p L λx hx=>h (x+1) (by simpa using hx)
theorem sZ {R:List Nat} {x:Nat} (h:x<R.length):qR R x=((R.reverse)[x]?).getD 0:=by unfold qR;rw[List.getElem?_reverse h]
theorem QB {R:List Nat} {x:Nat} (h:0<R.length):qR R x∈R:=by
 unfold qR;rw[List.getElem?_eq_getElem (by omega)]
 exact List.getElem_mem _
theorem I5 {R:List Nat} {i k:Nat} {pV:Nat->Bool} (hk:k<R.length) (h1:∀x,x<k->(decide (i<qR R x) && pV (qR R x))=false) (h2:(decide (i<qR R k) && pV (qR R k))=true):ze R i pV=some (qR R k):=by
 rw[sZ hk];exact Gw _ R.reverse k (by simpa using hk) (λx hx=>by rw[<-sZ (by omega)];exact h1 x hx) (by rw[<-sZ hk];exact h2)
theorem I6 {R:List Nat} {i:Nat} {pV:Nat->Bool} (h1:∀x,x<R.length->(decide (i<qR R x) && pV (qR R x))=false):ze R i pV=none:=
 Gx _ R.reverse λx hx=>by rw[List.length_reverse]at hx;rw[<-sZ hx];exact h1 x hx
structure Gy (w:World) (fv:Array Value) (v:Value) (i:Nat) (r:Value) (ok:Bool) (W:World):Prop where
 b0:W.heap[w.heap.size]?=some (.cells fv 95 (0,0))
 b1:W.heap[w.heap.size+1]?=some (.cells #[v] 28 (0,0))
 b2:W.heap[w.heap.size+2]?=some (.cells #[.int .i64 (i:Int)] 3 (0,0))
 b3:W.heap[w.heap.size+3]?=some (.cells #[r] 3 (0,0))
 b4:W.heap[w.heap.size+4]?=some (.cells #[.bool ok] 4 (0,0))
 eP:Below w.heap.size w W
theorem Gy.lt {w:World} {fv:Array Value} {v r:Value} {i:Nat} {ok:Bool} {W:World} (h:Gy w fv v i r ok W):w.heap.size+4<W.heap.size:=(Array.getElem?_eq_some_iff.1 h.b4).1
theorem Gy.to {w:World} {fv:Array Value} {v r:Value} {i:Nat} {ok:Bool} {W W':World} (h:Gy w fv v i r ok W) (hs:W.heap.size<=W'.heap.size) (ho:W'.os=W.os/\W'.tape=W.tape/\W'.output=W.output) (hb:∀k,k<w.heap.size+5->W'.heap[k]?=W.heap[k]?):Gy w fv v i r ok W':=
 ⟨(hb _ (by omega)).trans h.b0,(hb _ (by omega)).trans h.b1,(hb _ (by omega)).trans h.b2,(hb _ (by omega)).trans h.b3,(hb _ (by omega)).trans h.b4,⟨ho.1.trans h.eP.os,ho.2.1.trans h.eP.tape,ho.2.2.trans h.eP.output,Nat.le_trans h.eP.size hs,λk hk=>(hb k (by omega)).trans (h.eP.block k hk)⟩⟩
theorem Gy.later {w:World} {fv:Array Value} {v r:Value} {i:Nat} {ok:Bool} {W W':World} (h:Gy w fv v i r ok W) (hb:Below W.heap.size W W'):Gy w fv v i r ok W':=
 h.to hb.size ⟨hb.os,hb.tape,hb.output⟩ λk hk=>hb.block k (by have:=h.lt;omega)
theorem Gy.put {w:World} {fv:Array Value} {v r:Value} {i:Nat} {ok:Bool} {W:World} (h:Gy w fv v i r ok W) (r':Value) (ok':Bool):Gy w fv v i r' ok' ((W.setCell ⟨w.heap.size+3,0,none⟩ r').setCell ⟨w.heap.size+4,0,none⟩ (.bool ok')):=by
 have hs:∀k,k≠w.heap.size+3->k≠w.heap.size+4->((W.setCell ⟨w.heap.size+3,0,none⟩ r').setCell ⟨w.heap.size+4,0,none⟩ (.bool ok')).heap[k]?=W.heap[k]?:=λk h1 h2=>(Below.heap_setCell _ ⟨w.heap.size+4,0,none⟩ _ k h2).trans (Below.heap_setCell _ ⟨w.heap.size+3,0,none⟩ _ k h1);refine ⟨(hs _ (by omega) (by omega)).trans h.b0,(hs _ (by omega) (by omega)).trans h.b1,(hs _ (by omega) (by omega)).trans h.b2,?_,?_,⟨h.eP.os,h.eP.tape,h.eP.output,by have:=h.eP.size;simpa [World.setCell] using this,λk hk=>(hs k (by omega) (by omega)).trans (h.eP.block k hk)⟩⟩
 .exact (Below.heap_setCell _ ⟨w.heap.size+4,0,none⟩ _ _ (by show w.heap.size+3≠w.heap.size+4;omega)).trans (by have:=bh h.b3 0 r';simpa using this)
 .have:=bh ((Below.heap_setCell W ⟨w.heap.size+3,0,none⟩ r' (w.heap.size+4) (by show w.heap.size+4≠w.heap.size+3;omega)).trans h.b4) 0 (.bool ok')
  simpa using this
def ChI (w w2:World) (fv:Array Value) (v:Value) (i:Nat) (R:List Nat) (pV:Nat->Bool) (pre:List Nat) (W:World):Prop:=(Gy w fv v i (.int .i64 0) false W/\Below w2.heap.size w2 W)/\∀x∈pre,(decide (i<qR R x) && pV (qR R x))=false
def ChX (w:World) (fv:Array Value) (v:Value) (i:Nat) (R:List Nat) (pV:Nat->Bool) (c:Code) (pre:List Nat) (W:World):Prop:=c = .ret/\∃q x,pre=q++[x]/\(∀x∈q,(decide (i<qR R x) && pV (qR R x))=false)/\(decide (i<qR R x) && pV (qR R x))=true/\Gy w fv v i (.int .i64 ((qR R x:Nat):Int)) true W
theorem ChI.own (w w2:World) (fv:Array Value) (v:Value) (i:Nat) (R:List Nat) (pV:Nat->Bool) (h:w.heap.size+5<=w2.heap.size):OwnFrom w2.heap.size (ChI w w2 fv v i R pV):=by
 rintro s W W' row ⟨⟨h1,h2⟩,h3⟩ hg hr;refine ⟨⟨h1.to hg.size ⟨hg.os,hg.tape,hg.output⟩ λk hk=>hg.block k (by have:=h1.lt;omega) (λe=>by have:=(hr _ e.symm).1;omega),h2.grown hg h2.size (λk hk=>by have:=(hr k hk).1;omega)⟩,h3⟩
theorem ChX.own (w:World) (B:Nat) (fv:Array Value) (v:Value) (i:Nat) (R:List Nat) (pV:Nat->Bool) (h:w.heap.size+5<=B) (c:Code):OwnFrom B (ChX w fv v i R pV c):=by
 rintro s W W' row ⟨h1,q,x,h2,h3,h4,h5⟩ hg hr;exact ⟨h1,q,x,h2,h3,h4,h5.to hg.size ⟨hg.os,hg.tape,hg.output⟩ λk hk=>hg.block k (by have:=h5.lt;omega) (λe=>by have:=(hr _ e.symm).1;omega)⟩
set_option maxRecDepth 100000 in
set_option maxHeartbeats 8000000 in
theorem BR (u:KC) (m:Mc) (Ae Aa A:Option Addr) (ne na ce ca n c i:Nat) (bs R:List Nat) (pV:Nat->Bool) (w:World) (hm:ia w (.agg #[.slice Ae ne ce, .slice Aa na ca]) m) (hvl:pL m) (IU:sf m) (tY:1<=m.ed.length) (hb:lU w (.slice A n c) bs) (hn:bs.length=n) (lZ:n<=900000) (fO:∀b∈bs,b<256) (hi:i<=n)
  (hR:gL m (bs.drop i) 0 i=R) (hRl:R.length<=1000000) (hRb:∀t∈R,t<=1000000)
  (aaO:∀W t,Below w.heap.size w W->t∈R->Calls Tryz.prog 95 #[.agg #[.string u.nm, .int .i64 u.op, .slice u.a1 u.n1 u.c1, .slice u.a2 u.n2 u.c2, .int .i64 u.mn, .int .i64 u.mx, .bool u.wh, .int .i64 u.ck, .int .i64 u.en, .slice u.a3 u.n3 u.c3, .int .i64 u.nr], .slice A n c, .int .i64 (i:Int), .int .i64 (t:Int)] W λe w'=>e = .returned (.bool (pV t))/\Below W.heap.size W w') :
  Calls Tryz.prog 75 #[.agg #[.string u.nm, .int .i64 u.op, .slice u.a1 u.n1 u.c1, .slice u.a2 u.n2 u.c2, .int .i64 u.mn, .int .i64 u.mx, .bool u.wh, .int .i64 u.ck, .int .i64 u.en, .slice u.a3 u.n3 u.c3, .int .i64 u.nr, .slice Ae ne ce, .slice Aa na ca], .slice A n c, .int .i64 (i:Int)] w λe w'=>e = .returned (.tuple #[.int .i64 (((ze R i pV).getD 0:Nat):Int), .bool (ze R i pV).isSome])/\Below w.heap.size w w':=by
 have HRC:=Lib.hid λW (aP:Below w.heap.size w W)=>I7 _ (.slice A n c) m bs i W (hm.later aP) hvl IU tY (hb.later aP) (by omega) fO (by omega)
 rw[hR]at HRC;have lL:=Lib.hid aaO;have HL:=Lib.hid (And.intro hRl hRb);clear hm hvl IU tY hb fO hR aaO hRl hRb hn;refine (callsIn_wide (n:=7)).1 ?_;refine callsIn_of_wp_marks Tryz.func75 rfl trivial ?_ rfl;simp only[Tryz.ntmps75,List.size_toArray,List.length_cons,List.length_nil,Nat.reduceAdd,Nat.reduceSub,Array.replicate_succ,Array.replicate_zero,List.push_toArray,List.append_toArray,List.nil_append,List.cons_append]
 gi_wp2_with fail
 refine ⟨trivial,?_⟩;refine EH λW0 ik=>?_;have hC0:Gy w #[.string u.nm, .int .i64 u.op, .slice u.a1 u.n1 u.c1, .slice u.a2 u.n2 u.c2, .int .i64 u.mn, .int .i64 u.mx, .bool u.wh, .int .i64 u.ck, .int .i64 u.en, .slice u.a3 u.n3 u.c3, .int .i64 u.nr, .slice Ae ne ce, .slice Aa na ca] (.slice A n c) i (.int .i64 0) false W0:=by
  have Mj:W0=gM w [(#[.string u.nm, .int .i64 u.op, .slice u.a1 u.n1 u.c1, .slice u.a2 u.n2 u.c2, .int .i64 u.mn, .int .i64 u.mx, .bool u.wh, .int .i64 u.ck, .int .i64 u.en, .slice u.a3 u.n3 u.c3, .int .i64 u.nr, .slice Ae ne ce, .slice Aa na ca],95),(#[.slice A n c],28),(#[.int .i64 (i:Int)],3),(#[.int .i64 0],3),(#[.bool false],4)]:=by rw[ik];rfl
  rw[Mj];exact ⟨cX 0 rfl,cX 1 rfl,cX 2 rfl,cX 3 rfl,cX 4 rfl,fg _ _⟩
 have Ml:=Lib.hid hC0;clear ik hC0;refine (callsIn_wide.2 (HRC.out W0 Ml.out.eP)).mono ?_;rintro e w1 ⟨rv,rfl,hown,hb1⟩;obtain ⟨Ar,cr,rfl,-,-⟩:=ag (show w1.ownsRow _ _ _ _ _ _ from hown);obtain ⟨nr,nZ⟩:∃x,R.length=x:=⟨_,rfl⟩;have aq9:=(Ml.out.later hb1).lt;obtain ⟨gR,hgR,hA,hcR⟩:∃gR,gR<w1.heap.size/\(nr=0\/Ar=some ⟨gR,0,none⟩)/\∀j,j<nr->gR<w1.heap.size/\w1.cell? ⟨gR,0+j,none⟩=some (.int .i64 (((R[j]?).getD 0:Nat):Int)):=by
  obtain ⟨A',c',e,-,eA⟩:=hown.cells tZ;injection e with e1 _ _;rcases eA with hnil | ⟨gR,hA',-,hg,hcs⟩
  .exact ⟨0,by omega, .inl (by rw[<-nZ,hnil];rfl),λj hj=>by rw[<-nZ,hnil]at hj;cases hj⟩
  .refine ⟨gR,hg, .inr (e1.trans hA'),λj hj=>⟨hg,?_⟩⟩;have h9:=(hcs j (show j<R.length by omega) 0 (by decide)).1
   rw[Nat.mul_one,Nat.add_zero]at h9;rw[Nat.zero_add,h9,List.getElem?_eq_getElem (show j<R.length by omega)];rfl
 have L7:=Lib.hid (Ml.out.later hb1);have HA:=Lib.hid (And.intro hA hcR);have HN:=Lib.hid nZ;rw[nZ];clear hown hb1 hA hcR nZ
 gi_wp2_with fail
 refine ⟨trivial,?_⟩;refine (Qr Fence.wide _ trivial rfl _ _ _ _).mono ?_;rintro e w2 ⟨rfl,pq⟩;have aL:Below w1.heap.size w1 w2:=by rw[pq];exact (Below.refl _ _).alloc (Nat.le_refl _) _
 have Y1:w2.heap[w1.heap.size]?=some (.cells #[.slice Ar nr cr] 22 (0,0)):=by rw[pq];exact heap_alloc_new w1 _
 have Ex:=Lib.hid (L7.out.later aL);have Vc:=Lib.hid (And.intro aL Y1);clear pq aL Y1
 gi_wp2_with fail
 have Tx:=Ex.out;have lt2:=Tx.lt;have vS:w1.heap.size<w2.heap.size:=(Array.getElem?_eq_some_iff.1 Vc.out.2).1;have lt1:=L7.out.lt;have hI0:ChI w w2 #[.string u.nm, .int .i64 u.op, .slice u.a1 u.n1 u.c1, .slice u.a2 u.n2 u.c2, .int .i64 u.mn, .int .i64 u.mx, .bool u.wh, .int .i64 u.ck, .int .i64 u.en, .slice u.a3 u.n3 u.c3, .int .i64 u.nr, .slice Ae ne ce, .slice Aa na ca] (.slice A n c) i R pV [] w2:=⟨⟨Tx,Below.refl _ _⟩,λx hx=>by cases hx⟩
 refine wpIn_rangeFunc_ownG rfl (by omega) (gf:=121) (lb:=#[.pointer (some ⟨w1.heap.size,0,none⟩)]) rfl trivial (enters_of Tryz.func121 (by kernel_rfl) rfl)
  (Ew Fence.wide _ trivial rfl (by omega) w1.heap.size gR 0 Ar R nr cr HN.out (by have:=HL.out.1;have:=HN.out;omega) HA.out.1 w2 (by rw[cell_of_row _ _ _ _ _ _ Vc.out.2];rfl) vS (λj hj=>⟨Nat.lt_trans (HA.out.2 j hj).1 vS,(Vc.out.1.cell (p:=⟨gR,0+j,none⟩) (HA.out.2 j hj).1).trans (HA.out.2 j hj).2⟩)) IQ.trans
  (λW q o o' hq hW _ _=>⟨World.putObj_heap_other (by omega),World.putObj_heap_other (by omega)⟩) (Below.refl _ _) (λ_=>rfl)
  (ChI w w2 #[.string u.nm, .int .i64 u.op, .slice u.a1 u.n1 u.c1, .slice u.a2 u.n2 u.c2, .int .i64 u.mn, .int .i64 u.mx, .bool u.wh, .int .i64 u.ck, .int .i64 u.en, .slice u.a3 u.n3 u.c3, .int .i64 u.nr, .slice Ae ne ce, .slice Aa na ca] (.slice A n c) i R pV) (ChX w #[.string u.nm, .int .i64 u.op, .slice u.a1 u.n1 u.c1, .slice u.a2 u.n2 u.c2, .int .i64 u.mn, .int .i64 u.mx, .bool u.wh, .int .i64 u.ck, .int .i64 u.en, .slice u.a3 u.n3 u.c3, .int .i64 u.nr, .slice Ae ne ce, .slice Aa na ca] (.slice A n c) i R pV) (ChI.own w w2 _ _ i R pV (by omega)) (λc'=>ChX.own w w2.heap.size _ _ i R pV (by omega) c') hI0
  (λx=>{ tmps:=#[.agg #[.string u.nm, .int .i64 u.op, .slice u.a1 u.n1 u.c1, .slice u.a2 u.n2 u.c2, .int .i64 u.mn, .int .i64 u.mx, .bool u.wh, .int .i64 u.ck, .int .i64 u.en, .slice u.a3 u.n3 u.c3, .int .i64 u.nr, .slice Ae ne ce, .slice Aa na ca], .slice A n c, .int .i64 (i:Int), .pointer (some ⟨w.heap.size,0,none⟩), .pointer (some ⟨w.heap.size+1,0,none⟩), .pointer (some ⟨w.heap.size+1+1,0,none⟩), .pointer (some ⟨w.heap.size+1+1+1,0,none⟩), .pointer (some ⟨w.heap.size+1+1+1+1,0,none⟩),undef, .int .i64 ((qR R x:Nat):Int), .pointer (some ⟨w.heap.size,11,none⟩), .agg #[.slice Ae ne ce, .slice Aa na ca], .slice A n c, .int .i64 (i:Int), .slice Ar nr cr,
   .func (.func 121) #[] #[.pointer (some ⟨w1.heap.size,0,none⟩)], .int .i64 ((R.length:Int) - 1-x), .int .i64 ((qR R x:Nat):Int),undef,undef,undef,undef,undef,undef,undef,undef,undef,undef,undef,undef],defers:=[] }) ?assign ?body ?done ?stop
 case assign=>
  intro q x W K hK;unfold bkE
  gi_wp2
  exact hK
 case body=>
  rintro q pre x W ⟨⟨hC,oc⟩,dT⟩ hlt;have bW:qR R x∈R:=QB (by have:=HN.out;omega)
  have hvb:=HL.out.2 _ bW;obtain ⟨v,hv⟩:∃v,qR R x=v:=⟨_,rfl⟩;rw[hv]at bW hvb|-;have HCV:=Lib.hid (lL.out W v hC.eP bW);have HW:=Lib.hid (And.intro hC (And.intro oc (And.intro dT hv)));have ltW:=hC.lt;have a0:W.cell? ⟨w.heap.size,0,none⟩=some (.string u.nm):=by rw[cell_of_row _ _ _ _ _ _ hC.b0];rfl
  have a1:W.cell? ⟨w.heap.size,1,none⟩=some (.int .i64 u.op):=by rw[cell_of_row _ _ _ _ _ _ hC.b0];rfl
  have a2:W.cell? ⟨w.heap.size,2,none⟩=some (.slice u.a1 u.n1 u.c1):=by rw[cell_of_row _ _ _ _ _ _ hC.b0];rfl
  have a3:W.cell? ⟨w.heap.size,3,none⟩=some (.slice u.a2 u.n2 u.c2):=by rw[cell_of_row _ _ _ _ _ _ hC.b0];rfl
  have a4:W.cell? ⟨w.heap.size,4,none⟩=some (.int .i64 u.mn):=by rw[cell_of_row _ _ _ _ _ _ hC.b0];rfl
  have a5:W.cell? ⟨w.heap.size,5,none⟩=some (.int .i64 u.mx):=by rw[cell_of_row _ _ _ _ _ _ hC.b0];rfl
  have a6:W.cell? ⟨w.heap.size,6,none⟩=some (.bool u.wh):=by rw[cell_of_row _ _ _ _ _ _ hC.b0];rfl
  have a7:W.cell? ⟨w.heap.size,7,none⟩=some (.int .i64 u.ck):=by rw[cell_of_row _ _ _ _ _ _ hC.b0];rfl
  have a8:W.cell? ⟨w.heap.size,8,none⟩=some (.int .i64 u.en):=by rw[cell_of_row _ _ _ _ _ _ hC.b0];rfl
  have a9:W.cell? ⟨w.heap.size,9,none⟩=some (.slice u.a3 u.n3 u.c3):=by rw[cell_of_row _ _ _ _ _ _ hC.b0];rfl
  have a10:W.cell? ⟨w.heap.size,10,none⟩=some (.int .i64 u.nr):=by rw[cell_of_row _ _ _ _ _ _ hC.b0];rfl
  have a11:W.cell? ⟨w.heap.size+1,0,none⟩=some (.slice A n c):=by rw[cell_of_row _ _ _ _ _ _ hC.b1];rfl
  have a12:W.cell? ⟨w.heap.size+1+1,0,none⟩=some (.int .i64 (i:Int)):=by rw[cell_of_row _ _ _ _ _ _ hC.b2];rfl
  have l0:w.heap.size<W.heap.size:=by omega
  have l1:w.heap.size+1<W.heap.size:=by omega
  have l2:w.heap.size+1+1<W.heap.size:=by omega
  clear hC oc dT hv bW hI0 Tx;by_cases hiv:i<v
  .have d1:decide ((i:Int)<(v:Int))=true:=decide_eq_true (by omega)
   have KY:decide (i<v)=true:=decide_eq_true hiv
   gi_wp2_with fail
   refine ⟨trivial,(CallsIn.inRound q (callsIn_wide.2 HCV.out)).mono ?_⟩;rintro e w3 ⟨rfl,dc⟩;have Y2:=HW.out.1.later dc;have D4:=dc.size;have l3:w.heap.size+1+1+1<w3.heap.size:=by omega
   have l4:w.heap.size+1+1+1+1<w3.heap.size:=by omega
   have e3:w3.cell? ⟨w.heap.size+1+1+1,0,none⟩=some (.int .i64 0):=by rw[cell_of_row _ _ _ _ _ _ Y2.b3];rfl
   have e4:w3.cell? ⟨w.heap.size+1+1+1+1,0,none⟩=some (.bool false):=by rw[cell_of_row _ _ _ _ _ _ Y2.b4];rfl
   have f3:w3.frozen? ⟨w.heap.size+1+1+1,0,none⟩=false:=by simp[World.frozen?,show w3.heap[w.heap.size+1+1+1]?=_ from Y2.b3]
   have f4:w3.frozen? ⟨w.heap.size+1+1+1+1,0,none⟩=false:=by simp[World.frozen?,show w3.heap[w.heap.size+1+1+1+1]?=_ from Y2.b4]
   have Bf:KeepsOthers W w3:=⟨dc.size,λk ob hk _=>(dc.block k (Array.getElem?_eq_some_iff.1 hk).1).trans hk⟩;have H3:=Lib.hid (And.intro Y2 (And.intro dc Bf));clear Y2 dc Bf
   cases bD:pV v with
   | true=>
    have Vd:=Lib.hid bD;clear bD
    gi_wp2_with fail
    refine ⟨((H3.out.2.2.trans (KeepsOthers.setCell _ _ _)).trans (KeepsOthers.setCell _ _ _)).from _,rfl,pre,x,rfl,HW.out.2.2.1,by rw[HW.out.2.2.2,Vd.out,KY];rfl,?_⟩
    rw[HW.out.2.2.2];exact H3.out.1.put _ true
   | false=>
    have Vd:=Lib.hid bD;clear bD
    gi_wp2_with fail
    exact ⟨H3.out.2.2.from _,⟨H3.out.2.1.block _ (by have:=HW.out.2.1.size;omega),H3.out.2.1.block _ (by have:=HW.out.2.1.size;omega)⟩,⟨H3.out.1,HW.out.2.1.trans (H3.out.2.1.mono HW.out.2.1.size)⟩,λy hy=>(List.mem_append.1 hy).elim (HW.out.2.2.1 y) λhy=>by rw[List.mem_singleton]at hy;subst hy;rw[HW.out.2.2.2,Vd.out,Bool.and_false]⟩
  .have d1:decide ((i:Int)<(v:Int))=false:=decide_eq_false (by omega)
   have KY:decide (i<v)=false:=decide_eq_false hiv
   gi_wp2_with fail
   refine ⟨trivial,?_⟩
   gi_wp2_with fail
   exact ⟨KeepsFrom.refl _ _,IQ.refl _ _ _,⟨HW.out.1,HW.out.2.1⟩,λy hy=>(List.mem_append.1 hy).elim (HW.out.2.2.1 y) λhy=>by rw[List.mem_singleton]at hy;subst hy;rw[HW.out.2.2.2,KY,Bool.false_and]⟩
 case done=>
  rintro D ys W hD rfl ⟨⟨hC,oc⟩,dT⟩ hK;have ltW:=hC.lt;have l3:w.heap.size+1+1+1<W.heap.size:=by omega
  have l4:w.heap.size+1+1+1+1<W.heap.size:=by omega
  have e3:W.cell? ⟨w.heap.size+1+1+1,0,none⟩=some (.int .i64 0):=by rw[cell_of_row _ _ _ _ _ _ hC.b3];rfl
  have e4:W.cell? ⟨w.heap.size+1+1+1+1,0,none⟩=some (.bool false):=by rw[cell_of_row _ _ _ _ _ _ hC.b4];rfl
  have f3:W.frozen? ⟨w.heap.size+1+1+1,0,none⟩=false:=by simp[World.frozen?,show W.heap[w.heap.size+1+1+1]?=_ from hC.b3]
  have f4:W.frozen? ⟨w.heap.size+1+1+1+1,0,none⟩=false:=by simp[World.frozen?,show W.heap[w.heap.size+1+1+1+1]?=_ from hC.b4]
  have Y3:ze R i pV=none:=I6 λx hx=>dT x (List.mem_range.2 (by have:=HN.out;omega))
  have HD:=Lib.hid (And.intro hC (And.intro Y3 (And.intro hK hD)));clear hC oc dT Y3 hK hI0 Tx
  gi_wp2
  have Ty:=HD.out.1.put (.int .i64 0) false;obtain ⟨W9,ua⟩:∃V,V=((W.setCell ⟨w.heap.size+3,0,none⟩ (.int .i64 0)).setCell ⟨w.heap.size+4,0,none⟩ (.bool false)):=⟨_,rfl⟩;rw[<-ua]at Ty;have hK9:W9.heap[D]?=some (.deferred (some [])):=by rw[ua];exact (Below.heap_setCell _ ⟨w.heap.size+4,0,none⟩ _ D (by show D≠w.heap.size+4;omega)).trans ((Below.heap_setCell _ ⟨w.heap.size+3,0,none⟩ _ D (by show D≠w.heap.size+3;omega)).trans HD.out.2.2.1)
  have c0:(W9.putObj D (.deferred none)).cell? ⟨w.heap.size+1+1+1,0,none⟩=some (.int .i64 0):=by rw[cell_of_row _ _ _ _ _ _ ((World.putObj_heap_other (by omega)).trans Ty.b3)];rfl
  have c1:(W9.putObj D (.deferred none)).cell? ⟨w.heap.size+1+1+1+1,0,none⟩=some (.bool false):=by rw[cell_of_row _ _ _ _ _ _ ((World.putObj_heap_other (by omega)).trans Ty.b4)];rfl
  have oH:Below w.heap.size w (W9.putObj D (.deferred none)):=Ty.eP.trans (belowK_b (w:=w) (Nat.le_refl _) W9 D _ _ (by omega) hK9 rfl rfl)
  rw[<-ua];refine ⟨by simp, .inl ⟨_,_,rfl,run_takeDeferred hK9,?_⟩⟩
  refine ⟨.tuple #[.int .i64 0, .bool false],by simp[results,Tryz.results75,go_sem,c0,c1];try rfl,?_⟩
  exact ⟨by rw[HD.out.2.1];rfl,oH⟩
 case stop=>
  rintro D c' pre W hD ⟨k,hk,rfl⟩ ⟨rfl,q,x,hq,h3,h4,hC⟩ hK;have hqx:q=List.range k/\x=k:=by
   rw[List.range_succ]at hq;obtain ⟨e1,e2⟩:=List.append_inj' hq rfl;injection e2 with e2;exact ⟨e1.symm,e2.symm⟩
  obtain ⟨rfl,rfl⟩:=hqx;have hcs:ze R i pV=some (qR R x):=I5 (by have:=HN.out;omega) (λy hy=>h3 y (List.mem_range.2 hy)) h4
  have HD:=Lib.hid (And.intro hC (And.intro hcs (And.intro hK hD)));clear hq h3 h4 hC hcs hI0 Tx
  gi_wp2
  have ltW:=HD.out.1.lt;have Ty:=HD.out.1;have c0:(W.putObj D (.deferred none)).cell? ⟨w.heap.size+1+1+1,0,none⟩=some (.int .i64 ((qR R x:Nat):Int)):=by rw[cell_of_row _ _ _ _ _ _ ((World.putObj_heap_other (by omega)).trans Ty.b3)];rfl
  have c1:(W.putObj D (.deferred none)).cell? ⟨w.heap.size+1+1+1+1,0,none⟩=some (.bool true):=by rw[cell_of_row _ _ _ _ _ _ ((World.putObj_heap_other (by omega)).trans Ty.b4)];rfl
  have oH:Below w.heap.size w (W.putObj D (.deferred none)):=Ty.eP.trans (belowK_b (w:=w) (Nat.le_refl _) W D _ _ (by omega) HD.out.2.2.1 rfl rfl)
  refine ⟨by simp, .inl ⟨_,_,rfl,run_takeDeferred HD.out.2.2.1,?_⟩⟩
  refine ⟨.tuple #[.int .i64 ((qR R x:Nat):Int), .bool true],by simp[results,Tryz.results75,go_sem,c0,c1];try rfl,?_⟩
  exact ⟨by rw[HD.out.2.1];rfl,oH⟩
end
end Go.Proofs.YtdmoogjddmdmbaaGreatDoor
