/- Walks. -/
import Derived.Test.YtdmoogjddmdmbaaGreatDoorX34
import Derived.Test.YtdmoogjddmdmbaaGreatDoorX12
import Derived.Test.YtdmoogjddmdmbaaGreatDoorX38
import Derived.Test.YtdmoogjddmdmbaaGreatDoorX18
import Derived.Test.YtdmoogjddmdmbaaGreatDoorX11
import Derived.Test.YtdmoogjddmdmbaaGreatDoorX20
set_option maxRecDepth 100000
set_option maxHeartbeats 16000000
set_option linter.unusedVariables false
set_option linter.unusedSimpArgs false
namespace Go.Proofs.YtdmoogjddmdmbaaGreatDoor
open Go.RowKit
section
open Go.RowKit Go.Shelf
attribute [local go_sem] Oper.semAt_some
theorem D6{F:Fence}{n:Nat}{P:Program}{f:FuncId}{args:Array Value}{Q:Ending->World->Prop}{w:World}(h:∀W,W=w->CallsIn F n P f args W Q):CallsIn F n P f args w Q:=h w rfl
theorem F2(p:Nat->Bool):∀(L:List Nat) (k:Nat),k<L.length->(∀x,x<k->p ((L[x]?).getD 0)=false)->p ((L[k]?).getD 0)=true->L.find? p=some ((L[k]?).getD 0)
 |a::L,0,_,_,h2=>by
  have h2:p a=true:=h2;rw[List.find?_cons,h2];rfl
 |a::L,k+1,hk,h1,h2=>by
  have h0:p a=false:=h1 0 Y;rw[List.find?_cons,h0];exact F2 p L k (by simpa using hk) (λx hx=>h1 (x+1) Y) h2
theorem F3(p:Nat->Bool):∀(L:List Nat),(∀x,x<L.length->p ((L[x]?).getD 0)=false)->L.find? p=none
 | [],_=>rfl
 |a::L,h=>by
  have h0:p a=false:=h 0 ξ;rw[List.find?_cons,h0];exact F3 p L λx hx=>h (x+1) (by simpa using hx)
theorem tz{R:List Nat}{x:Nat}(h:x<R.length):qP R x=((R.reverse)[x]?).getD 0:=by unfold qP;rw[List.getElem?_reverse h]
theorem Qo{R:List Nat}{x:Nat}(h:0<R.length):qP R x∈R:=by
 unfold qP;rw[List.getElem?_eq_getElem Y];exact List.getElem_mem _
theorem Iw{R:List Nat}{i k:Nat}{mV:Nat->Bool}(hk:k<R.length)(h1:∀x,x<k->(decide (i<qP R x) && mV (qP R x))=false)(h2:(decide (i<qP R k) && mV (qP R k))=true):sK R i mV=some (qP R k):=by
 rw[tz hk];exact F2 _ R.reverse k (by simpa using hk) (λx hx=>by rw[<-tz Y];exact h1 x hx) (by rw[<-tz hk];exact h2)
theorem Ix{R:List Nat}{i:Nat}{mV:Nat->Bool}(h1:∀x,x<R.length->(decide (i<qP R x) && mV (qP R x))=false):sK R i mV=none:=
 F3 _ R.reverse λx hx=>by rw[List.length_reverse]at hx;rw[<-tz hx];exact h1 x hx
structure F4 (w:World) (fv:Array Value) (v:Value) (i:Nat) (r:Value) (ok:Bool) (W:World):Prop where
 b0:W.heap[w.heap.size]?=some (.cells fv 95 (0,0))
 b1:W.heap[w.heap.size+1]?=some (.cells #[v] 28 (0,0))
 b2:W.heap[w.heap.size+2]?=some (.cells #[.int .i64 (i:Int)] 3 (0,0))
 b3:W.heap[w.heap.size+3]?=some (.cells #[r] 3 (0,0))
 b4:W.heap[w.heap.size+4]?=some (.cells #[.bool ok] 4 (0,0))
 eP:Below w.heap.size w W
theorem F4.lt{w:World}{fv:Array Value}{v r:Value}{i:Nat}{ok:Bool}{W:World}(h:F4 w fv v i r ok W):w.heap.size+4<W.heap.size:=(γ h.b4).1
theorem F4.to{w:World}{fv:Array Value}{v r:Value}{i:Nat}{ok:Bool}{W W':World}(h:F4 w fv v i r ok W)(hs:W.heap.size<=W'.heap.size)(ho:W'.os=W.os/\W'.tape=W.tape/\W'.output=W.output)(hb:∀k,k<w.heap.size+5->W'.heap[k]?=W.heap[k]?):F4 w fv v i r ok W':=
 ⟨(hb _ Y).trans h.b0,(hb _ Y).trans h.b1,(hb _ Y).trans h.b2,(hb _ Y).trans h.b3,(hb _ Y).trans h.b4,⟨ho.1.trans h.eP.os,ho.2.1.trans h.eP.tape,ho.2.2.trans h.eP.output,Nat.le_trans h.eP.size hs,λk hk=>(hb k Y).trans (h.eP.block k hk)⟩⟩
theorem F4.later{w:World}{fv:Array Value}{v r:Value}{i:Nat}{ok:Bool}{W W':World}(h:F4 w fv v i r ok W)(hb:Below W.heap.size W W'):F4 w fv v i r ok W':=
 h.to hb.size ⟨hb.os,hb.tape,hb.output⟩ λk hk=>hb.block k (by have:=h.lt;omega)
theorem F4.put{w:World}{fv:Array Value}{v r:Value}{i:Nat}{ok:Bool}{W:World}(h:F4 w fv v i r ok W)(r':Value)(ok':Bool):F4 w fv v i r' ok' ((W.setCell ⟨w.heap.size+3,0,none⟩ r').setCell ⟨w.heap.size+4,0,none⟩ (.bool ok')):=by
 have hs:∀k,k≠w.heap.size+3->k≠w.heap.size+4->((W.setCell ⟨w.heap.size+3,0,none⟩ r').setCell ⟨w.heap.size+4,0,none⟩ (.bool ok')).heap[k]?=W.heap[k]?:=λk h1 h2=>(Below.heap_setCell _ ⟨w.heap.size+4,0,none⟩ _ k h2).trans (Below.heap_setCell _ ⟨w.heap.size+3,0,none⟩ _ k h1);refine ⟨(hs _ Y Y).trans h.b0,(hs _ Y Y).trans h.b1,(hs _ Y Y).trans h.b2,?_,?_,⟨h.eP.os,h.eP.tape,h.eP.output,by have:=h.eP.size;simpa [World.setCell] using this,λk hk=>(hs k Y Y).trans (h.eP.block k hk)⟩⟩
 .exact (Below.heap_setCell _ ⟨w.heap.size+4,0,none⟩ _ _ (by show w.heap.size+3≠w.heap.size+4;omega)).trans (by have:=aS h.b3 0 r';simpa using this)
 .have:=aS ((Below.heap_setCell W ⟨w.heap.size+3,0,none⟩ r' (w.heap.size+4) (by show w.heap.size+4≠w.heap.size+3;omega)).trans h.b4) 0 (.bool ok')
  simpa using this
def ChI(w w2:World)(fv:Array Value)(v:Value)(i:Nat)(R:List Nat)(mV:Nat->Bool)(pre:List Nat)(W:World):Prop:=(F4 w fv v i (.int .i64 0) false W/\Below w2.heap.size w2 W)/\∀x∈pre,(decide (i<qP R x) && mV (qP R x))=false
def ChX(w:World)(fv:Array Value)(v:Value)(i:Nat)(R:List Nat)(mV:Nat->Bool)(c:Code)(pre:List Nat)(W:World):Prop:=c=.ret/\∃q x,pre=q++[x]/\(∀x∈q,(decide (i<qP R x) && mV (qP R x))=false)/\(decide (i<qP R x) && mV (qP R x))=true/\F4 w fv v i (.int .i64 ((qP R x:Nat):Int)) true W
theorem ChI.own(w w2:World)(fv:Array Value)(v:Value)(i:Nat)(R:List Nat)(mV:Nat->Bool)(h:w.heap.size+5<=w2.heap.size):OwnFrom w2.heap.size (ChI w w2 fv v i R mV):=by
 rintro s W W' row ⟨⟨h1,h2⟩,h3⟩ hg hr;refine ⟨⟨h1.to hg.size ⟨hg.os,hg.tape,hg.output⟩ λk hk=>hg.block k (by have:=h1.lt;omega) (λe=>by have:=(hr _ e.symm).1;omega),h2.grown hg h2.size (λk hk=>by have:=(hr k hk).1;omega)⟩,h3⟩
theorem ChX.own(w:World)(B:Nat)(fv:Array Value)(v:Value)(i:Nat)(R:List Nat)(mV:Nat->Bool)(h:w.heap.size+5<=B)(c:Code):OwnFrom B (ChX w fv v i R mV c):=by
 rintro s W W' row ⟨h1,q,x,h2,h3,h4,h5⟩ hg hr;exact ⟨h1,q,x,h2,h3,h4,h5.to hg.size ⟨hg.os,hg.tape,hg.output⟩ λk hk=>hg.block k (by have:=h5.lt;omega) (λe=>by have:=(hr _ e.symm).1;omega)⟩
set_option maxRecDepth 100000 in
theorem rS(u:KC)(m:Mc)(Ae Aa A:Option Addr)(ne na ce ca n c i:Nat)(bs R:List Nat)(mV:Nat->Bool)(w:World)(hm:gH w (.agg #[.slice Ae ne ce,.slice Aa na ca]) m)(YR:pC m)(Qj:sF m)(mo:1<=m.ed.length)(hb:eZ w (.slice A n c) bs)(hn:bs.length=n)(kr:n<=900000)(dV:∀b∈bs,b<256)(hi:i<=n)
  (hR:gh m (bs.drop i) 0 i=R) (hRl:R.length<=1000000) (hRb:∀t∈R,t<=1000000)
  (Qp:∀W t,Below w.heap.size w W->t∈R->Calls Tryz.prog 95 #[.agg #[.string u.nm,.int .i64 u.op,.slice u.a1 u.n1 u.c1,.slice u.a2 u.n2 u.c2,.int .i64 u.mn,.int .i64 u.mx,.bool u.wh,.int .i64 u.ck,.int .i64 u.en,.slice u.a3 u.n3 u.c3,.int .i64 u.nr],.slice A n c,.int .i64 (i:Int),.int .i64 (t:Int)] W λe w'=>e=.returned (.bool (mV t))/\Below W.heap.size W w') :
  Calls Tryz.prog 75 #[.agg #[.string u.nm,.int .i64 u.op,.slice u.a1 u.n1 u.c1,.slice u.a2 u.n2 u.c2,.int .i64 u.mn,.int .i64 u.mx,.bool u.wh,.int .i64 u.ck,.int .i64 u.en,.slice u.a3 u.n3 u.c3,.int .i64 u.nr,.slice Ae ne ce,.slice Aa na ca],.slice A n c,.int .i64 (i:Int)] w λe w'=>e=.returned (.tuple #[.int .i64 (((sK R i mV).getD 0:Nat):Int),.bool (sK R i mV).isSome])/\Below w.heap.size w w':=by
 have HRC:=Z λW (aY:Below w.heap.size w W)=>Iy _ (.slice A n c) m bs i W (hm.later aY) YR Qj mo (hb.later aY) Y dV Y;rw[hR]at HRC;have mJ:=Z Qp;have HL:=Z (H hRl hRb);clear hm YR Qj mo hb dV hR Qp hRl hRb hn;refine (callsIn_wide (n:=7)).1 ?_;refine callsIn_of_wp_marks Tryz.func75 rfl trivial ?_ rfl;simp only[Tryz.ntmps75,List.size_toArray,List.length_cons,List.length_nil,Nat.reduceAdd,Nat.reduceSub,Array.replicate_succ,Array.replicate_zero,List.push_toArray,List.append_toArray,List.nil_append,List.cons_append]
 gi_wp2_with fail
 refine ⟨trivial,?_⟩;refine D6 λW0 aP=>?_;have hC0:F4 w #[.string u.nm,.int .i64 u.op,.slice u.a1 u.n1 u.c1,.slice u.a2 u.n2 u.c2,.int .i64 u.mn,.int .i64 u.mx,.bool u.wh,.int .i64 u.ck,.int .i64 u.en,.slice u.a3 u.n3 u.c3,.int .i64 u.nr,.slice Ae ne ce,.slice Aa na ca] (.slice A n c) i (.int .i64 0) false W0:=by
  have Dk:W0=fN w [(#[.string u.nm,.int .i64 u.op,.slice u.a1 u.n1 u.c1,.slice u.a2 u.n2 u.c2,.int .i64 u.mn,.int .i64 u.mx,.bool u.wh,.int .i64 u.ck,.int .i64 u.en,.slice u.a3 u.n3 u.c3,.int .i64 u.nr,.slice Ae ne ce,.slice Aa na ca],95),(#[.slice A n c],28),(#[.int .i64 (i:Int)],3),(#[.int .i64 0],3),(#[.bool false],4)]:=by rw[aP];rfl
  rw[Dk];exact ⟨cJ 0 rfl,cJ 1 rfl,cJ 2 rfl,cJ 3 rfl,cJ 4 rfl,dZ _ _⟩
 have LD:=Z hC0;clear aP hC0;refine (callsIn_wide.2 (HRC.out W0 LD.out.eP)).mono ?_;rintro e w1 ⟨rv,rfl,hown,hb1⟩;obtain ⟨Ar,cr,rfl,-,-⟩:=ar (show w1.ownsRow _ _ _ _ _ _ from hown);obtain ⟨nr,sH⟩:∃x,R.length=x:=⟨_,rfl⟩;have aq6:=(LD.out.later hb1).lt;obtain ⟨gR,hgR,hA,hcR⟩:∃gR,gR<w1.heap.size/\(nr=0\/Ar=some ⟨gR,0,none⟩)/\∀j,j<nr->gR<w1.heap.size/\w1.cell? ⟨gR,0+j,none⟩=some (.int .i64 (((R[j]?).getD 0:Nat):Int)):=by
  obtain ⟨A',c',e,-,eH⟩:=hown.cells LF;injection e with e1 _ _;rcases eH with hnil|⟨gR,hA',-,hg,hcs⟩
  .exact ⟨0,Y,.inl (by rw[<-sH,hnil];rfl),λj hj=>by rw[<-sH,hnil]at hj;cases hj⟩
  .refine ⟨gR,hg,.inr (e1.trans hA'),λj hj=>⟨hg,?_⟩⟩;have h9:=(hcs j (show j<R.length by omega) 0 O).1
   rw[Nat.mul_one,Nat.add_zero]at h9;rw[Nat.zero_add,h9,List.getElem?_eq_getElem (show j<R.length by omega)];rfl
 have Ls:=Z (LD.out.later hb1);have HA:=Z (H hA hcR);have HN:=Z sH;rw[sH];clear hown hb1 hA hcR sH
 gi_wp2_with fail
 refine ⟨trivial,?_⟩;refine (Qh Fence.wide _ trivial rfl _ _ _ _).mono ?_;rintro e w2 ⟨rfl,ew⟩;have aJ:Below w1.heap.size w1 w2:=by rw[ew];exact υ.alloc I _
 have YW:w2.heap[w1.heap.size]?=some (.cells #[.slice Ar nr cr] 22 (0,0)):=by rw[ew];exact heap_alloc_new w1 _
 have Lu:=Z (Ls.out.later aJ);have D7:=Z (H aJ YW);clear ew aJ YW
 gi_wp2_with fail
 have Tv:=Lu.out;have lt2:=Tv.lt;have qM:w1.heap.size<w2.heap.size:=(γ D7.out.2).1;have lt1:=Ls.out.lt;have hI0:ChI w w2 #[.string u.nm,.int .i64 u.op,.slice u.a1 u.n1 u.c1,.slice u.a2 u.n2 u.c2,.int .i64 u.mn,.int .i64 u.mx,.bool u.wh,.int .i64 u.ck,.int .i64 u.en,.slice u.a3 u.n3 u.c3,.int .i64 u.nr,.slice Ae ne ce,.slice Aa na ca] (.slice A n c) i R mV [] w2:=⟨⟨Tv,υ⟩,λx hx=>by cases hx⟩
 refine wpIn_rangeFunc_ownG rfl Y (gf:=121) (lb:=#[.pointer (some ⟨w1.heap.size,0,none⟩)]) rfl trivial (enters_of Tryz.func121 κ rfl)
  (DT Fence.wide _ trivial rfl Y w1.heap.size gR 0 Ar R nr cr HN.out (by have:=HL.out.1;have:=HN.out;omega) HA.out.1 w2 (by rw[cell_of_row _ _ _ _ _ _ D7.out.2];rfl) qM (λj hj=>⟨Nat.lt_trans (HA.out.2 j hj).1 qM,(D7.out.1.cl gR (0+j) (HA.out.2 j hj).1).trans (HA.out.2 j hj).2⟩)) Ik.trans
  (λW q o o' hq hW _ _=>⟨World.putObj_heap_other Y,World.putObj_heap_other Y⟩) υ (λ_=>rfl)
  (ChI w w2 #[.string u.nm,.int .i64 u.op,.slice u.a1 u.n1 u.c1,.slice u.a2 u.n2 u.c2,.int .i64 u.mn,.int .i64 u.mx,.bool u.wh,.int .i64 u.ck,.int .i64 u.en,.slice u.a3 u.n3 u.c3,.int .i64 u.nr,.slice Ae ne ce,.slice Aa na ca] (.slice A n c) i R mV) (ChX w #[.string u.nm,.int .i64 u.op,.slice u.a1 u.n1 u.c1,.slice u.a2 u.n2 u.c2,.int .i64 u.mn,.int .i64 u.mx,.bool u.wh,.int .i64 u.ck,.int .i64 u.en,.slice u.a3 u.n3 u.c3,.int .i64 u.nr,.slice Ae ne ce,.slice Aa na ca] (.slice A n c) i R mV) (ChI.own w w2 _ _ i R mV Y) (λc'=>ChX.own w w2.heap.size _ _ i R mV Y c') hI0
  (λx=>{ tmps:=#[.agg #[.string u.nm,.int .i64 u.op,.slice u.a1 u.n1 u.c1,.slice u.a2 u.n2 u.c2,.int .i64 u.mn,.int .i64 u.mx,.bool u.wh,.int .i64 u.ck,.int .i64 u.en,.slice u.a3 u.n3 u.c3,.int .i64 u.nr,.slice Ae ne ce,.slice Aa na ca],.slice A n c,.int .i64 (i:Int),.pointer (some ⟨w.heap.size,0,none⟩),.pointer (some ⟨w.heap.size+1,0,none⟩),.pointer (some ⟨w.heap.size+1+1,0,none⟩),.pointer (some ⟨w.heap.size+1+1+1,0,none⟩),.pointer (some ⟨w.heap.size+1+1+1+1,0,none⟩),undef,.int .i64 ((qP R x:Nat):Int),.pointer (some ⟨w.heap.size,11,none⟩),.agg #[.slice Ae ne ce,.slice Aa na ca],.slice A n c,.int .i64 (i:Int),.slice Ar nr cr,
   .func (.func 121) #[] #[.pointer (some ⟨w1.heap.size,0,none⟩)],.int .i64 ((R.length:Int) - 1-x),.int .i64 ((qP R x:Nat):Int),undef,undef,undef,undef,undef,undef,undef,undef,undef,undef,undef,undef],defers:=[] }) ?assign ?body ?done ?stop
 case assign=>
  intro q x W K hK;unfold bkE
  gi_wp2
  exact hK
 case body=>
  rintro q pre x W ⟨⟨hC,gO⟩,eg⟩ hlt;have aZ:qP R x∈R:=Qo (by have:=HN.out;omega)
  have YX:=HL.out.2 _ aZ;obtain ⟨v,hv⟩:=ν (qP R x);rw[hv]at aZ YX|-;have Qq:=Z (mJ.out W v hC.eP aZ);have HW:=Z (H hC (H gO (H eg hv)));have ltW:=hC.lt;have a0:W.cell? ⟨w.heap.size,0,none⟩=some (.string u.nm):=by rw[cell_of_row _ _ _ _ _ _ hC.b0];rfl
  have a1:W.cell? ⟨w.heap.size,1,none⟩=some (.int .i64 u.op):=by rw[cell_of_row _ _ _ _ _ _ hC.b0];rfl
  have a2:W.cell? ⟨w.heap.size,2,none⟩=some (.slice u.a1 u.n1 u.c1):=by rw[cell_of_row _ _ _ _ _ _ hC.b0];rfl
  have a3:W.cell? ⟨w.heap.size,3,none⟩=some (.slice u.a2 u.n2 u.c2):=by rw[cell_of_row _ _ _ _ _ _ hC.b0];rfl
  have a4:W.cell? ⟨w.heap.size,4,none⟩=some (.int .i64 u.mn):=by rw[cell_of_row _ _ _ _ _ _ hC.b0];rfl
  have a5:W.cell? ⟨w.heap.size,5,none⟩=some (.int .i64 u.mx):=by rw[cell_of_row _ _ _ _ _ _ hC.b0];rfl
  have a6:W.cell? ⟨w.heap.size,6,none⟩=some (.bool u.wh):=by rw[cell_of_row _ _ _ _ _ _ hC.b0];rfl
  have a7:W.cell? ⟨w.heap.size,7,none⟩=some (.int .i64 u.ck):=by rw[cell_of_row _ _ _ _ _ _ hC.b0];rfl
  have a8:W.cell? ⟨w.heap.size,8,none⟩=some (.int .i64 u.en):=by rw[cell_of_row _ _ _ _ _ _ hC.b0];rfl
  have a9:W.cell? ⟨w.heap.size,9,none⟩=some (.slice u.a3 u.n3 u.c3):=by rw[cell_of_row _ _ _ _ _ _ hC.b0];rfl
  have a10:W.cell? ⟨w.heap.size,10,none⟩=some (.int .i64 u.nr):=by rw[cell_of_row _ _ _ _ _ _ hC.b0];rfl
  have a11:W.cell? ⟨w.heap.size+1,0,none⟩=some (.slice A n c):=by rw[cell_of_row _ _ _ _ _ _ hC.b1];rfl
  have a12:W.cell? ⟨w.heap.size+1+1,0,none⟩=some (.int .i64 (i:Int)):=by rw[cell_of_row _ _ _ _ _ _ hC.b2];rfl
  have l0:w.heap.size<W.heap.size:=Y;have l1:w.heap.size+1<W.heap.size:=Y;have l2:w.heap.size+1+1<W.heap.size:=Y;clear hC gO eg hv aZ hI0 Tv;by_cases hiv:i<v
  .have d1:decide ((i:Int)<(v:Int))=true:=τ;have Iz:decide (i<v)=true:=decide_eq_true hiv
   gi_wp2_with fail
   refine ⟨trivial,(CallsIn.inRound q (callsIn_wide.2 Qq.out)).mono ?_⟩;rintro e w3 ⟨rfl,bW⟩;have YY:=HW.out.1.later bW;have Dl:=bW.size;have l3:w.heap.size+1+1+1<w3.heap.size:=Y;have l4:w.heap.size+1+1+1+1<w3.heap.size:=Y;have e3:w3.cell? ⟨w.heap.size+1+1+1,0,none⟩=some (.int .i64 0):=by rw[cell_of_row _ _ _ _ _ _ YY.b3];rfl
   have e4:w3.cell? ⟨w.heap.size+1+1+1+1,0,none⟩=some (.bool false):=by rw[cell_of_row _ _ _ _ _ _ YY.b4];rfl
   have f3:w3.frozen? ⟨w.heap.size+1+1+1,0,none⟩=false:=by simp[World.frozen?,show w3.heap[w.heap.size+1+1+1]?=_ from YY.b3]
   have f4:w3.frozen? ⟨w.heap.size+1+1+1+1,0,none⟩=false:=by simp[World.frozen?,show w3.heap[w.heap.size+1+1+1+1]?=_ from YY.b4]
   have IA:KeepsOthers W w3:=⟨bW.size,λk ob hk _=>(bW.block k (γ hk).1).trans hk⟩;have H3:=Z (H YY (H bW IA));clear YY bW IA
   cases bB:mV v with
   |true=>
    have Vc:=Z bB;clear bB
    gi_wp2_with fail
    refine ⟨((H3.out.2.2.trans (KeepsOthers.setCell _ _ _)).trans (KeepsOthers.setCell _ _ _)).from _,rfl,pre,x,rfl,HW.out.2.2.1,by rw[HW.out.2.2.2,Vc.out,Iz];rfl,?_⟩
    rw[HW.out.2.2.2];exact H3.out.1.put _ true
   |false=>
    have Vc:=Z bB;clear bB
    gi_wp2_with fail
    exact ⟨H3.out.2.2.from _,⟨H3.out.2.1.block _ (by have:=HW.out.2.1.size;omega),H3.out.2.1.block _ (by have:=HW.out.2.1.size;omega)⟩,⟨H3.out.1,HW.out.2.1.trans (H3.out.2.1.mono HW.out.2.1.size)⟩,λy hy=>(List.mem_append.1 hy).elim (HW.out.2.2.1 y) λhy=>by rw[List.mem_singleton]at hy;subst hy;rw[HW.out.2.2.2,Vc.out,Bool.and_false]⟩
  .have d1:decide ((i:Int)<(v:Int))=false:=θ;have Iz:decide (i<v)=false:=decide_eq_false hiv
   gi_wp2_with fail
   refine ⟨trivial,?_⟩
   gi_wp2_with fail
   exact ⟨KeepsFrom.refl _ _,Ik.refl _ _ _,⟨HW.out.1,HW.out.2.1⟩,λy hy=>(List.mem_append.1 hy).elim (HW.out.2.2.1 y) λhy=>by rw[List.mem_singleton]at hy;subst hy;rw[HW.out.2.2.2,Iz,Bool.false_and]⟩
 case done=>
  rintro D ys W hD rfl ⟨⟨hC,gO⟩,eg⟩ hK;have ltW:=hC.lt;have l3:w.heap.size+1+1+1<W.heap.size:=Y;have l4:w.heap.size+1+1+1+1<W.heap.size:=Y;have e3:W.cell? ⟨w.heap.size+1+1+1,0,none⟩=some (.int .i64 0):=by rw[cell_of_row _ _ _ _ _ _ hC.b3];rfl
  have e4:W.cell? ⟨w.heap.size+1+1+1+1,0,none⟩=some (.bool false):=by rw[cell_of_row _ _ _ _ _ _ hC.b4];rfl
  have f3:W.frozen? ⟨w.heap.size+1+1+1,0,none⟩=false:=by simp[World.frozen?,show W.heap[w.heap.size+1+1+1]?=_ from hC.b3]
  have f4:W.frozen? ⟨w.heap.size+1+1+1+1,0,none⟩=false:=by simp[World.frozen?,show W.heap[w.heap.size+1+1+1+1]?=_ from hC.b4]
  have Tw:sK R i mV=none:=Ix λx hx=>eg x (List.mem_range.2 (by have:=HN.out;omega))
  have HD:=Z (H hC (H Tw (H hK hD)));clear hC gO eg Tw hK hI0 Tv
  gi_wp2
  have Tx:=HD.out.1.put (.int .i64 0) false;obtain ⟨W9,qT⟩:∃V,V=((W.setCell ⟨w.heap.size+3,0,none⟩ (.int .i64 0)).setCell ⟨w.heap.size+4,0,none⟩ (.bool false)):=⟨_,rfl⟩;rw[<-qT]at Tx;have hK9:W9.heap[D]?=some (.deferred (some [])):=by rw[qT];exact (Below.heap_setCell _ ⟨w.heap.size+4,0,none⟩ _ D (by show D≠w.heap.size+4;omega)).trans ((Below.heap_setCell _ ⟨w.heap.size+3,0,none⟩ _ D (by show D≠w.heap.size+3;omega)).trans HD.out.2.2.1)
  have c0:(W9.putObj D (.deferred none)).cell? ⟨w.heap.size+1+1+1,0,none⟩=some (.int .i64 0):=by rw[cell_of_row _ _ _ _ _ _ ((World.putObj_heap_other Y).trans Tx.b3)];rfl
  have c1:(W9.putObj D (.deferred none)).cell? ⟨w.heap.size+1+1+1+1,0,none⟩=some (.bool false):=by rw[cell_of_row _ _ _ _ _ _ ((World.putObj_heap_other Y).trans Tx.b4)];rfl
  have pN:Below w.heap.size w (W9.putObj D (.deferred none)):=Tx.eP.trans (belowK_b (w:=w) I W9 D _ _ Y hK9 rfl rfl);rw[<-qT];refine ⟨ξ,.inl ⟨_,_,rfl,run_takeDeferred hK9,?_⟩⟩;refine ⟨.tuple #[.int .i64 0,.bool false],by simp[results,Tryz.results75,go_sem,c0,c1];try rfl,?_⟩
  exact ⟨by rw[HD.out.2.1];rfl,pN⟩
 case stop=>
  rintro D c' pre W hD ⟨k,hk,rfl⟩ ⟨rfl,q,x,hq,h3,h4,hC⟩ hK;have hqx:q=List.range k/\x=k:=by
   rw[List.range_succ]at hq;obtain ⟨e1,e2⟩:=List.append_inj' hq rfl;injection e2 with e2;exact ⟨e1.symm,e2.symm⟩
  obtain ⟨rfl,rfl⟩:=hqx;have hcs:sK R i mV=some (qP R x):=Iw (by have:=HN.out;omega) (λy hy=>h3 y (List.mem_range.2 hy)) h4
  have HD:=Z (H hC (H hcs (H hK hD)));clear hq h3 h4 hC hcs hI0 Tv
  gi_wp2
  have ltW:=HD.out.1.lt;have Tx:=HD.out.1;have c0:(W.putObj D (.deferred none)).cell? ⟨w.heap.size+1+1+1,0,none⟩=some (.int .i64 ((qP R x:Nat):Int)):=by rw[cell_of_row _ _ _ _ _ _ ((World.putObj_heap_other Y).trans Tx.b3)];rfl
  have c1:(W.putObj D (.deferred none)).cell? ⟨w.heap.size+1+1+1+1,0,none⟩=some (.bool true):=by rw[cell_of_row _ _ _ _ _ _ ((World.putObj_heap_other Y).trans Tx.b4)];rfl
  have pN:Below w.heap.size w (W.putObj D (.deferred none)):=Tx.eP.trans (belowK_b (w:=w) I W D _ _ Y HD.out.2.2.1 rfl rfl);refine ⟨ξ,.inl ⟨_,_,rfl,run_takeDeferred HD.out.2.2.1,?_⟩⟩;refine ⟨.tuple #[.int .i64 ((qP R x:Nat):Int),.bool true],by simp[results,Tryz.results75,go_sem,c0,c1];try rfl,?_⟩
  exact ⟨by rw[HD.out.2.1];rfl,pN⟩
theorem xp(g:Nat)(Ae Aa A:Option Addr)(ce ca n c i:Nat)(bs R:List Nat)(mV:Nat->Bool)(w:World)(hm:gH w (.agg #[.slice Ae 3 ce,.slice Aa 3 ca]) eR)(hb:eZ w (.slice A n c) bs)(hn:bs.length=n)(kr:n<=900000)(dV:∀b∈bs,b<256)(hi:i<=n)
  (hR:gh eR (bs.drop i) 0 i=R) (hRl:R.length<=1000000) (hRb:∀t∈R,t<=1000000)
  (Qp:∀W t,Below w.heap.size w W->t∈R->Calls Tryz.prog 95 #[.agg #[.string qC,.int .i64 4,.slice none 0 0,.slice (some ⟨g,0,none⟩) 1 1,.int .i64 1,.int .i64 2,.bool false,.int .i64 0,.int .i64 0,.slice none 0 0,.int .i64 0],.slice A n c,.int .i64 (i:Int),.int .i64 (t:Int)] W λe w'=>e=.returned (.bool (mV t))/\Below W.heap.size W w') :
  Calls Tryz.prog 75 #[.agg #[.string qC,.int .i64 4,.slice none 0 0,.slice (some ⟨g,0,none⟩) 1 1,.int .i64 1,.int .i64 2,.bool false,.int .i64 0,.int .i64 0,.slice none 0 0,.int .i64 0,.slice Ae 3 ce,.slice Aa 3 ca],.slice A n c,.int .i64 (i:Int)] w λe w'=>e=.returned (.tuple #[.int .i64 (((sK R i mV).getD 0:Nat):Int),.bool (sK R i mV).isSome])/\Below w.heap.size w w':=
 rS ⟨qC,4,none,0,0,some ⟨g,0,none⟩,1,1,1,2,false,0,0,none,0,0,0⟩ eR Ae Aa A 3 3 ce ca n c i bs R mV w hm ⟨pA.len,pA.pd,pA.to⟩ ⟨O,O,O⟩ O hb hn kr dV hi hR hRl hRb Qp
end
theorem F5(g:Nat)(A:Option Addr)(n c i t:Nat)(w:World):Calls Tryz.prog 95 #[.agg #[.string qC,.int .i64 4,.slice none 0 0,.slice (some ⟨g,0,none⟩) 1 1,.int .i64 1,.int .i64 2,.bool false,.int .i64 0,.int .i64 0,.slice none 0 0,.int .i64 0],.slice A n c,.int .i64 (i:Int),.int .i64 (t:Int)] w λe w'=>e=.returned (.bool (decide (i<=t) && decide (t<=n)))/\Below w.heap.size w w':=by
 obtain ⟨b,hb⟩:∃b,(decide (i<=t) && decide (t<=n))=b:=⟨_,rfl⟩;have HW:=Z λW=>uf A n c i t W;rw[hb]at HW|-;clear hb
 go_enter Tryz.func95,Tryz.ntmps95
 go_wp2_with fail;refine aH λW0 aP=>?_;have hb0:Below w.heap.size w W0:=by rw[aP];exact υ.alloc I _
 have hK:Ty g w.heap.size W0:=by rw[aP];exact heap_alloc_new w _
 have H0:=Z hb0;obtain ⟨-,⟨c6,-,-,-,-⟩,lb⟩:=hK.cells;clear aP hb0 hK;refine (HW.out W0).mono ?_;rintro e w1 ⟨rfl,rfl⟩
 cases b with
 |false=>
  go_wp2_with fail;go_ret;exact ⟨rfl,H0.out⟩
 |true=>
  go_wp2_with fail;go_ret;exact ⟨rfl,H0.out⟩
theorem LG:(Tryz.prog.info? 82).map (λi=>(i.zero,i.size,i.bytes))=some (some (.agg #[.int .i64 0,.int .i64 0,.int .i64 0]),3,24):=κ
def Th(b k:Nat)(xs:List Value)(w:World):Prop:=∃A c,w.heap[b]?=some (.cells #[.slice A k c] 78 (0,0))/\w.ownsRow (b+1) 82 3 (.slice A k c) k xs
theorem Th.later{b k:Nat}{xs:List Value}{w w':World}(h:Th b k xs w)(hb:Below w.heap.size w w'):Th b k xs w':=by
 obtain ⟨A,c,h1,h2⟩:=h;exact ⟨A,c,(hb.block b (γ h1).1).trans h1,bw h2 hb⟩
theorem LH(b k a z:Nat)(xs:List Value)(w:World)(h:Th b k xs w)(hk:k<=1000):Calls Tryz.prog 69 #[.int .i64 (a:Int),.int .i64 (z:Int),.pointer (some ⟨b,0,none⟩)] w λe w'=>(∃v,e=.returned v)/\Th b (k+1) (xs++[.int .i64 0,.int .i64 (a:Int),.int .i64 (z:Int)]) w'/\Below b w w'/\∀q T cs m,q≠b->T≠82->w.heap[q]?=some (.cells cs T m)->w'.heap[q]?=some (.cells cs T m):=by
 obtain ⟨A,c,h1,h2⟩:=h;obtain ⟨ie,rJ,hZ,dS,bX⟩:=info_parts LG;have b0:w.cell? ⟨b,0,none⟩=some (.slice A k c):=by rw[cell_of_row _ _ _ _ _ _ h1];rfl
 have fb:w.frozen? ⟨b,0,none⟩=false:=by simp[World.frozen?,h1]
 have lb:b<w.heap.size:=(γ h1).1;have hown:=World.ownsRow.alloc h2 (.cells #[.int .i64 0,.int .i64 (a:Int),.int .i64 (z:Int)] 82);have iY:∀j u,[Value.int .i64 0,.int .i64 (a:Int),.int .i64 (z:Int)][j]?=some u->(w.alloc (.cells #[.int .i64 0,.int .i64 (a:Int),.int .i64 (z:Int)] 82)).cell? ((⟨w.heap.size,0,none⟩:Addr).add j)=some u:=by
  intro j u hj;rw[Addr.add_lit,Nat.zero_add,World.cell?_alloc_mark];simpa using hj
 have dA:b+1<=(w.alloc (.cells #[.int .i64 0,.int .i64 (a:Int),.int .i64 (z:Int)] 82)).heap.size:=ψ;have axI:=Z (H h1 h2);clear h1 h2
 go_enter Tryz.func69,Tryz.ntmps69
 go_wp2_with (at_builtin; refine cQ rfl _ _ 78 rfl (b+1) 82 ie _ 3 24 Tryz.underlying78 rJ hZ dS bX rfl O _ k xs rfl hown ⟨w.heap.size,0,none⟩ 1 1 [.int .i64 0,.int .i64 (a:Int),.int .i64 (z:Int)] rfl rfl iY (by intro u hu; simp only[List.mem_cons,List.not_mem_nil,or_false]at hu; rcases hu with rfl|rfl|rfl <;> rfl) (by unfold maxLen; omega) Y dA ?_)
 intro v9 w9 cT sL wA;obtain ⟨A9,c9,rfl,-,-⟩:=ar cT;have hb1:(w.alloc (.cells #[.int .i64 0,.int .i64 (a:Int),.int .i64 (z:Int)] 82)).heap[b]?=some (.cells #[.slice A k c] 78 (0,0)):=(aB _ _ _ lb).trans axI.out.1;have wu:w9.heap[b]?=some (.cells #[.slice A k c] 78 (0,0)):=(sL.block b ψ (λe=>by have:=(hown.lt b e.symm).1;omega)).trans hb1
 have z0:w9.cell? ⟨b,0,none⟩=some (.slice A k c):=by rw[cell_of_row _ _ _ _ _ _ wu];rfl
 have z1:w9.frozen? ⟨b,0,none⟩=false:=by simp[World.frozen?,wu]
 have z2:b<w9.heap.size:=(γ wu).1;have Kj:Below b w w9:=((Below.refl b w).alloc Y _).grown sL ψ (λq hq=>by have:=(hown.lt q hq).1;omega)
 have hty:∀q T cs m,q≠b->T≠82->w.heap[q]?=some (.cells cs T m)->w9.heap[q]?=some (.cells cs T m):=λq T cs m hq hT hw=>by
  have hl:=(γ hw).1;refine (sL.block q ψ (λe=>?_)).trans ((aB _ _ _ hl).trans hw);obtain ⟨cs',m',h9⟩:=dk axI.out.2 q e.symm;rw[hw]at h9;injection h9 with h9;injection h9 with _ h9 _;exact hT h9
 have H9:=Z (H cT (H wu (H Kj hty)));clear cT sL wA hb1 wu Kj hty hown iY dA;go_wp2_with fail
 go_end0
 refine ⟨⟨_,rfl⟩,⟨A9,c9,by have:=aS H9.out.2.1 0 (.slice A9 (k+1) c9);simpa using this,aG H9.out.1 λq hq=>Below.heap_setCell _ ⟨b,0,none⟩ _ q (λe=>by have:=(H9.out.1.lt q hq).1;have e':q=b:=e;omega)⟩,H9.out.2.2.1.sc b 0 I _,λq T cs m hq hT hw=>(Below.heap_setCell _ ⟨b,0,none⟩ _ q hq).trans (H9.out.2.2.2 q T cs m hq hT hw)⟩
theorem ahz(g:Nat)(Ae Aa A:Option Addr)(ce ca c:Nat)(w:World)(hm:gH w (.agg #[.slice Ae 3 ce,.slice Aa 3 ca]) eR)(hb:eZ w (.slice A 3 c) [97,97,97]):Calls Tryz.prog 75 #[.agg #[.string qC,.int .i64 4,.slice none 0 0,.slice (some ⟨g,0,none⟩) 1 1,.int .i64 1,.int .i64 2,.bool false,.int .i64 0,.int .i64 0,.slice none 0 0,.int .i64 0,.slice Ae 3 ce,.slice Aa 3 ca],.slice A 3 c,.int .i64 0] w λe w'=>e=.returned (.tuple #[.int .i64 2,.bool true])/\Below w.heap.size w w':=by
 have h:=xp g Ae Aa A ce ca 3 c 0 [97,97,97] [1,2] (λt=>decide (0<=t) && decide (t<=3)) w hm hb rfl O O O O O O (λW' t _ _=>F5 g A 3 c 0 t W');have hc:sK [1,2] 0 (λt=>decide (0<=t) && decide (t<=3))=some 2:=O;rw[hc]at h;exact h
theorem ahA(g:Nat)(Ae Aa A:Option Addr)(ce ca c:Nat)(w:World)(hm:gH w (.agg #[.slice Ae 3 ce,.slice Aa 3 ca]) eR)(hb:eZ w (.slice A 3 c) [97,97,97]):Calls Tryz.prog 75 #[.agg #[.string qC,.int .i64 4,.slice none 0 0,.slice (some ⟨g,0,none⟩) 1 1,.int .i64 1,.int .i64 2,.bool false,.int .i64 0,.int .i64 0,.slice none 0 0,.int .i64 0,.slice Ae 3 ce,.slice Aa 3 ca],.slice A 3 c,.int .i64 2] w λe w'=>e=.returned (.tuple #[.int .i64 3,.bool true])/\Below w.heap.size w w':=by
 have h:=xp g Ae Aa A ce ca 3 c 2 [97,97,97] [3] (λt=>decide (2<=t) && decide (t<=3)) w hm hb rfl O O O O O O (λW' t _ _=>F5 g A 3 c 2 t W');have hc:sK [3] 2 (λt=>decide (2<=t) && decide (t<=3))=some 3:=O;rw[hc]at h;exact h
theorem Hz(g b:Nat)(Ae Aa A:Option Addr)(ce ca c:Nat)(w:World)(Pf:∀W,Below b w W->gH W (.agg #[.slice Ae 3 ce,.slice Aa 3 ca]) eR/\eZ W (.slice A 3 c) [97,97,97])(h:Th b 0 [] w):Calls Tryz.prog 68 #[.agg #[.string qC,.int .i64 4,.slice none 0 0,.slice (some ⟨g,0,none⟩) 1 1,.int .i64 1,.int .i64 2,.bool false,.int .i64 0,.int .i64 0,.slice none 0 0,.int .i64 0,.slice Ae 3 ce,.slice Aa 3 ca],.slice A 3 c,.func (.func 69) #[] #[.pointer (some ⟨b,0,none⟩)]] w λe w'=>(∃v,e=.returned v)/\Th b 2 [.int .i64 0,.int .i64 0,.int .i64 2,.int .i64 0,.int .i64 2,.int .i64 3] w'/\Below b w w':=by
 have lb:b<w.heap.size:=by obtain ⟨A,c,h1,-⟩:=h;exact (γ h1).1
 have HM:=Z Pf;have HR:=Z h;clear Pf h
 go_enter Tryz.func68,Tryz.ntmps68
 go_wp2_with fail;refine dD λW0 aP=>?_;have hb0:Below w.heap.size w W0:=by rw[aP];exact υ.alloc I _
 have hF:W0.heap[w.heap.size]?=some (.cells #[.string qC,.int .i64 4,.slice none 0 0,.slice (some ⟨g,0,none⟩) 1 1,.int .i64 1,.int .i64 2,.bool false,.int .i64 0,.int .i64 0,.slice none 0 0,.int .i64 0,.slice Ae 3 ce,.slice Aa 3 ca] 95 (0,0)):=by rw[aP];exact heap_alloc_new w _
 have H0:=Z (H (hb0.mono (Nat.le_of_lt lb)) (H hF (HR.out.later hb0)));have a0:W0.cell? ⟨w.heap.size,0,none⟩=some (.string qC):=by rw[cell_of_row _ _ _ _ _ _ hF];rfl
 have a1:W0.cell? ⟨w.heap.size,1,none⟩=some (.int .i64 4):=by rw[cell_of_row _ _ _ _ _ _ hF];rfl
 have a2:W0.cell? ⟨w.heap.size,2,none⟩=some (.slice none 0 0):=by rw[cell_of_row _ _ _ _ _ _ hF];rfl
 have a3:W0.cell? ⟨w.heap.size,3,none⟩=some (.slice (some ⟨g,0,none⟩) 1 1):=by rw[cell_of_row _ _ _ _ _ _ hF];rfl
 have a4:W0.cell? ⟨w.heap.size,4,none⟩=some (.int .i64 1):=by rw[cell_of_row _ _ _ _ _ _ hF];rfl
 have a5:W0.cell? ⟨w.heap.size,5,none⟩=some (.int .i64 2):=by rw[cell_of_row _ _ _ _ _ _ hF];rfl
 have a6:W0.cell? ⟨w.heap.size,6,none⟩=some (.bool false):=by rw[cell_of_row _ _ _ _ _ _ hF];rfl
 have a7:W0.cell? ⟨w.heap.size,7,none⟩=some (.int .i64 0):=by rw[cell_of_row _ _ _ _ _ _ hF];rfl
 have a8:W0.cell? ⟨w.heap.size,8,none⟩=some (.int .i64 0):=by rw[cell_of_row _ _ _ _ _ _ hF];rfl
 have a9:W0.cell? ⟨w.heap.size,9,none⟩=some (.slice none 0 0):=by rw[cell_of_row _ _ _ _ _ _ hF];rfl
 have a10:W0.cell? ⟨w.heap.size,10,none⟩=some (.int .i64 0):=by rw[cell_of_row _ _ _ _ _ _ hF];rfl
 have a11:W0.cell? ⟨w.heap.size,11,none⟩=some (.slice Ae 3 ce):=by rw[cell_of_row _ _ _ _ _ _ hF];rfl
 have a12:W0.cell? ⟨w.heap.size,12,none⟩=some (.slice Aa 3 ca):=by rw[cell_of_row _ _ _ _ _ _ hF];rfl
 have lf:w.heap.size<W0.heap.size:=(γ hF).1;clear aP hb0 hF;refine wp_loop_rounds 3 ?_;rw[rounds_succ];go_wp2_with fail;refine (ahz g Ae Aa A ce ca c W0 (HM.out W0 H0.out.1).1 (HM.out W0 H0.out.1).2).mono ?_;rintro e w1 ⟨rfl,hb1⟩;have hz0:=lf;clear a0 a1 a2 a3 a4 a5 a6 a7 a8 a9 a10 a11 a12 lf;have H1:=Z (H (H0.out.1.trans (hb1.mono Y)) (H ((hb1.block w.heap.size hz0).trans H0.out.2.1) (H0.out.2.2.later hb1)));clear hb1;go_wp2_with fail;refine (LH b 0 0 2 [] w1 H1.out.2.2 O).mono ?_;rintro e w2 ⟨⟨v2,rfl⟩,mP,aJ,jP⟩;have Dm:=jP w.heap.size _ _ _ Y O H1.out.2.1;have H2:=Z (H (H1.out.1.trans aJ) (H Dm mP));have a0:w2.cell? ⟨w.heap.size,0,none⟩=some (.string qC):=by rw[cell_of_row _ _ _ _ _ _ Dm];rfl
 have a1:w2.cell? ⟨w.heap.size,1,none⟩=some (.int .i64 4):=by rw[cell_of_row _ _ _ _ _ _ Dm];rfl
 have a2:w2.cell? ⟨w.heap.size,2,none⟩=some (.slice none 0 0):=by rw[cell_of_row _ _ _ _ _ _ Dm];rfl
 have a3:w2.cell? ⟨w.heap.size,3,none⟩=some (.slice (some ⟨g,0,none⟩) 1 1):=by rw[cell_of_row _ _ _ _ _ _ Dm];rfl
 have a4:w2.cell? ⟨w.heap.size,4,none⟩=some (.int .i64 1):=by rw[cell_of_row _ _ _ _ _ _ Dm];rfl
 have a5:w2.cell? ⟨w.heap.size,5,none⟩=some (.int .i64 2):=by rw[cell_of_row _ _ _ _ _ _ Dm];rfl
 have a6:w2.cell? ⟨w.heap.size,6,none⟩=some (.bool false):=by rw[cell_of_row _ _ _ _ _ _ Dm];rfl
 have a7:w2.cell? ⟨w.heap.size,7,none⟩=some (.int .i64 0):=by rw[cell_of_row _ _ _ _ _ _ Dm];rfl
 have a8:w2.cell? ⟨w.heap.size,8,none⟩=some (.int .i64 0):=by rw[cell_of_row _ _ _ _ _ _ Dm];rfl
 have a9:w2.cell? ⟨w.heap.size,9,none⟩=some (.slice none 0 0):=by rw[cell_of_row _ _ _ _ _ _ Dm];rfl
 have a10:w2.cell? ⟨w.heap.size,10,none⟩=some (.int .i64 0):=by rw[cell_of_row _ _ _ _ _ _ Dm];rfl
 have a11:w2.cell? ⟨w.heap.size,11,none⟩=some (.slice Ae 3 ce):=by rw[cell_of_row _ _ _ _ _ _ Dm];rfl
 have a12:w2.cell? ⟨w.heap.size,12,none⟩=some (.slice Aa 3 ca):=by rw[cell_of_row _ _ _ _ _ _ Dm];rfl
 have lf:w.heap.size<w2.heap.size:=(γ Dm).1;clear mP aJ jP Dm;go_wp2_with fail;rw[rounds_succ];go_wp2_with fail;refine (ahA g Ae Aa A ce ca c w2 (HM.out w2 H2.out.1).1 (HM.out w2 H2.out.1).2).mono ?_;rintro e w3 ⟨rfl,bW⟩;have hz2:=lf;clear a0 a1 a2 a3 a4 a5 a6 a7 a8 a9 a10 a11 a12 lf;have H3:=Z (H (H2.out.1.trans (bW.mono Y)) (H2.out.2.2.later bW));clear bW;go_wp2_with fail;refine (LH b 1 2 3 _ w3 H3.out.2 O).mono ?_;rintro e w4 ⟨⟨v4,rfl⟩,hr4,dM,-⟩;have H4:=Z (H (H3.out.1.trans dM) hr4);clear hr4 dM;go_wp2_with fail;rw[rounds_succ];go_wp2_with fail
 go_end0
 exact ⟨⟨_,rfl⟩,H4.out.2,H4.out.1⟩
theorem Hy{w:World}{B B' k n:Nat}{e:TypeId}{v:Value}{xs:List Value}(h:w.ownsRow B e k v n xs)(hB:B'<=B):w.ownsRow B' e k v n xs:=by
 refine ⟨h.1,h.2.imp id ?_⟩;rintro ⟨g,cap,cur,h1,h2,h3⟩;exact ⟨g,cap,cur,h1,Nat.le_trans hB h2,h3⟩
theorem DH(g q:Nat)(A:Option Addr)(c:Nat)(w:World)(h:om g q w)(jL:dn w)(dV:eZ w (.slice A 3 c) [97,97,97]):Calls Tryz.prog 35 #[.agg #[.string qC,.int .i64 4,.slice none 0 0,.slice (some ⟨g,0,none⟩) 1 1,.int .i64 1,.int .i64 2,.bool false,.int .i64 0,.int .i64 0,.slice none 0 0,.int .i64 0],.slice A 3 c] w λe w'=>∃A2 c2,e=.returned (.tuple #[.slice A2 2 c2,.int .i64 0])/\w'.ownsRow 0 82 3 (.slice A2 2 c2) 2 [.int .i64 0,.int .i64 0,.int .i64 2,.int .i64 0,.int .i64 2,.int .i64 3]/\Below w.heap.size w w':=by
 have HFI:=Z λW (hb:Below w.heap.size w W)=>KZ g q W (h.later hb) (jL.later hb);have po:=Z dV;clear h jL dV
 go_enter Tryz.func35,Tryz.ntmps35
 go_wp2_with fail;refine aH λW0 aP=>?_;have hb0:Below w.heap.size w W0:=by rw[aP];exact υ.alloc I _
 have H0:=Z hb0;clear aP hb0;refine (HFI.out W0 H0.out).mono ?_;rintro e w1 ⟨Ae,ce,Aa,ca,rfl,lK,hb1⟩;have H1:=Z (H (H0.out.trans (hb1.mono H0.out.size)) lK.mc);clear lK hb1;go_wp2_with fail;refine aH λW3 mK=>?_;have aJ:Below w1.heap.size w1 (w1.alloc (.cells #[.string qC,.int .i64 4,.slice none 0 0,.slice (some ⟨g,0,none⟩) 1 1,.int .i64 1,.int .i64 2,.bool false,.int .i64 0,.int .i64 0,.slice none 0 0,.int .i64 0,.slice Ae 3 ce,.slice Aa 3 ca] 95)):=υ.alloc I _;have hz2:(w1.alloc (.cells #[.string qC,.int .i64 4,.slice none 0 0,.slice (some ⟨g,0,none⟩) 1 1,.int .i64 1,.int .i64 2,.bool false,.int .i64 0,.int .i64 0,.slice none 0 0,.int .i64 0,.slice Ae 3 ce,.slice Aa 3 ca] 95)).heap.size=w1.heap.size+1:=ξ;have bW:Below (w1.heap.size+1) (w1.alloc (.cells #[.string qC,.int .i64 4,.slice none 0 0,.slice (some ⟨g,0,none⟩) 1 1,.int .i64 1,.int .i64 2,.bool false,.int .i64 0,.int .i64 0,.slice none 0 0,.int .i64 0,.slice Ae 3 ce,.slice Aa 3 ca] 95)) W3:=by rw[mK];exact υ.alloc ξ _
 have hRn:Th (w1.heap.size+1) 0 [] W3:=by
  refine ⟨none,0,?_,World.ownsRow_nil _ _ _ _⟩;rw[mK];simpa using heap_alloc_new (w1.alloc (.cells #[.string qC,.int .i64 4,.slice none 0 0,.slice (some ⟨g,0,none⟩) 1 1,.int .i64 1,.int .i64 2,.bool false,.int .i64 0,.int .i64 0,.slice none 0 0,.int .i64 0,.slice Ae 3 ce,.slice Aa 3 ca] 95)) (.cells #[.slice none 0 0] 78)
 have aY:Below w1.heap.size w1 W3:=aJ.trans (bW.mono Y);have H3:=Z (H aY hRn);clear mK aJ hz2 bW hRn aY;refine (Hz g (w1.heap.size+1) Ae Aa A ce ca c W3 (λW hW=>⟨H1.out.2.later (H3.out.1.trans (hW.mono Y)),(po.out.later H1.out.1).later (H3.out.1.trans (hW.mono Y))⟩) H3.out.2).mono ?_;rintro e w4 ⟨⟨v4,rfl⟩,⟨A2,c2,h1,h2⟩,dM⟩;have b0:w4.cell? ⟨w1.heap.size+1,0,none⟩=some (.slice A2 2 c2):=by rw[cell_of_row _ _ _ _ _ _ h1];rfl
 have lb:w1.heap.size+1<w4.heap.size:=(γ h1).1;have H4:=Z (H (Hy h2 (Nat.zero_le _)) (H1.out.1.trans ((H3.out.1.trans (dM.mono Y)).mono H1.out.1.size)));clear h1 h2 dM;go_wp2_with fail
 go_ret2
 exact ⟨A2,c2,rfl,H4.out.1,H4.out.2⟩
theorem Qa(w:World)(jL:dn w):Calls Tryz.prog 14 #[] w λe w'=>e=.returned (.bool true)/\Below w.heap.size w w':=by
 have sJ:=Z jL;clear jL
 go_enter Tryz.func14,Tryz.ntmps14
 go_wp2_with fail;refine (K8 w).mono ?_;rintro e w1 ⟨g,q,rfl,-,rO,hb1⟩;have H1:=Z (H rO hb1);clear rO hb1;have hcv:=Go.Joins.run_convert_bytes_const_at (P:=Tryz.prog) (w1.alloc (.cells #[.int .i64 4,.slice none 0 0,.slice (some ⟨g,0,none⟩) 1 1,.int .i64 1,.int .i64 2] 41)) 28 5 #[.int .u8 97,.int .u8 97,.int .u8 97] 3 3 (w1.heap.size+1) ξ Tryz.underlying28 Tryz.underlying5;go_wp2_with fail;refine aH λW0 aP=>?_;have hb0:Below w1.heap.size w1 W0:=by rw[aP];exact (υ.alloc I _).alloc ξ _
 have dV:eZ W0 (.slice (some ⟨w1.heap.size+1,0,none⟩) 3 3) [97,97,97]:=by
  have hr:W0.heap[w1.heap.size+1]?=some (.cells #[.int .u8 97,.int .u8 97,.int .u8 97] 5 (3,4)):=by rw[aP];simpa using heap_alloc_new (w1.alloc (.cells #[.int .i64 4,.slice none 0 0,.slice (some ⟨g,0,none⟩) 1 1,.int .i64 1,.int .i64 2] 41)) (.cells #[.int .u8 97,.int .u8 97,.int .u8 97] 5 (3,4))
  refine ⟨_,3,rfl,ξ,.inr ⟨w1.heap.size+1,0,rfl,(γ hr).1,λi hi=>?_⟩⟩;rw[cell_of_row _ _ _ _ _ _ hr]
  match i,hi with
  |0,_=>rfl
  |1,_=>rfl
  |2,_=>rfl
 have H0:=Z (H (H1.out.2.trans (hb0.mono H1.out.2.size)) (H (H1.out.1.later hb0) dV));clear aP hb0 dV hcv;refine (DH g q _ 3 W0 H0.out.2.1 (sJ.out.later H0.out.1) H0.out.2.2).mono ?_;rintro e w2 ⟨A2,c2,rfl,hown,aJ⟩;have H2:=Z (H0.out.1.trans (aJ.mono H0.out.1.size));obtain ⟨g2,hA2,lg,hcs⟩:∃g2,A2=some ⟨g2,0,none⟩/\g2<w2.heap.size/\∀j,j<6->w2.cell? ⟨g2,j,none⟩=([.int .i64 0,.int .i64 0,.int .i64 2,.int .i64 0,.int .i64 2,.int .i64 3]:List Value)[j]?:=by
  rcases hown.2 with ⟨h1,h9⟩|⟨g,cap,cur,h1,hB,hg,-⟩
  .cases h9
  .injection h1 with h1 _ h3;subst h1 h3;exact ⟨g,rfl,(γ hg).1,λj hj=>World.ownsRow.cellAt hown j Y⟩
 subst hA2;have k0:w2.cell? ⟨g2,0,none⟩=some (.int .i64 0):=hcs 0 O;have k1:w2.cell? ⟨g2,1,none⟩=some (.int .i64 0):=hcs 1 O;have k2:w2.cell? ⟨g2,2,none⟩=some (.int .i64 2):=hcs 2 O;have k3:w2.cell? ⟨g2,3,none⟩=some (.int .i64 0):=hcs 3 O;have k4:w2.cell? ⟨g2,4,none⟩=some (.int .i64 2):=hcs 4 O;have k5:w2.cell? ⟨g2,5,none⟩=some (.int .i64 3):=hcs 5 O;clear hown aJ hcs;go_wp2_with fail;go_ret;exact ⟨rfl,H2.out⟩
end Go.Proofs.YtdmoogjddmdmbaaGreatDoor
