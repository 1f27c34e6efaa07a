/- Walks. -/
import Derived.Test.YtdmoogjddmdmbaaGreatDoorV29
import Derived.Test.YtdmoogjddmdmbaaGreatDoorV35
import Derived.Test.YtdmoogjddmdmbaaGreatDoorV25
set_option maxRecDepth 100000
set_option maxHeartbeats 16000000
set_option linter.unusedVariables false
set_option linter.unusedSimpArgs false
namespace Go.Proofs.YtdmoogjddmdmbaaGreatDoor
open Go.RowKit
section
set_option linter.unusedVariables false
set_option linter.unusedSimpArgs false
open Go.RowKit
def BQ (m:Mc):Prop:=pL m/\sf m/\1<=m.ed.length
theorem tV (x:KC×M2) (m:Mc) (A:Option Addr) (n c i:Nat) (bs:List Nat) (w:World) (hm:ia w x.2.val m) (hv:BQ m) (hb:lU w (.slice A n c) bs) (hn:bs.length=n) (lZ:n<=900000) (fO:∀b∈bs,b<256) (hi:i<=n) :
  Calls Tryz.prog 75 #[.agg #[.string x.1.nm, .int .i64 x.1.op, .slice x.1.a1 x.1.n1 x.1.c1, .slice x.1.a2 x.1.n2 x.1.c2, .int .i64 x.1.mn, .int .i64 x.1.mx, .bool x.1.wh, .int .i64 x.1.ck, .int .i64 x.1.en, .slice x.1.a3 x.1.n3 x.1.c3, .int .i64 x.1.nr, .slice x.2.a1 x.2.n1 x.2.c1, .slice x.2.a2 x.2.n2 x.2.c2], .slice A n c, .int .i64 (i:Int)] w λe w'=>e = .returned (.tuple #[.int .i64 (((mR m x.1.wh bs i).getD 0:Nat):Int), .bool (mR m x.1.wh bs i).isSome])/\Below w.heap.size w w':=by
 have bW:=mf m (bs.drop i) 0 i;refine BR x.1 m x.2.a1 x.2.a2 A x.2.n1 x.2.n2 x.2.c1 x.2.c2 n c i bs (gL m (bs.drop i) 0 i) (tW x.1.wh bs i) w hm hv.1 hv.2.1 hv.2.2 hb hn lZ fO hi rfl ?_ ?_ ?_
 .have:=Ga m (bs.drop i) 0 i;rw[List.length_drop]at this;omega
 .intro t ht;obtain ⟨j,rfl,h1,-⟩:=(bW t).1 ht;rw[List.length_drop]at h1;omega
 .intro W t hW _;exact IW x.1 A n c i t bs W (hb.later hW) hn lZ
theorem Mb {f:Nat->Option Nat} {n:Nat} (hf:∀i t,i<n->f i=some t->i<t) {i:Nat} (hi:i<n):dL f n n i=match f i with | none=>dL f n n (i+1) | some t=>(i,t)::dL f n n t:=by
 obtain ⟨k,rfl⟩:∃k,n=k+1:=⟨n - 1,by omega⟩
 rw[dL,if_pos hi]
 cases h:f i with
 | none=>exact jT f (k+1) hf k (k+1) (i+1) (by omega) (by omega)
 | some t=>
  have:=hf i t hi h;show (i,t)::_=(i,t)::_;rw[jT f (k+1) hf k (k+1) t (by omega) (by omega)]
theorem Qs {f:Nat->Option Nat} {n i:Nat} (hi:n<=i):dL f n n i=[]:=by
 cases n with
 | zero=>rfl
 | succ k=>rw[dL,if_neg (by omega)]
def Tr (b TY:Nat) (I:List (Nat×Nat)->World->Prop) (l:List (Nat×Nat)) (W:World) (e:Ending) (w':World):Prop:=
 (∃v,e = .returned v)/\I l w'/\Below b W w'/\∀q T cs m,q≠b->T≠TY->W.heap[q]?=some (.cells cs T m)->w'.heap[q]?=some (.cells cs T m)
def KV (x:KC×M2) (b:Nat) (w:World):Prop:=w.heap[b]?=some (.cells #[.string x.1.nm, .int .i64 x.1.op, .slice x.1.a1 x.1.n1 x.1.c1, .slice x.1.a2 x.1.n2 x.1.c2, .int .i64 x.1.mn, .int .i64 x.1.mx, .bool x.1.wh, .int .i64 x.1.ck, .int .i64 x.1.en, .slice x.1.a3 x.1.n3 x.1.c3, .int .i64 x.1.nr, .slice x.2.a1 x.2.n1 x.2.c1, .slice x.2.a2 x.2.n2 x.2.c2] 95 (0,0))
theorem KV.later {x:KC×M2} {b:Nat} {w w':World} (h:KV x b w) (hb:Below w.heap.size w w'):KV x b w':=(hb.block b (Array.getElem?_eq_some_iff.1 h).1).trans h
theorem KV.cells {x:KC×M2} {b:Nat} {w:World} (h:KV x b w):(w.cell? ⟨b,0,none⟩=some (.string x.1.nm)/\w.cell? ⟨b,1,none⟩=some (.int .i64 x.1.op)/\w.cell? ⟨b,2,none⟩=some (.slice x.1.a1 x.1.n1 x.1.c1)/\w.cell? ⟨b,3,none⟩=some (.slice x.1.a2 x.1.n2 x.1.c2)/\w.cell? ⟨b,4,none⟩=some (.int .i64 x.1.mn)/\w.cell? ⟨b,5,none⟩=some (.int .i64 x.1.mx))/\(w.cell? ⟨b,6,none⟩=some (.bool x.1.wh)/\w.cell? ⟨b,7,none⟩=some (.int .i64 x.1.ck)/\w.cell? ⟨b,8,none⟩=some (.int .i64 x.1.en)/\w.cell? ⟨b,9,none⟩=some (.slice x.1.a3 x.1.n3 x.1.c3)/\w.cell? ⟨b,10,none⟩=some (.int .i64 x.1.nr))/\(w.cell? ⟨b,11,none⟩=some (.slice x.2.a1 x.2.n1 x.2.c1)/\w.cell? ⟨b,12,none⟩=some (.slice x.2.a2 x.2.n2 x.2.c2))/\b<w.heap.size:=by
 refine ⟨⟨?_,?_,?_,?_,?_,?_⟩,⟨?_,?_,?_,?_,?_⟩,⟨?_,?_⟩,(Array.getElem?_eq_some_iff.1 h).1⟩ <;> (rw[cell_of_row _ _ _ _ _ _ h]; rfl)
set_option maxHeartbeats 8000000 in
theorem BS (x:KC×M2) (m:Mc) (A:Option Addr) (n c b TY gi:Nat) (bQ:Array Value) (bs:List Nat) (I:List (Nat×Nat)->World->Prop) (w:World) (hei:∀args w',(callFunc gi args).run Tryz.prog w' = .ok (.enter gi args) w') (Va:∀W,Below b w W->ia W x.2.val m/\lU W (.slice A n c) bs) (hv:BQ m) (hn:bs.length=n) (lZ:n<=900000) (fO:∀b∈bs,b<256)
  (hb:b<w.heap.size) (hTY:TY≠95) (h0:I [] w) (hIl:∀l W W',I l W->Below W.heap.size W W'->I l W')
  (hE:∀l a z W,(l++[(a,z)]).length<=n->a<z/\z<=n->Below b w W->I l W->Calls Tryz.prog gi (#[.int .i64 (a:Int), .int .i64 (z:Int)]++bQ) W (Tr b TY I (l++[(a,z)]) W)) :
  Calls Tryz.prog 68 #[.agg #[.string x.1.nm, .int .i64 x.1.op, .slice x.1.a1 x.1.n1 x.1.c1, .slice x.1.a2 x.1.n2 x.1.c2, .int .i64 x.1.mn, .int .i64 x.1.mx, .bool x.1.wh, .int .i64 x.1.ck, .int .i64 x.1.en, .slice x.1.a3 x.1.n3 x.1.c3, .int .i64 x.1.nr, .slice x.2.a1 x.2.n1 x.2.c1, .slice x.2.a2 x.2.n2 x.2.c2], .slice A n c, .func (.func gi) #[] bQ] w λe w'=>(∃v,e = .returned v)/\I (Gt m x.1.wh bs) w'/\Below b w w':=by
 have HM:=Lib.hid Va;have HC:=Lib.hid λ(i:Nat) (hi:i<=n) (W:World) (hW:Below b w W)=>tV x m A n c i bs W (Va W hW).1 hv (Va W hW).2 hn lZ fO hi;have HE:=Lib.hid hE;have HI:=Lib.hid (And.intro hIl hTY);have hwh:∃wh,x.1.wh=wh:=⟨_,rfl⟩;obtain ⟨f,hf⟩:∃f,mR m x.1.wh bs=f:=⟨_,rfl⟩;have hlt:∀i t,i<n->f i=some t->i<t/\t<=n:=λi t hi h=>by rw[<-hn];rw[<-hf]at h;exact Md (by omega) h
 have Vb:Gt m x.1.wh bs=dL f n n 0:=by unfold Gt;rw[hn,hf]
 have hlen:∀k i,i<=n->(dL f n k i).length+i<=n:=by
  intro k
  induction k with
  | zero=>intro i hi;rw[dL];simpa using hi
  | succ k ih=>
   intro i hi;rw[dL];by_cases h:i<n
   .rw[if_pos h]
    cases Em:f i with
    | none=>have:=ih (i+1) (by omega);show (dL f n k (i+1)).length+i<=n;omega
    | some t=>have h9:=hlt i t h Em;have:=ih t h9.2;show ((i,t)::dL f n k t).length+i<=n;simp only[List.length_cons];omega
   .rw[if_neg h];simpa using hi
 rw[Vb];have BU:=hlen n 0 (Nat.zero_le _);obtain ⟨L,hL⟩:∃L,dL f n n 0=L:=⟨_,rfl⟩;rw[hL]at BU|-;have HL:=Lib.hid (And.intro hL (And.intro hlt BU));have HF:=Lib.hid hf;have Py:=Lib.hid h0;clear Va hv fO hE hIl hTY h0 Vb hlen BU hlt hL hf hwh hn
 go_enter Tryz.func68,Tryz.ntmps68
 go_wp2_with fail;refine dN λW0 ik=>?_;have hb0:Below w.heap.size w W0:=by rw[ik];exact (Below.refl _ _).alloc (Nat.le_refl _) _
 have hX0:KV x w.heap.size W0:=by rw[ik];exact heap_alloc_new w _
 have H0:=Lib.hid (And.intro (hb0.mono (Nat.le_of_lt hb)) (And.intro hX0 (HI.out.1 [] w W0 Py.out hb0)));clear ik hb0 hX0 Py
 go_loopw [6] (λv wr=>∃(i:Nat) (l:List (Nat×Nat)),i<=n/\v = .int .i64 (i:Int)/\Hid (l++dL f n n i=L/\I l wr)/\KV x w.heap.size wr/\Below b w wr) (λv _=>n - (intOf v).toNat)
 case atStart=>exact ⟨0,[],by omega,rfl,⟨HL.out.1,H0.out.2.2⟩,H0.out.2.1,H0.out.1⟩
 case round=>
  obtain ⟨i,l,hi,rfl,HR,hX,aP⟩:=hrel;by_cases dk:i<n
  .have hd:decide ((i:Int)<(n:Int))=true:=decide_eq_true (by omega)
   have iI:decide (i<n)=true:=decide_eq_true dk;obtain ⟨⟨c0,c1,c2,c3,c4,c5⟩,⟨c6,c7,c8,c9,tX⟩,⟨Ts,Tt⟩,lb⟩:=hX.cells;have H1:=Lib.hid (And.intro hX aP);have CC:=Lib.hid (HC.out i hi wr aP);rw[HF.out]at CC;have bT:=Mb (λi t h1 h2=>(HL.out.2.1 i t h1 h2).1) dk;clear hX aP
   cases Em:f i with
   | none=>
    rw[Em]at CC bT;have HS:=Lib.hid bT;clear bT Em;go_wp2_with fail;refine CC.out.mono ?_;rintro e w1 ⟨rfl,hb1⟩;have H2:=Lib.hid (And.intro (H1.out.1.later hb1) (And.intro (H1.out.2.trans (hb1.mono (by have:=H1.out.2.size;omega))) (HI.out.1 l wr w1 HR.out.2 hb1)))
    clear hb1 c0 c1 c2 c3 c4 c5 c6 c7 c8 c9 tX Ts Tt lb;go_wp2_with fail;go_roundw
    case rel=>exact ⟨i+1,l,by omega,by go_num,⟨by rw[<-HR.out.1,HS.out],H2.out.2.2⟩,H2.out.1,H2.out.2.1⟩
    case measure=>simp[intOf];omega
   | some t=>
    rw[Em]at CC bT;have htt:=HL.out.2.1 i t dk Em;have HS:=Lib.hid bT;clear bT Em;go_wp2_with fail;refine CC.out.mono ?_;rintro e w1 ⟨rfl,hb1⟩;have H2:=Lib.hid (And.intro (H1.out.1.later hb1) (And.intro (H1.out.2.trans (hb1.mono (by have:=H1.out.2.size;omega))) (HI.out.1 l wr w1 HR.out.2 hb1)))
    clear hb1 c0 c1 c2 c3 c4 c5 c6 c7 c8 c9 tX Ts Tt lb;have hll:(l++[(i,t)]).length<=n:=by
     have h1:=congrArg List.length HR.out.1;rw[HS.out]at h1;have:=HL.out.2.2;simp only[List.length_append,List.length_cons]at h1|-;simp only[List.length_nil];omega
    have HEE:=Lib.hid (HE.out l i t w1 hll htt H2.out.2.1 H2.out.2.2);have htz:(t:Int)<=n:=by omega
    clear hll;go_wp2_with fail;refine HEE.out.mono ?_;rintro e w2 ⟨⟨v2,rfl⟩,hI2,aL,bM⟩;have H3:=Lib.hid (And.intro (show KV x w.heap.size w2 from bM w.heap.size _ _ _ (by omega) (λe=>HI.out.2 e.symm) H2.out.1) (And.intro (H2.out.2.1.trans aL) hI2))
    clear hI2 aL bM;go_wp2_with fail;go_roundw
    case rel=>exact ⟨t,l++[(i,t)],by omega,by go_num,⟨by rw[<-HR.out.1,HS.out];simp,H3.out.2.2⟩,H3.out.1,H3.out.2.1⟩
    case measure=>simp[intOf];omega
  .obtain rfl:i=n:=by omega
   have hd:decide ((i:Int)<(i:Int))=false:=decide_eq_false (by omega)
   have iI:decide (i<i)=false:=decide_eq_false (by omega)
   go_wp2_with fail
   go_end0
   refine ⟨⟨_,rfl⟩,?_,aP⟩;have h1:=HR.out.1;rw[Qs (Nat.le_refl _),List.append_nil]at h1;rw[<-h1];exact HR.out.2
end
end Go.Proofs.YtdmoogjddmdmbaaGreatDoor
