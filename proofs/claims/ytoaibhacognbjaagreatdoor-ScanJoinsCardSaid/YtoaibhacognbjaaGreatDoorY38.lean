/- (scan.Finder).Choice and choices, in general. -/
import Derived.Test.YtoaibhacognbjaaGreatDoorY31
import Derived.Test.YtoaibhacognbjaaGreatDoorY37
import Derived.Test.YtoaibhacognbjaaGreatDoorY27
namespace Go.Proofs.YtoaibhacognbjaaGreatDoor
set_option linter.unusedVariables false
set_option linter.unusedSimpArgs false
set_option maxRecDepth 100000
open Go.RowKit
def McGo (m:Mc):Prop:=Vld m∧McSm m∧1≤m.ed.length
theorem choice_any (x:KC×M2) (m:Mc) (A:Option Addr) (n c i:Nat) (bs:List Nat) (w:World) (hm:McIn w x.2.val m) (hv:McGo m) (hb:ByIn w (.slice A n c) bs) (hn:bs.length=n) (hnl:n≤900000) (hby:∀b∈bs,b<256) (hi:i≤n) :
  Calls Tryz.prog 52 #[.agg #[.string x.1.nm, .int .i64 x.1.op, .slice x.1.a1 x.1.n1 x.1.c1, .slice x.1.a2 x.1.n2 x.1.c2, .int .i64 x.1.mn, .int .i64 x.1.mx, .bool x.1.wh, .int .i64 x.1.ck, .int .i64 x.1.en, .slice x.1.a3 x.1.n3 x.1.c3, .int .i64 x.1.nr, .slice x.2.a1 x.2.n1 x.2.c1, .slice x.2.a2 x.2.n2 x.2.c2], .slice A n c, .int .i64 (i:Int)] w fun e w'=>e = .returned (.tuple #[.int .i64 (((chF m x.1.wh bs i).getD 0:Nat):Int), .bool (chF m x.1.wh bs i).isSome])∧Below w.heap.size w w':=by
 have hmem:=rchF_mem m (bs.drop i) 0 i;refine fchoice_any x.1 m x.2.a1 x.2.a2 A x.2.n1 x.2.n2 x.2.c1 x.2.c2 n c i bs (rchF m (bs.drop i) 0 i) (clrF x.1.wh bs i) w hm hv.1 hv.2.1 hv.2.2 hb hn hnl hby hi rfl ?_ ?_ ?_
 ·have:=rch_len m (bs.drop i) 0 i;rw[List.length_drop]at this;omega
 ·intro t ht;obtain ⟨j,rfl,h1,-⟩:=(hmem t).1 ht;rw[List.length_drop]at h1;omega
 ·intro W t hW _;exact clear_any x.1 A n c i t bs W (hb.later hW) hn hnl
theorem chs_step {f:Nat→Option Nat} {n:Nat} (hf:∀i t,i<n→f i=some t→i<t) {i:Nat} (hi:i<n):chsF f n n i=match f i with | none=>chsF f n n (i+1) | some t=>(i,t)::chsF f n n t:=by
 obtain ⟨k,rfl⟩:∃k,n=k+1:=⟨n - 1,by omega⟩
 rw[chsF,if_pos hi]
 cases h:f i with
 | none=>exact chsF_more f (k+1) hf k (k+1) (i+1) (by omega) (by omega)
 | some t=>
  have:=hf i t hi h;show (i,t)::_=(i,t)::_;rw[chsF_more f (k+1) hf k (k+1) t (by omega) (by omega)]
theorem chs_end {f:Nat→Option Nat} {n i:Nat} (hi:n≤i):chsF f n n i=[]:=by
 cases n with
 | zero=>rfl
 | succ k=>rw[chsF,if_neg (by omega)]
def EachP (b TY:Nat) (I:List (Nat×Nat)→World→Prop) (l:List (Nat×Nat)) (W:World) (e:Ending) (w':World):Prop:=
 (∃v,e = .returned v)∧I l w'∧Below b W w'∧∀q T cs m,q≠b→T≠TY→W.heap[q]?=some (.cells cs T m)→w'.heap[q]?=some (.cells cs T m)
def bxF (x:KC×M2) (b:Nat) (w:World):Prop:=w.heap[b]?=some (.cells #[.string x.1.nm, .int .i64 x.1.op, .slice x.1.a1 x.1.n1 x.1.c1, .slice x.1.a2 x.1.n2 x.1.c2, .int .i64 x.1.mn, .int .i64 x.1.mx, .bool x.1.wh, .int .i64 x.1.ck, .int .i64 x.1.en, .slice x.1.a3 x.1.n3 x.1.c3, .int .i64 x.1.nr, .slice x.2.a1 x.2.n1 x.2.c1, .slice x.2.a2 x.2.n2 x.2.c2] 78 (0,0))
theorem bxF.later {x:KC×M2} {b:Nat} {w w':World} (h:bxF x b w) (hb:Below w.heap.size w w'):bxF x b w':=(hb.block b (Array.getElem?_eq_some_iff.1 h).1).trans h
theorem bxF.cells {x:KC×M2} {b:Nat} {w:World} (h:bxF x b w):(w.cell? ⟨b,0,none⟩=some (.string x.1.nm)∧w.cell? ⟨b,1,none⟩=some (.int .i64 x.1.op)∧w.cell? ⟨b,2,none⟩=some (.slice x.1.a1 x.1.n1 x.1.c1)∧w.cell? ⟨b,3,none⟩=some (.slice x.1.a2 x.1.n2 x.1.c2)∧w.cell? ⟨b,4,none⟩=some (.int .i64 x.1.mn)∧w.cell? ⟨b,5,none⟩=some (.int .i64 x.1.mx))∧(w.cell? ⟨b,6,none⟩=some (.bool x.1.wh)∧w.cell? ⟨b,7,none⟩=some (.int .i64 x.1.ck)∧w.cell? ⟨b,8,none⟩=some (.int .i64 x.1.en)∧w.cell? ⟨b,9,none⟩=some (.slice x.1.a3 x.1.n3 x.1.c3)∧w.cell? ⟨b,10,none⟩=some (.int .i64 x.1.nr))∧(w.cell? ⟨b,11,none⟩=some (.slice x.2.a1 x.2.n1 x.2.c1)∧w.cell? ⟨b,12,none⟩=some (.slice x.2.a2 x.2.n2 x.2.c2))∧b<w.heap.size:=by
 refine ⟨⟨?_,?_,?_,?_,?_,?_⟩,⟨?_,?_,?_,?_,?_⟩,⟨?_,?_⟩,(Array.getElem?_eq_some_iff.1 h).1⟩ <;> (rw[cell_of_row _ _ _ _ _ _ h]; rfl)
set_option maxHeartbeats 8000000 in
theorem choices_any (x:KC×M2) (m:Mc) (A:Option Addr) (n c b TY gi:Nat) (caps:Array Value) (bs:List Nat) (I:List (Nat×Nat)→World→Prop) (w:World) (hei:∀args w',(callFunc gi args).run Tryz.prog w' = .ok (.enter gi args) w') (hmb:∀W,Below b w W→McIn W x.2.val m∧ByIn W (.slice A n c) bs) (hv:McGo m) (hn:bs.length=n) (hnl:n≤900000) (hby:∀b∈bs,b<256)
  (hb:b<w.heap.size) (hTY:TY≠78) (h0:I [] w) (hIl:∀l W W',I l W→Below W.heap.size W W'→I l W')
  (hE:∀l a z W,(l++[(a,z)]).length≤n→a<z∧z≤n→Below b w W→I l W→Calls Tryz.prog gi (#[.int .i64 (a:Int), .int .i64 (z:Int)]++caps) W (EachP b TY I (l++[(a,z)]) W)) :
  Calls Tryz.prog 42 #[.agg #[.string x.1.nm, .int .i64 x.1.op, .slice x.1.a1 x.1.n1 x.1.c1, .slice x.1.a2 x.1.n2 x.1.c2, .int .i64 x.1.mn, .int .i64 x.1.mx, .bool x.1.wh, .int .i64 x.1.ck, .int .i64 x.1.en, .slice x.1.a3 x.1.n3 x.1.c3, .int .i64 x.1.nr, .slice x.2.a1 x.2.n1 x.2.c1, .slice x.2.a2 x.2.n2 x.2.c2], .slice A n c, .func (.func gi) #[] caps] w fun e w'=>(∃v,e = .returned v)∧I (chA m x.1.wh bs) w'∧Below b w w':=by
 have HM:=Lib.hid hmb;have HC:=Lib.hid fun (i:Nat) (hi:i≤n) (W:World) (hW:Below b w W)=>choice_any x m A n c i bs W (hmb W hW).1 hv (hmb W hW).2 hn hnl hby hi;have HE:=Lib.hid hE;have HI:=Lib.hid (And.intro hIl hTY);have hwh:∃wh,x.1.wh=wh:=⟨_,rfl⟩;obtain ⟨f,hf⟩:∃f,chF m x.1.wh bs=f:=⟨_,rfl⟩;have hlt:∀i t,i<n→f i=some t→i<t∧t≤n:=fun i t hi h=>by rw[←hn];rw[←hf]at h;exact chF_lt (by omega) h
 have hch:chA m x.1.wh bs=chsF f n n 0:=by unfold chA;rw[hn,hf]
 have hlen:∀k i,i≤n→(chsF f n k i).length+i≤n:=by
  intro k
  induction k with
  | zero=>intro i hi;rw[chsF];simpa using hi
  | succ k ih=>
   intro i hi;rw[chsF];by_cases h:i<n
   ·rw[if_pos h]
    cases hfi:f i with
    | none=>have:=ih (i+1) (by omega);show (chsF f n k (i+1)).length+i≤n;omega
    | some t=>have h9:=hlt i t h hfi;have:=ih t h9.2;show ((i,t)::chsF f n k t).length+i≤n;simp only[List.length_cons];omega
   ·rw[if_neg h];simpa using hi
 rw[hch];have hlen0:=hlen n 0 (Nat.zero_le _);obtain ⟨L,hL⟩:∃L,chsF f n n 0=L:=⟨_,rfl⟩;rw[hL]at hlen0⊢;have HL:=Lib.hid (And.intro hL (And.intro hlt hlen0));have HF:=Lib.hid hf;have HI0:=Lib.hid h0;clear hmb hv hby hE hIl hTY h0 hch hlen hlen0 hlt hL hf hwh hn
 go_enter Tryz.func42,Tryz.ntmps42
 go_wp2_with fail;refine wp_nm fun W0 hW0=>?_;have hb0:Below w.heap.size w W0:=by rw[hW0];exact (Below.refl _ _).alloc (Nat.le_refl _) _
 have hX0:bxF x w.heap.size W0:=by rw[hW0];exact heap_alloc_new w _
 have H0:=Lib.hid (And.intro (hb0.mono (Nat.le_of_lt hb)) (And.intro hX0 (HI.out.1 [] w W0 HI0.out hb0)));clear hW0 hb0 hX0 HI0
 go_loopw [6] (fun v wr=>∃(i:Nat) (l:List (Nat×Nat)),i≤n∧v = .int .i64 (i:Int)∧Hid (l++chsF f n n i=L∧I l wr)∧bxF x w.heap.size wr∧Below b w wr) (fun v _=>n - (intOf v).toNat)
 case atStart=>exact ⟨0,[],by omega,rfl,⟨HL.out.1,H0.out.2.2⟩,H0.out.2.1,H0.out.1⟩
 case round=>
  obtain ⟨i,l,hi,rfl,HR,hX,hbw⟩:=hrel;by_cases hin:i<n
  ·have hd:decide ((i:Int)<(n:Int))=true:=decide_eq_true (by omega)
   have hdn:decide (i<n)=true:=decide_eq_true hin;obtain ⟨⟨c0,c1,c2,c3,c4,c5⟩,⟨c6,c7,c8,c9,c10⟩,⟨c11,c12⟩,lb⟩:=hX.cells;have H1:=Lib.hid (And.intro hX hbw);have CC:=Lib.hid (HC.out i hi wr hbw);rw[HF.out]at CC;have hst:=chs_step (fun i t h1 h2=>(HL.out.2.1 i t h1 h2).1) hin;clear hX hbw
   cases hfi:f i with
   | none=>
    rw[hfi]at CC hst;have HS:=Lib.hid hst;clear hst hfi;go_wp2_with fail;refine CC.out.mono ?_;rintro e w1 ⟨rfl,hb1⟩;have H2:=Lib.hid (And.intro (H1.out.1.later hb1) (And.intro (H1.out.2.trans (hb1.mono (by have:=H1.out.2.size;omega))) (HI.out.1 l wr w1 HR.out.2 hb1)))
    clear hb1 c0 c1 c2 c3 c4 c5 c6 c7 c8 c9 c10 c11 c12 lb;go_wp2_with fail;go_roundw
    case rel=>exact ⟨i+1,l,by omega,by go_num,⟨by rw[←HR.out.1,HS.out],H2.out.2.2⟩,H2.out.1,H2.out.2.1⟩
    case measure=>simp[intOf];omega
   | some t=>
    rw[hfi]at CC hst;have htt:=HL.out.2.1 i t hin hfi;have HS:=Lib.hid hst;clear hst hfi;go_wp2_with fail;refine CC.out.mono ?_;rintro e w1 ⟨rfl,hb1⟩;have H2:=Lib.hid (And.intro (H1.out.1.later hb1) (And.intro (H1.out.2.trans (hb1.mono (by have:=H1.out.2.size;omega))) (HI.out.1 l wr w1 HR.out.2 hb1)))
    clear hb1 c0 c1 c2 c3 c4 c5 c6 c7 c8 c9 c10 c11 c12 lb;have hll:(l++[(i,t)]).length≤n:=by
     have h1:=congrArg List.length HR.out.1;rw[HS.out]at h1;have:=HL.out.2.2;simp only[List.length_append,List.length_cons]at h1⊢;simp only[List.length_nil];omega
    have HEE:=Lib.hid (HE.out l i t w1 hll htt H2.out.2.1 H2.out.2.2);have htz:(t:Int)≤n:=by omega
    clear hll;go_wp2_with fail;refine HEE.out.mono ?_;rintro e w2 ⟨⟨v2,rfl⟩,hI2,hb2,hk2⟩;have H3:=Lib.hid (And.intro (show bxF x w.heap.size w2 from hk2 w.heap.size _ _ _ (by omega) (fun e=>HI.out.2 e.symm) H2.out.1) (And.intro (H2.out.2.1.trans hb2) hI2))
    clear hI2 hb2 hk2;go_wp2_with fail;go_roundw
    case rel=>exact ⟨t,l++[(i,t)],by omega,by go_num,⟨by rw[←HR.out.1,HS.out];simp,H3.out.2.2⟩,H3.out.1,H3.out.2.1⟩
    case measure=>simp[intOf];omega
  ·obtain rfl:i=n:=by omega
   have hd:decide ((i:Int)<(i:Int))=false:=decide_eq_false (by omega)
   have hdn:decide (i<i)=false:=decide_eq_false (by omega)
   go_wp2_with fail
   go_end0
   refine ⟨⟨_,rfl⟩,?_,hbw⟩;have h1:=HR.out.1;rw[chs_end (Nat.le_refl _),List.append_nil]at h1;rw[←h1];exact HR.out.2
end Go.Proofs.YtoaibhacognbjaaGreatDoor
