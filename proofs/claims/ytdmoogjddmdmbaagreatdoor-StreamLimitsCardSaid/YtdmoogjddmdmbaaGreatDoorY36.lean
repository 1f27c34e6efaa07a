/- (scan.Finder).Choice and choices, in general. -/
import Derived.Test.YtdmoogjddmdmbaaGreatDoorY29
import Derived.Test.YtdmoogjddmdmbaaGreatDoorY35
import Derived.Test.YtdmoogjddmdmbaaGreatDoorY25
namespace Go.Proofs.YtdmoogjddmdmbaaGreatDoor
set_option linter.unusedVariables false
set_option linter.unusedSimpArgs false
set_option maxRecDepth 100000
open Go.RowKit
def McGo (m:Mc):Prop:=Vld m/\McSm m/\1<=m.ed.length
theorem choice_any (x:KC×M2) (m:Mc) (A:Option Addr) (n c i:Nat) (bs:List Nat) (w:World) (hm:McIn w x.2.val m) (hv:McGo m) (hb:ByIn w (.slice A n c) bs) (hn:bs.length=n) (hnl:n<=900000) (hby:∀b∈bs,b<256) (hi:i<=n) :
  Calls Tryz.prog 75 #[.agg #[.string x.1.nm, .int .i64 x.1.op, .slice x.1.a1 x.1.n1 x.1.c1, .slice x.1.a2 x.1.n2 x.1.c2, .int .i64 x.1.mn, .int .i64 x.1.mx, .bool x.1.wh, .int .i64 x.1.ck, .int .i64 x.1.en, .slice x.1.a3 x.1.n3 x.1.c3, .int .i64 x.1.nr, .slice x.2.a1 x.2.n1 x.2.c1, .slice x.2.a2 x.2.n2 x.2.c2], .slice A n c, .int .i64 (i:Int)] w λe w'=>e = .returned (.tuple #[.int .i64 (((chF m x.1.wh bs i).getD 0:Nat):Int), .bool (chF m x.1.wh bs i).isSome])/\Below w.heap.size w w':=by
 have hmem:=rchF_mem m (bs.drop i) 0 i;refine fchoice_any x.1 m x.2.a1 x.2.a2 A x.2.n1 x.2.n2 x.2.c1 x.2.c2 n c i bs (rchF m (bs.drop i) 0 i) (clrF x.1.wh bs i) w hm hv.1 hv.2.1 hv.2.2 hb hn hnl hby hi rfl ?_ ?_ ?_
 .have:=rch_len m (bs.drop i) 0 i;rw[List.length_drop]at this;omega
 .intro t ht;obtain ⟨j,rfl,h1,-⟩:=(hmem t).1 ht;rw[List.length_drop]at h1;omega
 .intro W t hW _;exact clear_any x.1 A n c i t bs W (hb.later hW) hn hnl
def EachP (b TY:Nat) (I:List (Nat×Nat)->World->Prop) (l:List (Nat×Nat)) (W:World) (e:Ending) (w':World):Prop:=
 (∃v,e = .returned v)/\I l w'/\Below b W w'/\∀q T cs m,q≠b->T≠TY->W.heap[q]?=some (.cells cs T m)->w'.heap[q]?=some (.cells cs T m)
def bxF (x:KC×M2) (b:Nat) (w:World):Prop:=w.heap[b]?=some (.cells #[.string x.1.nm, .int .i64 x.1.op, .slice x.1.a1 x.1.n1 x.1.c1, .slice x.1.a2 x.1.n2 x.1.c2, .int .i64 x.1.mn, .int .i64 x.1.mx, .bool x.1.wh, .int .i64 x.1.ck, .int .i64 x.1.en, .slice x.1.a3 x.1.n3 x.1.c3, .int .i64 x.1.nr, .slice x.2.a1 x.2.n1 x.2.c1, .slice x.2.a2 x.2.n2 x.2.c2] 95 (0,0))
theorem bxF.later {x:KC×M2} {b:Nat} {w w':World} (h:bxF x b w) (hb:Below w.heap.size w w'):bxF x b w':=(hb.block b (Array.getElem?_eq_some_iff.1 h).1).trans h
theorem bxF.cells {x:KC×M2} {b:Nat} {w:World} (h:bxF x b w):(w.cell? ⟨b,0,none⟩=some (.string x.1.nm)/\w.cell? ⟨b,1,none⟩=some (.int .i64 x.1.op)/\w.cell? ⟨b,2,none⟩=some (.slice x.1.a1 x.1.n1 x.1.c1)/\w.cell? ⟨b,3,none⟩=some (.slice x.1.a2 x.1.n2 x.1.c2)/\w.cell? ⟨b,4,none⟩=some (.int .i64 x.1.mn)/\w.cell? ⟨b,5,none⟩=some (.int .i64 x.1.mx))/\(w.cell? ⟨b,6,none⟩=some (.bool x.1.wh)/\w.cell? ⟨b,7,none⟩=some (.int .i64 x.1.ck)/\w.cell? ⟨b,8,none⟩=some (.int .i64 x.1.en)/\w.cell? ⟨b,9,none⟩=some (.slice x.1.a3 x.1.n3 x.1.c3)/\w.cell? ⟨b,10,none⟩=some (.int .i64 x.1.nr))/\(w.cell? ⟨b,11,none⟩=some (.slice x.2.a1 x.2.n1 x.2.c1)/\w.cell? ⟨b,12,none⟩=some (.slice x.2.a2 x.2.n2 x.2.c2))/\b<w.heap.size:=by
 refine ⟨⟨?_,?_,?_,?_,?_,?_⟩,⟨?_,?_,?_,?_,?_⟩,⟨?_,?_⟩,(Array.getElem?_eq_some_iff.1 h).1⟩ <;> (rw[cell_of_row _ _ _ _ _ _ h]; rfl)
end Go.Proofs.YtdmoogjddmdmbaaGreatDoor
