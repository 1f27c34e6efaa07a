/- What the joined texts lack. -/
import Derived.Test.YtoaibhacognbjaaGreatDoorY02
import Derived.WalkKit
import Derived.WalkSpells
import Derived.WalkLawsBesides
import Derived.Lib.Hide
import Derived.Lib.ConvBytes
import Derived.BigQuiet
import Derived.Test.YtoaibhacognbjaaGreatDoorY01
import Derived.IntWalk
import Derived.Laws.Entries
import Derived.Laws.Closers25b
import Derived.Laws.BitsAllLaws
import Derived.Lib.Strings
import Derived.Test.YtoaibhacognbjaaGreatDoorY18
import Derived.Lib.LaidTab
import Derived.Lib.ItoaNum
import Derived.Test.YtoaibhacognbjaaGreatDoorY04
import Derived.Maps.Own
import Derived.Maps.OwnOps
import Derived.Maps.OwnSet
import Derived.Maps.Views
import Derived.Test.YtoaibhacognbjaaGreatDoorY16
import Derived.Test.YtoaibhacognbjaaGreatDoorY14
import Derived.Test.YtoaibhacognbjaaGreatDoorY12
import Derived.Test.YtoaibhacognbjaaGreatDoorY10
import Derived.Test.YtoaibhacognbjaaGreatDoorY08
import Derived.Test.YtoaibhacognbjaaGreatDoorY07
import Derived.Test.YtoaibhacognbjaaGreatDoorY06
import Derived.Test.YtoaibhacognbjaaGreatDoorY05
import Derived.Deep.RegionHeld3
import Derived.Deep.QuietTactic
import Derived.Laws.AppendOwnNone
import Derived.Laws.OwnMore
import Derived.Test.YtoaibhacognbjaaGreatDoorY09
import Derived.Lib.AppendZerosOnto
import Derived.Lib.SliceRun
import Derived.Lib.OwnBridge
import Derived.LoopN
import Derived.StillTailTactics
import Derived.Test.YtoaibhacognbjaaGreatDoorY11
import Derived.Test.YtoaibhacognbjaaGreatDoorY13
import Derived.Lib.Itoa
import Derived.Test.YtoaibhacognbjaaGreatDoorY15
import Derived.RangeFuncRecord
import Derived.Laws.MakeOwn
import Derived.Test.YtoaibhacognbjaaGreatDoorY24
import Derived.Test.YtoaibhacognbjaaGreatDoorY27
import Derived.Test.YtoaibhacognbjaaGreatDoorY21
import Derived.Deep.LoopGhost
import Derived.Test.YtoaibhacognbjaaGreatDoorY25
import Derived.Test.YtoaibhacognbjaaGreatDoorY26
import Derived.Lib.AsciiSet
import Derived.Test.YtoaibhacognbjaaGreatDoorY19
import Derived.Deep.WholeRow
import Derived.Test.YtoaibhacognbjaaGreatDoorY31
import Derived.Deep.AppendLies
import Derived.Test.YtoaibhacognbjaaGreatDoorY03
import Derived.Test.YtoaibhacognbjaaGreatDoorY30
import Derived.Test.YtoaibhacognbjaaGreatDoorY28
import Derived.Test.YtoaibhacognbjaaGreatDoorY23
import Derived.Test.YtoaibhacognbjaaGreatDoorY22
import Derived.Test.YtoaibhacognbjaaGreatDoorY20
import Derived.Test.YtoaibhacognbjaaGreatDoorY17
import Derived.Lib.AppendStr
import Derived.Shelf.Strings.Builder1
import Derived.Lib.FrozenHead
import Derived.Shelf.Slices.Turned
import Derived.Lib.SmallJoins
import Derived.Test.YtoaibhacognbjaaGreatDoorY29
import Derived.Deep.CutRange
import Derived.Test.YtoaibhacognbjaaGreatDoorY40
import Derived.Shelf.SlSortCmp.NoneTotal
import Derived.Test.YtoaibhacognbjaaGreatDoorY44
import Derived.Test.YtoaibhacognbjaaGreatDoorY43
import Derived.Test.YtoaibhacognbjaaGreatDoorY42
import Derived.Test.YtoaibhacognbjaaGreatDoorY33
namespace Go.Proofs.YtoaibhacognbjaaGreatDoor
set_option linter.unusedVariables false
set_option linter.unusedSimpArgs false
set_option maxRecDepth 100000
open Go.RowKit
theorem RB.keep {e:TypeId} {g:Nat} {l:List UInt8} {w w1:World} (h:RB e g l w) (hk:w1.heap[g]?=w.heap[g]?):RB e g l w1:=by
 obtain ⟨cs,lo,hi,hg,r⟩:=h;exact ⟨cs,lo,hi,hk.trans hg,r⟩
end Go.Proofs.YtoaibhacognbjaaGreatDoor
namespace Go.Proofs.YtoaibhacognbjaaGreatDoor
set_option linter.unusedVariables false
set_option linter.unusedSimpArgs false
set_option maxRecDepth 100000
open Go.RowKit
theorem VrOK.fr {w w':World} {b:Nat} (h:VrOK w) (hf:Fr b w w') (hb:nG≤b):VrOK w':=h.of_low hf.size fun k hk=>hf.block k (Nat.lt_of_lt_of_le hk h.low) (by intro e;injection e;omega)
end Go.Proofs.YtoaibhacognbjaaGreatDoor
namespace Go.Proofs.YtoaibhacognbjaaGreatDoor
set_option linter.unusedVariables false
set_option linter.unusedSimpArgs false
set_option maxRecDepth 100000
open Go.RowKit
open Go.Maps (Keyed)
theorem MV.mono {P:Program} {k:TypeId} {b n n':Nat} {f:Lit→Option Value} {w:World} (h:MV P k b n f w) (hn:n≤n'):MV P k b n' f w:=by
 obtain ⟨D,h1,h2⟩:=h;exact ⟨D,h1.mono hn,h2⟩
end Go.Proofs.YtoaibhacognbjaaGreatDoor
namespace Go.Proofs.YtoaibhacognbjaaGreatDoor
set_option linter.unusedVariables false
set_option linter.unusedSimpArgs false
set_option maxRecDepth 100000
open Go.RowKit
theorem SL.later {w w':World} {v:Value} {l:List Nat} (h:SL w v l) (hb:Below w.heap.size w w'):SL w' v l:=h.keep (fp:=[]) (fp':=[]) (outOf_nil v) (KeepF.of_below hb)
end Go.Proofs.YtoaibhacognbjaaGreatDoor
namespace Go.Proofs.YtoaibhacognbjaaGreatDoor
set_option linter.unusedVariables false
set_option linter.unusedSimpArgs false
set_option maxRecDepth 100000
open Go.RowKit
open Go.Maps (Keyed)
theorem MN.len {P:Program} {k e t:TypeId} {b n:Nat} {f:Lit→Option Value} {w:World} (h:MN P k b n f w) (ht:P.underlying t=some (.map k e)) (ty:TypeId):(Builtin.len_ #[t] ty #[.map (some b)]).run P w = .ok (.int .i64 (n:Int)) w:=by
 obtain ⟨D,h1,h2,-⟩:=h;rw[←h2];exact h1.len ht ty
section
variable {m:Mc} {cs ds:List (Option Nat)} {seen:List (Bool×List Ed)} {k:Nat}
end
end Go.Proofs.YtoaibhacognbjaaGreatDoor
namespace Go.Proofs.YtoaibhacognbjaaGreatDoor
set_option linter.unusedVariables false
set_option linter.unusedSimpArgs false
set_option maxRecDepth 100000
open Go.RowKit
theorem KnsIn.later {w w':World} {v:Value} {us:List KC} {ks:List Kn} (h:KnsIn w v us ks) (hb:Below w.heap.size w w'):KnsIn w' v us ks:=by
 obtain ⟨hl,A,c,e,hc,h,hk⟩:=h;refine ⟨hl,A,c,e,hc,h.imp id ?_,fun i h1 h2=>(hk i h1 h2).later hb⟩;rintro ⟨g,f,h1,hg,hcell⟩;exact ⟨g,f,h1,Nat.lt_of_lt_of_le hg hb.size,fun i hi j hj=>(hb.cell (p:=⟨g,f+i*11+j,none⟩) hg).trans (hcell i hi j hj)⟩
end Go.Proofs.YtoaibhacognbjaaGreatDoor
namespace Go.Proofs.YtoaibhacognbjaaGreatDoor
set_option linter.unusedVariables false
set_option linter.unusedSimpArgs false
set_option maxRecDepth 100000
open Go.RowKit
theorem Bx.later {w wr w':World} {a b c d:Value} (h:Bx w a b c d wr) (hb:Below wr.heap.size wr w'):Bx w a b c d w':=
 ⟨h.bel.trans (hb.mono h.bel.size),Nat.le_trans h.siz hb.size,(hb.block _ (by have:=h.siz;omega)).trans h.r0,(hb.block _ (by have:=h.siz;omega)).trans h.r1⟩
theorem Bx.cells {w wr:World} {a b c d:Value} (h:Bx w a b c d wr):wr.cell? ⟨w.heap.size,0,none⟩=some a∧wr.cell? ⟨w.heap.size,1,none⟩=some b∧wr.cell? ⟨w.heap.size+1,0,none⟩=some c∧wr.cell? ⟨w.heap.size+1,1,none⟩=some d∧w.heap.size<wr.heap.size∧w.heap.size+1<wr.heap.size:=by
 have h1:=h.siz;refine ⟨?_,?_,?_,?_,by omega,by omega⟩
 ·rw[cell_of_row _ _ _ _ _ _ h.r0];rfl
 ·rw[cell_of_row _ _ _ _ _ _ h.r0];rfl
 ·rw[cell_of_row _ _ _ _ _ _ h.r1];rfl
 ·rw[cell_of_row _ _ _ _ _ _ h.r1];rfl
end Go.Proofs.YtoaibhacognbjaaGreatDoor
namespace Go.Proofs.YtoaibhacognbjaaGreatDoor
set_option linter.unusedVariables false
set_option linter.unusedSimpArgs false
set_option maxRecDepth 100000
open Go.RowKit
theorem FnsIn.later {w w':World} {v:Value} {fs:List (KC×M2)} {ms:List Mc} (h:FnsIn w v fs ms) (hb:Below w.heap.size w w'):FnsIn w' v fs ms:=by
 obtain ⟨hl,A,c,e,hc,h,hm⟩:=h;refine ⟨hl,A,c,e,hc,h.imp id ?_,fun i h1 h2=>(hm i h1 h2).later hb⟩;rintro ⟨g,f,h1,hg,hcell⟩;exact ⟨g,f,h1,Nat.lt_of_lt_of_le hg hb.size,fun i hi j hj=>(hb.cell (p:=⟨g,f+i*13+j,none⟩) hg).trans (hcell i hi j hj)⟩
end Go.Proofs.YtoaibhacognbjaaGreatDoor
namespace Go.Proofs.YtoaibhacognbjaaGreatDoor
set_option linter.unusedVariables false
set_option linter.unusedSimpArgs false
set_option maxRecDepth 100000
theorem joined_sorted {x y z:List Mt} {d:Nat} (hx:x.Pairwise LeMt) (hy:y.Pairwise LeMt) (hz:z.Pairwise LeMt) (hp:z.Perm (x++shM d y)) (hlt:∀a∈x,a.f<d):z=x++shM d y:=by
 refine sorted_one hp hz ?_;rw[List.pairwise_append];refine ⟨hx,shM_sorted hy,fun a ha b hb=>?_⟩;unfold shM at hb;obtain ⟨c,-,rfl⟩:=List.mem_map.1 hb;have:=hlt a ha;rw[LeMt.iff];simp only;omega
end Go.Proofs.YtoaibhacognbjaaGreatDoor
namespace Go.Proofs.YtoaibhacognbjaaGreatDoor
set_option linter.unusedVariables false
set_option linter.unusedSimpArgs false
set_option maxRecDepth 100000
open Go.RowKit
theorem MtIn.later {w w':World} {v:Value} {l:List Mt} (h:MtIn w v l) (hb:Below w.heap.size w w'):MtIn w' v l:=by
 obtain ⟨A,c,e,hc,h⟩:=h;refine ⟨A,c,e,hc,h.imp id ?_⟩;rintro ⟨g,f,h1,hg,hcell⟩;exact ⟨g,f,h1,Nat.lt_of_lt_of_le hg hb.size,fun i hi j hj=>(hb.cell (p:=⟨g,f+i*3+j,none⟩) hg).trans (hcell i hi j hj)⟩
end Go.Proofs.YtoaibhacognbjaaGreatDoor
namespace Go.Proofs.YtoaibhacognbjaaGreatDoor
set_option linter.unusedVariables false
set_option linter.unusedSimpArgs false
set_option maxRecDepth 100000
open Go.RowKit
theorem KR.cells {w:World} {K:Nat} {e:TypeId} {u:KC} (h:w.heap[K]?=some (.cells u.cs.toArray e (0,0))) :
  (w.cell? ⟨K,0,none⟩=some (.string u.nm)∧w.cell? ⟨K,1,none⟩=some (.int .i64 u.op)∧w.cell? ⟨K,2,none⟩=some (.slice u.a1 u.n1 u.c1)∧w.cell? ⟨K,3,none⟩=some (.slice u.a2 u.n2 u.c2)∧w.cell? ⟨K,4,none⟩=some (.int .i64 u.mn)∧w.cell? ⟨K,5,none⟩=some (.int .i64 u.mx)∧w.cell? ⟨K,6,none⟩=some (.bool u.wh)∧w.cell? ⟨K,7,none⟩=some (.int .i64 u.ck)∧w.cell? ⟨K,8,none⟩=some (.int .i64 u.en)∧w.cell? ⟨K,9,none⟩=some (.slice u.a3 u.n3 u.c3)∧w.cell? ⟨K,10,none⟩=some (.int .i64 u.nr))∧∀j,w.frozen? ⟨K,j,none⟩=false:=by
 refine ⟨⟨?_,?_,?_,?_,?_,?_,?_,?_,?_,?_,?_⟩,fun j=>by simp[World.frozen?,h]⟩ <;> (rw[cell_of_row _ _ _ _ _ _ h]; rfl)
end Go.Proofs.YtoaibhacognbjaaGreatDoor
namespace Go.Proofs.YtoaibhacognbjaaGreatDoor
set_option linter.unusedVariables false
set_option linter.unusedSimpArgs false
set_option maxRecDepth 100000
open Go.RowKit
theorem MbN.mono {b m m':Nat} {nd:Nd} {w:World} {e:Ending} {w':World} (h:MbN b m nd w e w') (hm:m≤m'):MbN b m' nd w e w':=by
 obtain ⟨v,l,h1,h2,r⟩:=h;exact ⟨v,l,h1,Nat.le_trans h2 hm,r⟩
end Go.Proofs.YtoaibhacognbjaaGreatDoor
