/- Walks. -/
import Derived.Lib.LaidTab
import Derived.Lib.ItoaNum
import Derived.Test.YthamegenljmgmaaGreatDoorY04
set_option maxRecDepth 100000
set_option maxHeartbeats 16000000
set_option linter.unusedVariables false
set_option linter.unusedSimpArgs false
namespace Go.Proofs.YthamegenljmgmaaGreatDoor
open Go.RowKit
def nG:Nat:=8
theorem aem:nG=Tryz.prog.globals.size:=R
theorem Oy{n:String}{g:Nat}(h:Tryz.prog.globalNamed n=some g):g<nG:=by
 unfold Program.globalNamed at h;split at h
 .rename_i g' hl
  obtain rfl:=Option.some.inj h;have:g'∈(List.range Tryz.prog.globals.size).filter λg=>(Tryz.prog.globals[g]?).any (·.name == n):=by rw[hl];simp
  rw[aem];exact List.mem_range.1 (List.mem_filter.1 this).1
 .cases h
structure eU (w:World):Prop where
 low:nG<=w
 tab:Lib.TabIs Tryz.prog w "internal/strconv.uint64pow10" .u64 Lib.pow10Tab
 syn:(Tryz.prog.globalNamed "strconv.ErrSyntax").isSome=true->∃tp p,w.var? Tryz.prog "strconv.ErrSyntax" = some #[.iface tp p]
 rng:(Tryz.prog.globalNamed "strconv.ErrRange").isSome=true->∃tp p,w.var? Tryz.prog "strconv.ErrRange" = some #[.iface tp p]
 auk:∃m,w.cell? (Z 5 0)=some (.int .i64 m)
theorem qp{w w':World}(hk:∀k,k<nG->w'.heap[k]?=w.heap[k]?)(n:String):w'.var? Tryz.prog n=w.var? Tryz.prog n:=by
 unfold World.var?
 cases hg:Tryz.prog.globalNamed n with
 |none=>rfl
 |some g=>simp only[Option.bind_some];rw[hk g (Oy hg)]
theorem Sv:5<nG:=O
theorem eU.Ec{w w':World}(h:eU w)(hz:w.heap.size<=w')(hk:∀k,k<nG->w'.heap[k]?=w.heap[k]?):eU w':=by
 obtain ⟨h0,h1,h2,h3,⟨m,h4⟩⟩:=h;refine ⟨Nat.le_trans h0 hz,?_,λe=>(h2 e).imp λ_ h=>h.imp λ_ h=>(qp hk _).t h,λe=>(h3 e).imp λ_ h=>h.imp λ_ h=>(qp hk _).t h,⟨m,(χ 5 0 (hk _ Sv)).t h4⟩⟩;unfold Lib.TabIs at h1|-;rw[qp hk];exact h1
theorem eU.below{w w':World}{B:Nat}(h:eU w)(hb:Below B w w')(hB:nG<=B):eU w':=h.Ec hb.size λk hk=>hb.block k U
theorem eU.later{w w':World}(h:eU w)(hb:Below w w w'):eU w':=h.below hb h.low
end Go.Proofs.YthamegenljmgmaaGreatDoor
