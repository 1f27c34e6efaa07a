/- Walks. -/
import Derived.Lib.LaidTab
import Derived.Lib.ItoaNum
import Derived.Test.YtdmoogjddmdmbaaGreatDoorV04
set_option maxRecDepth 100000
set_option maxHeartbeats 16000000
set_option linter.unusedVariables false
set_option linter.unusedSimpArgs false
namespace Go.Proofs.YtdmoogjddmdmbaaGreatDoor
open Go.RowKit
section
set_option linter.unusedVariables false
set_option linter.unusedSimpArgs false
open Go.RowKit
def nG:Nat:=4
theorem afa:nG=Tryz.prog.globals.size:=by kernel_rfl
theorem Pk {n:String} {g:Nat} (h:Tryz.prog.globalNamed n=some g):g<nG:=by
 unfold Program.globalNamed at h
 split at h
 .rename_i g' hl
  obtain rfl:=Option.some.inj h;have:g'∈(List.range Tryz.prog.globals.size).filter λg=>(Tryz.prog.globals[g]?).any (·.name == n):=by rw[hl];simp
  rw[afa];exact List.mem_range.1 (List.mem_filter.1 this).1
 .cases h
structure cd (w:World):Prop where
 low:nG<=w.heap.size
 tab:Lib.TabIs Tryz.prog w "internal/strconv.uint64pow10" .u64 Lib.pow10Tab
 syn:(Tryz.prog.globalNamed "strconv.ErrSyntax").isSome=true->∃tp p,w.var? Tryz.prog "strconv.ErrSyntax" = some #[.iface tp p]
 rng:(Tryz.prog.globalNamed "strconv.ErrRange").isSome=true->∃tp p,w.var? Tryz.prog "strconv.ErrRange" = some #[.iface tp p]
 Sh:∃m,w.cell? ⟨0,0,none⟩=some (.int .i64 m)
theorem pg {w w':World} (hk:∀k,k<nG->w'.heap[k]?=w.heap[k]?) (n:String):w'.var? Tryz.prog n=w.var? Tryz.prog n:=by
 unfold World.var?
 cases hg:Tryz.prog.globalNamed n with
 | none=>rfl
 | some g=>simp only[Option.bind_some];rw[hk g (Pk hg)]
theorem Ie:0<nG:=by decide
theorem cd.Nb {w w':World} (h:cd w) (hz:w.heap.size<=w'.heap.size) (hk:∀k,k<nG->w'.heap[k]?=w.heap[k]?):cd w':=by
 obtain ⟨h0,h1,h2,h3,⟨m,h4⟩⟩:=h;refine ⟨Nat.le_trans h0 hz,?_,λe=>(h2 e).imp λ_ h=>h.imp λ_ h=>(pg hk _).trans h,λe=>(h3 e).imp λ_ h=>h.imp λ_ h=>(pg hk _).trans h,⟨m,(World.cell?_of_block (a:=⟨0,0,none⟩) (hk _ Ie)).trans h4⟩⟩;unfold Lib.TabIs at h1|-;rw[pg hk];exact h1
theorem cd.below {w w':World} {B:Nat} (h:cd w) (hb:Below B w w') (hB:nG<=B):cd w':=h.Nb hb.size λk hk=>hb.block k (by omega)
theorem cd.later {w w':World} (h:cd w) (hb:Below w.heap.size w w'):cd w':=h.below hb h.low
end
end Go.Proofs.YtdmoogjddmdmbaaGreatDoor
