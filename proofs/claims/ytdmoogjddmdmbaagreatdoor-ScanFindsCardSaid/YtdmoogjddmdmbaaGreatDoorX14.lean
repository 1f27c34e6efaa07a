/- Walks. -/
import Derived.Lib.LaidTab
import Derived.Lib.ItoaNum
import Derived.Test.YtdmoogjddmdmbaaGreatDoorX05
set_option maxRecDepth 100000
set_option maxHeartbeats 16000000
set_option linter.unusedVariables false
set_option linter.unusedSimpArgs false
namespace Go.Proofs.YtdmoogjddmdmbaaGreatDoor
open Go.RowKit
def nG:Nat:=4
theorem afe:nG=Tryz.prog.globals.size:=κ
theorem OY{n:String}{g:Nat}(h:Tryz.prog.globalNamed n=some g):g<nG:=by
 unfold Program.globalNamed at h;split at h
 .rename_i g' hl
  obtain rfl:=Option.some.inj h;have:g'∈(List.range Tryz.prog.globals.size).filter λg=>(Tryz.prog.globals[g]?).any (·.name == n):=by rw[hl];simp
  rw[afe];exact List.mem_range.1 (List.mem_filter.1 this).1
 .cases h
structure dn (w:World):Prop where
 low:nG<=w.heap.size
 tab:Lib.TabIs Tryz.prog w "internal/strconv.uint64pow10" .u64 Lib.pow10Tab
 syn:(Tryz.prog.globalNamed "strconv.ErrSyntax").isSome=true->∃tp p,w.var? Tryz.prog "strconv.ErrSyntax" = some #[.iface tp p]
 rng:(Tryz.prog.globalNamed "strconv.ErrRange").isSome=true->∃tp p,w.var? Tryz.prog "strconv.ErrRange" = some #[.iface tp p]
 akU:∃m,w.cell? ⟨0,0,none⟩=some (.int .i64 m)
theorem pc{w w':World}(hk:∀k,k<nG->w'.heap[k]?=w.heap[k]?)(n:String):w'.var? Tryz.prog n=w.var? Tryz.prog n:=by
 unfold World.var?
 cases hg:Tryz.prog.globalNamed n with
 |none=>rfl
 |some g=>simp only[Option.bind_some];rw[hk g (OY hg)]
theorem S8:0<nG:=O
theorem dn.Mw{w w':World}(h:dn w)(hz:w.heap.size<=w'.heap.size)(hk:∀k,k<nG->w'.heap[k]?=w.heap[k]?):dn w':=by
 obtain ⟨h0,h1,h2,h3,⟨m,h4⟩⟩:=h;refine ⟨Nat.le_trans h0 hz,?_,λe=>(h2 e).imp λ_ h=>h.imp λ_ h=>(pc hk _).trans h,λe=>(h3 e).imp λ_ h=>h.imp λ_ h=>(pc hk _).trans h,⟨m,(χ 0 0 (hk _ S8)).trans h4⟩⟩;unfold Lib.TabIs at h1|-;rw[pc hk];exact h1
theorem dn.below{w w':World}{B:Nat}(h:dn w)(hb:Below B w w')(hB:nG<=B):dn w':=h.Mw hb.size λk hk=>hb.block k Y
theorem dn.later{w w':World}(h:dn w)(hb:Below w.heap.size w w'):dn w':=h.below hb h.low
end Go.Proofs.YtdmoogjddmdmbaaGreatDoor
