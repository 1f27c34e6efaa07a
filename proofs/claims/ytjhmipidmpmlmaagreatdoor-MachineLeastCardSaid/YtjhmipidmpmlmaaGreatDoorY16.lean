/- The library's variables that walks read: what they hold, and that new memory leaves it so. -/
import Derived.Lib.LaidTab
import Derived.Lib.ItoaNum
import Derived.Test.YtjhmipidmpmlmaaGreatDoorY03
namespace Go.Proofs.YtjhmipidmpmlmaaGreatDoor
set_option linter.unusedVariables false
set_option linter.unusedSimpArgs false
set_option maxRecDepth 100000
open Go.RowKit
def nG : Nat := 8
theorem nG_eq : nG = Tryz.prog.globals.size := by kernel_rfl
theorem named_lt {n : String} {g : Nat} (h : Tryz.prog.globalNamed n = some g) : g < nG := by
 unfold Program.globalNamed at h
 split at h
 ·rename_i g' hl
  obtain rfl := Option.some.inj h;have : g' ∈ (List.range Tryz.prog.globals.size).filter fun g => (Tryz.prog.globals[g]?).any (·.name == n) := by rw [hl]; simp
  rw [nG_eq]; exact List.mem_range.1 (List.mem_filter.1 this).1
 ·cases h
structure VrOK (w : World) : Prop where
 low : nG ≤ w.heap.size
 tab : Lib.TabIs Tryz.prog w "internal/strconv.uint64pow10" .u64 Lib.pow10Tab
 syn : ∃ tp p, w.var? Tryz.prog "strconv.ErrSyntax" = some #[.iface tp p]
 rng : ∃ tp p, w.var? Tryz.prog "strconv.ErrRange" = some #[.iface tp p]
 mlen : ∃ m, w.cell? ⟨5, 0, none⟩ = some (.int .i64 m)
theorem var_of_low {w w' : World} (hk : ∀ k, k < nG → w'.heap[k]? = w.heap[k]?) (n : String) : w'.var? Tryz.prog n = w.var? Tryz.prog n := by
 unfold World.var?
 cases hg : Tryz.prog.globalNamed n with
 | none => rfl
 | some g => simp only [Option.bind_some]; rw [hk g (named_lt hg)]
theorem mlen_lt : 5 < nG := by decide
theorem VrOK.of_low {w w' : World} (h : VrOK w) (hz : w.heap.size ≤ w'.heap.size) (hk : ∀ k, k < nG → w'.heap[k]? = w.heap[k]?) : VrOK w' := by
 obtain ⟨h0, h1, ⟨t2, p2, h2⟩, ⟨t3, p3, h3⟩, ⟨m, h4⟩⟩ := h;refine ⟨Nat.le_trans h0 hz, ?_, ⟨t2, p2, (var_of_low hk _).trans h2⟩, ⟨t3, p3, (var_of_low hk _).trans h3⟩, ⟨m, (World.cell?_of_block (a := ⟨5, 0, none⟩) (hk _ mlen_lt)).trans h4⟩⟩;unfold Lib.TabIs at h1 ⊢;rw [var_of_low hk]; exact h1
theorem VrOK.below {w w' : World} {B : Nat} (h : VrOK w) (hb : Below B w w') (hB : nG ≤ B) : VrOK w' := h.of_low hb.size fun k hk => hb.block k (by omega)
theorem VrOK.later {w w' : World} (h : VrOK w) (hb : Below w.heap.size w w') : VrOK w' := h.below hb h.low
end Go.Proofs.YtjhmipidmpmlmaaGreatDoor
