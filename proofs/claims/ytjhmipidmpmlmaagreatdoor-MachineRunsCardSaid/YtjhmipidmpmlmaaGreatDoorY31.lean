/- The law MachineRuns, from what the shell tells of its arguments. -/
import Derived.Test.YtjhmipidmpmlmaaGreatDoorY28
import Derived.Test.YtjhmipidmpmlmaaGreatDoorY30
namespace Go.Proofs.YtjhmipidmpmlmaaGreatDoor
set_option linter.unusedVariables false
set_option linter.unusedSimpArgs false
set_option maxRecDepth 100000
open Go.RowKit
theorem bytesZ_of {w : World} {a : Option Addr} {len cap : Nat} {zs : List Int}
  (h : (a = none ∧ len = 0 ∧ cap = 0 ∧ zs = []) ∨ ∃ x, a = some x ∧ len ≤ cap ∧ cap ≤ maxLen ∧ zs.length = cap ∧ (∀ i, i < zs.length → w.cell? (x.add i) = some (.int .u8 (zs.getD i 0))) ∧ ∀ n ∈ zs, (Lit.int .u8 n).wf = true) :
  ∃ l, ByIn w (.slice a len cap) l ∧ ∀ b ∈ l, b < 256 := by
 rcases h with ⟨rfl, rfl, rfl, rfl⟩ | ⟨x, rfl, hl, hm, hz, hc, hw⟩
 ·exact ⟨[], ⟨none, 0, rfl, ⟨Nat.le_refl _, by decide⟩, .inl rfl⟩, fun b hb => (by cases hb)⟩
 ·have hb : ∀ b ∈ (zs.take len).map Int.toNat, b < 256 := fun b hb => by
   obtain ⟨n, hn, rfl⟩ := List.mem_map.1 hb
   have := wfZ_u8 (hw n (List.mem_of_mem_take hn))
   omega
  have hlen : ((zs.take len).map Int.toNat).length = len := by simp; omega
  refine ⟨_, ⟨some x, cap, by rw [hlen], by rw [hlen]; unfold maxLen at hm; omega, ?_⟩, hb⟩
  by_cases h0 : len = 0
  ·left; subst h0; simp
  ·right
   have h00 := hc 0 (by omega)
   obtain ⟨g, f, spot⟩ := x
   obtain rfl := spot_none h00 rfl
   refine ⟨g, f, rfl, World.block_lt_of_cell? w _ h00, fun i hi => ?_⟩
   have hi' : i < len := by rw [hlen] at hi; exact hi
   have hci := hc i (by omega)
   rw [Addr.add_lit] at hci
   rw [hci]
   have hzi : zs.getD i 0 = zs[i]'(by omega) := by simp [List.getD, List.getElem?_eq_getElem (show i < zs.length by omega)]
   have hwi := wfZ_u8 (hw _ (List.getElem_mem (show i < zs.length by omega)))
   rw [hzi]
   simp
   omega
theorem runs_came (A : Option Addr) (n c : Nat) (v1 : Value) (A2 : Option Addr) (n2 c2 : Nat) (fr : Int) (w : World) (ht : TapeArg A n w) (hraw : Came Tryz.prog w 34 v1)
  (hb : ∃ l, ByIn w (.slice A2 n2 c2) l ∧ ∀ b ∈ l, b < 256) (hv : VrOK w) :
  Calls Tryz.prog 7 #[.slice A n c, v1, .slice A2 n2 c2, .int .i64 fr] w fun e w' => e = .returned (.bool true) ∧ Below w.heap.size w w' := by
 obtain ⟨m1, hm1, hr1⟩ := machine_came hraw
 obtain ⟨l, hb1, hb2⟩ := hb
 exact runs_law A n c v1 m1 A2 n2 c2 l fr w ht hm1 hr1 hb1 hb2 hv
end Go.Proofs.YtjhmipidmpmlmaaGreatDoor
