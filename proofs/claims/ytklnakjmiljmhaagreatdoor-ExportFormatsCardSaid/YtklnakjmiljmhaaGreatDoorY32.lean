/- slices.AppendSeq, Collect over the values of a map of messages. -/
import Derived.Test.YtklnakjmiljmhaaGreatDoorY31
import Derived.Test.YtklnakjmiljmhaaGreatDoorY29
namespace Go.Proofs.YtklnakjmiljmhaaGreatDoor
set_option linter.unusedVariables false
set_option linter.unusedSimpArgs false
set_option maxRecDepth 100000
open Go.RowKit Go.Shelf
open Go.Maps (Keyed)
attribute [local go_sem] Oper.semAt_some
/-- Between two rounds. -/
def ApI (w : World) (pre : List Ms) (W : World) : Prop := (∃ v, W.heap[w.heap.size]? = some (.cells #[v] 30 (0, 0)) ∧ OM (w.heap.size + 1) v pre W) ∧ Below w.heap.size w W
theorem ApI.own (w : World) : OwnFrom (w.heap.size + 1) (ApI w) := by
  rintro s W W' row ⟨⟨v, h1, h2⟩, h3⟩ hg hr
  refine ⟨⟨v, grown_lt hg hr (by omega) h1, h2.keep (fun k hk => ?_)⟩, h3.grown hg h3.size (fun k hk => by have := (hr k hk).1; omega)⟩
  obtain ⟨-, ob, q1, q2⟩ := own_cells h2 k hk
  exact grownBy_keeps_cells hg (fun r e => (hr r e).2) q1 q2
set_option maxRecDepth 100000 in
set_option maxHeartbeats 2000000 in
theorem appendseq_any (Bm b nn : Nat) (hnn : nn ≤ 100000) (f : Int → Option Ms) (Fm : Lit → Option Value) (hS : SaysM Fm f) (hk : ∀ k m, f k = some m → m.id = k) (w : World) (hB : Bm < w.heap.size) (hm : w.cell? ⟨Bm, 0, none⟩ = some (.map (some b))) (hmv : MV Tryz.prog 3 b nn Fm w) :
    Calls Tryz.prog 112 #[.slice none 0 0, .func (.func 75) #[] #[.pointer (some ⟨Bm, 0, none⟩)]] w fun e w' => ∃ v xs, e = .returned v ∧ (ValsOf f xs ∧ xs.length ≤ nn) ∧ OM w.heap.size v xs w' ∧ Below w.heap.size w w' := by
  refine (callsIn_wide (n := 7)).1 ?_
  refine callsIn_of_wp_marks Tryz.func112 rfl trivial ?_ rfl
  simp only [Tryz.ntmps112, List.size_toArray, List.length_cons, List.length_nil, Nat.reduceAdd, Nat.reduceSub, Array.replicate_succ, Array.replicate_zero, List.push_toArray, List.append_toArray, List.nil_append, List.cons_append]
  gi_wp2
  generalize hw0 : w.alloc (Obj.cells #[Value.slice none 0 0] 30) = w0
  have hsz : w0.heap.size = w.heap.size + 1 := by rw [← hw0]; simp
  have hb0 : Below w.heap.size w w0 := by rw [← hw0]; exact (Below.refl _ w).alloc (Nat.le_refl _) _
  have hr0 : w0.heap[w.heap.size]? = some (.cells #[.slice none 0 0] 30 (0, 0)) := by rw [← hw0]; exact World.alloc_heap_new w _
  have hm0 := (hb0.cell (p := ⟨Bm, 0, none⟩) hB).trans hm
  have hmv0 := hmv.kept (hb0.block b hmv.lt)
  clear hw0
  obtain ⟨i0, hi, hz0, hz1, hz2⟩ := info_parts info_msg
  refine wpIn_rangeFunc_ownH rfl (by omega) (gf := 75) (lb := #[.pointer (some ⟨Bm, 0, none⟩)]) rfl trivial (enters_of Tryz.func75 (by kernel_rfl) rfl)
    (values_seq _ Bm b nn (by omega) f Fm hS hk w0 (by omega) hm0 hmv0) walksK_t walksK_b (Below.refl _ _) (fun _ => rfl)
    (ApI w) (fun _ _ _ => False) (hsz ▸ ApI.own w) (fun _ _ _ _ _ hs _ _ => hs) ⟨⟨_, hr0, OR.nil_ _ _ _⟩, hb0⟩
    (fun x a' W => ∃ Bx, w.heap.size < Bx ∧ W.heap[Bx]? = some (.cells (encM x).toArray 43 (0, 0)) ∧ a' = { tmps := #[.slice none 0 0, .func (.func 75) #[] #[.pointer (some ⟨Bm, 0, none⟩)], .pointer (some ⟨w.heap.size, 0, none⟩), undef, .slice none 0 0, .pointer (some ⟨Bx, 0, none⟩), .func (.func 75) #[] #[.pointer (some ⟨Bm, 0, none⟩)], encA x, undef, undef, undef, undef, undef], defers := [] })
    ?hAx ?assign ?body ?done ?stop
  case hAx =>
    rintro x a' s W W' row ⟨Bx, h1, h2, h3⟩ hg hr
    exact ⟨Bx, h1, (grownBy_keeps_cells hg (fun r e => (hr r e).2) h2 rfl).trans h2, h3⟩
  case assign =>
    rintro l pre ⟨m1, m2, m3, m4, m5⟩ W K hI hK
    obtain ⟨⟨v, h1, h2⟩, h3⟩ := hI
    have hlt := (Array.getElem?_eq_some_iff.1 h1).1
    have hK2 := fun a' h => hK a' (W.alloc (.cells #[.int .i64 m1, .int .i64 m2, .string (bs m3), .int .i64 m4, .string (bs m5)] 43)) ((KeepsOthers.alloc _ _).from _) (KeepsOthers.alloc _ _).walks ⟨⟨v, (Below.heap_alloc _ _ _ hlt).trans h1, h2.later ((Below.refl _ _).alloc (Nat.le_refl _) _)⟩, h3.alloc h3.size _⟩ ⟨W.heap.size, hlt, World.alloc_heap_new _ _, h⟩
    have HK2 := Lib.hid hK2; clear hK2 hK h1 h2 h3
    dsimp only [encA, encM]
    gi_wp2
    exact HK2.out _ rfl
  case body =>
    rintro l pre ⟨m1, m2, m3, m4, m5⟩ a' W hl ⟨r, hr⟩ ⟨⟨v, h1, h2⟩, h3⟩ ⟨Bx, hBx, hX, rfl⟩ hlt
    dsimp only [encA, encM] at hX ⊢
    have x0 : W.cell? ⟨Bx, 0, none⟩ = some (.int .i64 m1) := by rw [cell_of_row _ _ _ _ _ _ hX]; rfl
    have x1 : W.cell? ⟨Bx, 1, none⟩ = some (.int .i64 m2) := by rw [cell_of_row _ _ _ _ _ _ hX]; rfl
    have x2 : W.cell? ⟨Bx, 2, none⟩ = some (.string (bs m3)) := by rw [cell_of_row _ _ _ _ _ _ hX]; rfl
    have x3 : W.cell? ⟨Bx, 3, none⟩ = some (.int .i64 m4) := by rw [cell_of_row _ _ _ _ _ _ hX]; rfl
    have x4 : W.cell? ⟨Bx, 4, none⟩ = some (.string (bs m5)) := by rw [cell_of_row _ _ _ _ _ _ hX]; rfl
    have c0 : W.cell? ⟨w.heap.size, 0, none⟩ = some v := by rw [cell_of_row _ _ _ _ _ _ h1]; rfl
    have hlt0 := (Array.getElem?_eq_some_iff.1 h1).1
    have hsW : w.heap.size + 1 ≤ W.heap.size := hlt0
    obtain ⟨A0, c0', rfl, hc0, -⟩ := OR.cells encM_E h2
    have HH := Lib.hid (And.intro h1 h3)
    clear h1 h3 hX
    gi_wp2_with (gi_at_builtin; refine app_oneIn encM_E Tryz.underlying30 hi hz0 hz1 hz2 rfl (by decide) _ _ _ _ pre ⟨m1, m2, m3, m4, m5⟩ _ (w.heap.size + 1) _ rfl rfl rfl rfl rfl rfl h2 (by omega) hsW ?_; intro v1 w3 hown3 hg3 hb3; obtain ⟨A1, c1', rfl, hc1', -⟩ := OR.cells encM_E hown3; have r2 := (hb3.block w.heap.size (by omega)).trans HH.out.1; have c2' : w3.cell? ⟨w.heap.size, 0, none⟩ = some (.slice A0 pre.length c0') := (by rw [cell_of_row _ _ _ _ _ _ r2]; rfl); have f2' : w3.frozen? ⟨w.heap.size, 0, none⟩ = false := (by simp [World.frozen?, r2]); have HR2' := Lib.hid r2; clear r2)
    have hko : KeepsOthers W (w3.setCell ⟨w.heap.size, 0, none⟩ (.slice A1 (pre.length + 1) c1')) := by
      refine ((KeepsOthers.alloc _ _).trans (KeepsOthers.of_grownBy hg3 (fun j ob hj ho => ?_))).trans (KeepsOthers.setCell _ _ _)
      obtain ⟨-, ob', q1, q2⟩ := own_cells h2 j hj
      rw [Below.heap_alloc _ _ _ (Array.getElem?_eq_some_iff.1 q1).1, q1] at ho
      cases ho; exact q2
    refine ⟨hko.from _, hko.walks, ⟨.slice A1 (pre.length + 1) c1', set_row HR2'.out _, ?_⟩, (HH.out.2.trans (hb3.mono (by omega))).setCell (p := ⟨w.heap.size, 0, none⟩) (Nat.le_refl _) _⟩
    have h5 : OM (w.heap.size + 1) (.slice A1 (pre.length + 1) c1') (pre ++ [⟨m1, m2, m3, m4, m5⟩]) w3 := by simpa using hown3
    exact h5.keep (fun k hk => Below.heap_setCell _ _ _ _ (by have := (own_cells h5 k hk).1; dsimp only; omega))
  case done =>
    rintro D xs W hD hSx ⟨⟨v, h1, h2⟩, h3⟩ hK
    have c0 : W.cell? ⟨w.heap.size, 0, none⟩ = some v := by rw [cell_of_row _ _ _ _ _ _ h1]; rfl
    obtain ⟨A0, c0', rfl, hc0, -⟩ := OR.cells encM_E h2
    gi_wp2
    refine ⟨by simp, .inl ⟨_, _, rfl, run_takeDeferred hK, ?_⟩⟩
    have hv2 := h2.keep (w1 := W.putObj D (.deferred none)) (fun k hk => by
      obtain ⟨q1, ob, q2, q3⟩ := own_cells h2 k hk
      have hkD : k ≠ D := fun e => by subst e; rw [hK] at q2; cases q2; cases q3
      rw [World.putObj_heap_other hkD])
    exact ⟨_, results_tmp rfl _ _ _, _, xs, rfl, hSx, hv2.mono (by omega), h3.trans (belowK_b (w := w) (Nat.le_refl _) W D _ _ (by omega) hK rfl rfl)⟩
  case stop =>
    rintro D c pre W _ _ h _
    exact h.elim
end Go.Proofs.YtklnakjmiljmhaaGreatDoor
