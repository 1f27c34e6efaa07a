/- Walks: all texts, by the reference. · Walks: all texts, by the code. -/
import Derived.Test.YtklnakjmiljmhaaGreatDoorY22
import Derived.Test.YtklnakjmiljmhaaGreatDoorY24
namespace Go.Proofs.YtklnakjmiljmhaaGreatDoor
set_option linter.unusedVariables false
set_option linter.unusedSimpArgs false
set_option maxRecDepth 100000
open Go.RowKit
theorem encM_E : EncS encM 5 := ⟨by decide, fun x => rfl, fun x u hu => by
  simp [encM] at hu; rcases hu with rfl | rfl | rfl | rfl | rfl <;> rfl⟩
abbrev OM (B : Nat) (v : Value) (o : List Ms) (w : World) : Prop := OR 43 5 encM B v o w
theorem MC.of_own {B : Nat} {v : Value} {o : List Ms} {w : World} (h : OM B v o w) : MC v o w := by
  obtain ⟨A, c, rfl, hc, h⟩ := OR.cells encM_E h
  refine ⟨A, c, rfl, hc, h.imp id ?_⟩
  rintro ⟨g, rfl, -, hg, hcell⟩
  refine ⟨g, 0, rfl, hg, fun i hi => ?_⟩
  have q := fun j hj => (hcell i hi j hj).1
  refine ⟨?_, ?_, ?_, ?_, ?_⟩
  · rw [Nat.zero_add]; exact q 0 (by decide)
  · rw [Nat.zero_add]; exact q 1 (by decide)
  · rw [Nat.zero_add]; exact q 2 (by decide)
  · rw [Nat.zero_add]; exact q 3 (by decide)
  · rw [Nat.zero_add]; exact q 4 (by decide)
theorem info_msg : (Tryz.prog.info? 43).map (fun i => (i.zero, i.size, i.bytes)) = some (some (.agg #[.int .i64 0, .int .i64 0, .string ⟨#[]⟩, .int .i64 0, .string ⟨#[]⟩]), 5, 56) := by kernel_rfl
theorem keepM_drop {l : List Ms} {k : Nat} (h : k < l.length) : keepM (l.drop k) = (if (l[k]).kind = 3 then [] else [l[k]]) ++ keepM (l.drop (k + 1)) := by
  rw [List.drop_eq_getElem_cons h]
  unfold keepM
  rw [List.filter_cons]
  by_cases h3 : (l[k]).kind = 3
  · rw [if_neg (by simp [h3]), if_pos h3]; rfl
  · rw [if_pos (by simpa using h3), if_neg h3]; rfl
/-- What hands back a list of messages. -/
def MsPost (o : List Ms) (w : World) (e : Ending) (w' : World) : Prop := ∃ v, e = .returned v ∧ OM w.heap.size v o w' ∧ Below w.heap.size w w'
set_option maxHeartbeats 2000000 in
theorem texts_ref (v : Value) (l : List Ms) (w : World) (h : MC v l w) (hs : Small l) : Calls Tryz.prog 22 #[v] w (MsPost (textsM l) w) := by
  obtain ⟨i0, hi, hz0, hz1, hz2⟩ := info_parts info_msg
  have V := Lib.hid (valid_ref17 v l w h hs)
  have hl := hs.1
  have H := Lib.hid h
  clear hs
  by_cases h0 : errM l = 0
  · rw [h0] at V
    have HT := Lib.hid (show textsM l = keepM l by unfold textsM; rw [if_pos h0])
    clear h0
    obtain ⟨A, c, rfl, hc, -⟩ := h
    go_enter Tryz.func22, Tryz.ntmps22
    go_wp2_with fail
    refine V.out.mono ?_
    rintro e w0 ⟨rfl, hb0⟩
    obtain ⟨A', c', hv, -, hcell⟩ := H.out
    injection hv with hv1 hv2 hv3
    rw [← hv1] at hcell
    have HC := Lib.hid hcell
    clear hcell hv1 hv2 hv3 V H
    go_wp2_with fail
    go_loopw [3, 4] (fun v i wr => ∃ (k : Nat) (o : List Ms), k ≤ l.length ∧ i = .int .i64 (k : Int) ∧ OM w.heap.size v o wr ∧ o.length ≤ k ∧ Below w.heap.size w wr ∧ Hid (o ++ keepM (l.drop k) = keepM l)) (fun _ i _ => l.length - (intOf i).toNat)
    case atStart => exact ⟨0, [], by omega, rfl, OR.nil_ _ _ _, by simp, hb0, rfl⟩
    case round =>
      obtain ⟨k, o, hk, rfl, hown, ho, hbel, HR⟩ := hrel
      by_cases hlt : k < l.length
      · have hd : decide ((k : Int) < (l.length : Int)) = true := decide_eq_true (by omega)
        have hdn : decide (k < l.length) = true := decide_eq_true hlt
        obtain ⟨g, ff, rfl, hg, hcs⟩ := HC.out.resolve_left (by intro e; rw [e] at hlt; simp at hlt)
        obtain ⟨a0, a1, a2, a3, a4⟩ := (hcs k hlt).later (hbel.block g hg)
        have HD := Lib.hid (show o ++ ((if (l[k]).kind = 3 then [] else [l[k]]) ++ keepM (l.drop (k + 1))) = keepM l by rw [← keepM_drop hlt]; exact HR.out)
        clear hcs
        obtain ⟨m, hm⟩ : ∃ m, l[k] = m := ⟨_, rfl⟩
        rw [hm] at a0 a1 a2 a3 a4 HD
        clear hm
        by_cases h3 : m.kind = 3
        · have d3 : (m.kind != 3) = false := by simpa using h3
          have HE := Lib.hid (show o ++ keepM (l.drop (k + 1)) = keepM l by rw [← HD.out, if_pos h3]; rfl)
          clear h3
          go_wp2_with fail
          go_roundw
          case rel => exact ⟨k + 1, o, by omega, by go_num, hown, by omega, hbel, HE⟩
          case measure => simp [intOf]; omega
        · have d3 : (m.kind != 3) = true := by simpa using h3
          have HE := Lib.hid (show (o ++ [m]) ++ keepM (l.drop (k + 1)) = keepM l by rw [← HD.out, if_neg h3, List.append_assoc])
          clear h3
          go_wp2_with (at_builtin; refine app_one encM_E Tryz.underlying30 hi hz0 hz1 hz2 rfl (by decide) _ _ _ _ o m _ w.heap.size rfl rfl rfl rfl rfl hown (by omega) hbel.size ?_; intro v1 w1 hown1 hb1)
          go_roundw
          case rel => exact ⟨k + 1, o ++ [m], by omega, by go_num, hown1, by simp; omega, hbel.trans hb1, HE⟩
          case measure => simp [intOf]; omega
      · obtain rfl : k = l.length := by omega
        have hd : decide ((l.length : Int) < (l.length : Int)) = false := decide_eq_false (by omega)
        have hdn : decide (l.length < l.length) = false := decide_eq_false (by omega)
        have HE := Lib.hid (show o = textsM l by rw [HT.out, ← HR.out, List.drop_length]; simp [keepM])
        go_wp2_with fail
        go_ret
        exact ⟨_, rfl, HE.out ▸ hown, hbel⟩
  · have hne : (errM l != 0) = true := by simpa using h0
    have HT := Lib.hid (show textsM l = [] by unfold textsM; rw [if_neg h0])
    clear h0
    generalize errM l = x at *
    go_enter Tryz.func22, Tryz.ntmps22
    go_wp2_with fail
    refine V.out.mono ?_
    rintro e w0 ⟨rfl, hb0⟩
    go_wp2_with fail
    go_ret
    exact ⟨_, rfl, by rw [HT.out]; exact OR.nil_ _ _ _, hb0⟩
end Go.Proofs.YtklnakjmiljmhaaGreatDoor
namespace Go.Proofs.YtklnakjmiljmhaaGreatDoor
set_option linter.unusedVariables false
set_option linter.unusedSimpArgs false
set_option maxRecDepth 100000
open Go.RowKit
theorem encM_get (m : Ms) (w : World) (g f : Nat) (h : MCell w g f m) : ∀ j < 5, w.cell? ⟨g, f + j, none⟩ = (encM m)[j]? := by
  obtain ⟨h0, h1, h2, h3, h4⟩ := h
  intro j hj
  have : j = 0 ∨ j = 1 ∨ j = 2 ∨ j = 3 ∨ j = 4 := by omega
  rcases this with rfl | rfl | rfl | rfl | rfl
  · exact h0
  · exact h1
  · exact h2
  · exact h3
  · exact h4
set_option maxHeartbeats 1000000 in
theorem clone_any (v : Value) (l : List Ms) (w : World) (h : MC v l w) (hl : l.length ≤ 100000) : Calls Tryz.prog 37 #[v] w (MsPost l w) := by
  obtain ⟨i0, hi, hz0, hz1, hz2⟩ := info_parts info_msg
  obtain ⟨A, c, rfl, hc, hcell⟩ := h
  have hnil := fun w => Lib.run_eql_slice_nil (P := Tryz.prog) w 30 43 A l.length c 0 0 Tryz.underlying30
  cases A with
  | none =>
    obtain rfl : l = [] := by
      rcases hcell with h | ⟨g, f, h, -⟩
      · exact h
      · cases h
    simp only [List.length_nil] at hnil
    go_enter Tryz.func37, Tryz.ntmps37
    go_wp2_with fail
    go_ret
    exact ⟨_, rfl, OR.nil_ _ _ _, Below.refl _ _⟩
  | some ad =>
    have HC := Lib.hid (show ∀ w1, Below w.heap.size w w1 → ∀ i (h : i < l.length), ∀ j < 5, w1.cell? (ad.add (i * 5 + j)) = (encM l[i])[j]? from fun w1 hb i hi j hj => by
      rcases hcell with h | ⟨g, f, h, hg, hm⟩
      · rw [h] at hi; simp at hi
      · injection h with h; subst h
        rw [Addr.add_lit, ← Nat.add_assoc]
        exact encM_get _ _ _ _ ((hm i hi).later (hb.block g hg)) j hj)
    clear hcell
    have h0 := OR.empty (enc := encM) (n := 5) 43 w
    have hb0 := (Below.refl w.heap.size w).alloc (Nat.le_refl _) (.cells #[] 43)
    go_enter Tryz.func37, Tryz.ntmps37
    go_wp2_with (at_builtin; refine app_at encM_E Tryz.underlying30 hi hz0 hz1 hz2 rfl (by decide) _ _ _ ad _ [] l w.heap.size rfl rfl rfl rfl h0 (HC.out _ hb0) (by simp) (by omega) (by simp) ?_; intro v1 w1 hown1 hb1)
    go_ret
    exact ⟨_, rfl, by simpa using hown1, hb0.trans hb1⟩
/-- 'is it a deletion'. -/
theorem dels_any (m : Ms) (w : World) : Calls Tryz.prog 38 #[.agg (encM m).toArray] w fun e w' => e = .returned (.bool (m.kind == 3)) ∧ Below w.heap.size w w' := by
  obtain ⟨kd, id, who, tm, tx⟩ := m
  unfold encM
  dsimp only
  go_enter Tryz.func38, Tryz.ntmps38
  go_wp2
  go_ret
  exact ⟨rfl, (Below.refl _ _).alloc (Nat.le_refl _) _⟩
end Go.Proofs.YtklnakjmiljmhaaGreatDoor
