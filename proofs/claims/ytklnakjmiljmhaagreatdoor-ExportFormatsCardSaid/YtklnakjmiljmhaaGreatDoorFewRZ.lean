/- What the law looks at, of messages that came in. -/
import Derived.Test.YtklnakjmiljmhaaGreatDoorY23
import Derived.Test.YtklnakjmiljmhaaGreatDoorArgMZ
import Derived.Test.YtklnakjmiljmhaaGreatDoorCameZ
import Derived.ProofKit
namespace Go.Proofs.YtklnakjmiljmhaaGreatDoor
set_option linter.unusedVariables false
set_option linter.unusedSimpArgs false
set_option maxRecDepth 100000
open Go.RowKit
/-- Messages whose texts fit into a memory that is there. -/
def BigM (l : List Ms) : Prop := l.length ≤ 140737488351232 ∧ ∀ m ∈ l, m.who.length ≤ 140737488351232 ∧ m.text.length ≤ 140737488351232
theorem msgs_came {w : World} {v : Value} (h : Came Tryz.prog w 30 v) : ∃ A n c l, v = .slice A n c ∧ MC (.slice A n c) l w ∧ BigM l := by
  obtain ⟨H, enc, base, spare, held, fuel, x, r, b0, h1, h2, h3⟩ := h
  obtain ⟨A, n, c, rfl⟩ := Go.WideShapes.okWide_slice Tryz.underlying30 h3
  obtain ⟨l, h4, h5, h6⟩ := msgsArg_of (A := A) (len := n) (cap := c) (by simpa [Value.cells] using h1) h2
  exact ⟨A, n, c, l, rfl, h4, h5, h6⟩
theorem sumM_bd2 : ∀ {l : List Ms}, (∀ m ∈ l, m.who.length ≤ 140737488351232 ∧ m.text.length ≤ 140737488351232) → sumM l ≤ l.length * 281474976702464
  | [], _ => by simp [sumM]
  | m :: r, h => by
    have h1 := h m (by simp)
    have h2 := sumM_bd2 (l := r) (fun x hx => h x (by simp [hx]))
    rw [sumM, List.length_cons, Nat.succ_mul]; omega
theorem few_small : ∀ {l : List Ms}, fewM l = true → l.length ≤ 1000 ∧ ∀ m ∈ l, m.who.length ≤ 3000 ∧ m.text.length ≤ 3000 := by
  intro l h
  unfold fewM at h
  simp only [Bool.and_eq_true, decide_eq_true_eq] at h
  refine ⟨by omega, fun m hm => ?_⟩
  have : m.text.length + m.who.length ≤ sumM l := by
    clear h
    induction l with
    | nil => cases hm
    | cons x r ih =>
      rw [sumM]
      rcases List.mem_cons.1 hm with rfl | hm
      · omega
      · have := ih hm; omega
  omega
set_option maxHeartbeats 8000000 in
theorem few_raw1 (v : Value) (l : List Ms) (w : World) (h : MC v l w) (hs : BigM l) (h60 : l.length ≤ 60) :
    Calls Tryz.prog 19 #[v] w fun e w' => e = .returned (.bool (fewM l)) ∧ Below w.heap.size w w' := by
  have hz := sumM_bd2 hs.2
  have hl := hs.1
  have hsz : sumM l ≤ 16888498602147840 := by omega
  have HS := Lib.hid hs; have H := Lib.hid h
  clear hs hz
  obtain ⟨A, c, rfl, hc, hcell⟩ := h
  have HC := Lib.hid hcell; clear hcell
  go_enter Tryz.func19, Tryz.ntmps19
  go_wp2
  go_loopw [3, 4] (fun s v wr => ∃ (k n : Nat), k ≤ l.length ∧ v = .int .i64 (k : Int) ∧ s = .int .i64 (n : Int) ∧ n ≤ 16888498602147840 ∧ Below w.heap.size w wr ∧ Hid (n + sumM (l.drop k) = sumM l)) (fun _ v _ => l.length - (intOf v).toNat)
  case atStart => exact ⟨0, 0, by omega, rfl, rfl, by omega, Below.refl _ _, by show _ = _; simp⟩
  case round =>
    obtain ⟨k, n, hk, rfl, rfl, hn, hbel, HR⟩ := hrel
    by_cases hlt : k < l.length
    · have hd : decide ((k : Int) < (l.length : Int)) = true := decide_eq_true (by omega)
      have hdn : decide (k < l.length) = true := decide_eq_true hlt
      obtain ⟨g, ff, rfl, hg, hcs⟩ := HC.out.resolve_left (by intro e; rw [e] at hlt; simp at hlt)
      obtain ⟨a0, a1, a2, a3, a4⟩ := (hcs k hlt).later (hbel.block g hg)
      have HD := Lib.hid (sumM_drop hlt)
      clear hcs
      obtain ⟨m, hm⟩ : ∃ m, l[k] = m := ⟨_, rfl⟩
      rw [hm] at a0 a1 a2 a3 a4 HD
      have htl := (HS.out.2 m (by rw [← hm]; exact List.getElem_mem hlt)).2
      have hwl := (HS.out.2 m (by rw [← hm]; exact List.getElem_mem hlt)).1
      clear hm
      have hbt : (bs m.text).size ≤ 140737488351232 := by rw [size_bs]; exact htl
      have hbw : (bs m.who).size ≤ 140737488351232 := by rw [size_bs]; exact hwl
      have HE := Lib.hid (show (n + ((bs m.text).size + (bs m.who).size)) + sumM (l.drop (k + 1)) = sumM l by rw [size_bs, size_bs, ← HR.out, HD.out]; omega)
      have hle : n + ((bs m.text).size + (bs m.who).size) ≤ 16888498602147840 := by have := HE.out; omega
      clear htl hwl HD
      generalize bs m.text = T at *
      generalize bs m.who = U at *
      have hq1 : IntKind.i64.wrap ((T.size : Int) + (U.size : Int)) = (T.size : Int) + (U.size : Int) := IntWalk.i64_in _ (by omega)
      have hq2 : IntKind.i64.wrap ((n : Int) + ((T.size : Int) + (U.size : Int))) = (n : Int) + ((T.size : Int) + (U.size : Int)) := IntWalk.i64_in _ (by omega)
      go_wp2_with fail
      go_region_held3 (fun w' => w'.cell? ⟨g, ff + k * 5 + 2, none⟩ = some (.string U) ∧ w'.cell? ⟨g, ff + k * 5 + 4, none⟩ = some (.string T)) (first | go_keep | exact ⟨a2, a4⟩) (fail)
      go_wp2_with fail
      go_roundw
      case rel => exact ⟨k + 1, n + (T.size + U.size), by omega, by go_num, by first | rfl | go_num, hle, by first | exact hbel.drew | exact hbel, HE⟩
      case measure => simp [intOf]; omega
    · obtain rfl : k = l.length := by omega
      have hd : decide ((l.length : Int) < (l.length : Int)) = false := decide_eq_false (by omega)
      have hdn : decide (l.length < l.length) = false := decide_eq_false (by omega)
      have hnz : n = sumM l := by have := HR.out; rw [List.drop_length, sumM] at this; omega
      have HN := Lib.hid hnz; clear hnz
      by_cases h1 : l.length ≤ 60
      · have d1 : decide ((l.length : Int) ≤ 60) = true := decide_eq_true (by omega)
        have d1n : decide (l.length ≤ 60) = true := decide_eq_true h1
        obtain ⟨b, hb⟩ : ∃ b, decide (n ≤ 3000) = b := ⟨_, rfl⟩
        have hbi : decide ((n : Int) ≤ 3000) = b := by rw [← hb, decide_eq_decide]; omega
        have HE := Lib.hid (show fewM l = b by unfold fewM; rw [decide_eq_true h1, ← HN.out, hb]; rfl)
        go_wp2_with fail
        go_ret
        exact ⟨ret_bool HE.out.symm, hbel⟩
      · have d1 : decide ((l.length : Int) ≤ 60) = false := decide_eq_false (by omega)
        have d1n : decide (l.length ≤ 60) = false := decide_eq_false h1
        have HE := Lib.hid (show fewM l = false by unfold fewM; rw [decide_eq_false h1]; rfl)
        go_wp2_with fail
        go_ret
        exact ⟨ret_bool HE.out.symm, by first | exact hbel | exact hbel.drew⟩
set_option maxHeartbeats 8000000 in
theorem few_raw2 (v : Value) (l : List Ms) (w : World) (h : MC v l w) (hs : BigM l) (h60 : ¬ l.length ≤ 60) :
    Calls Tryz.prog 19 #[v] w fun e w' => e = .returned (.bool (fewM l)) ∧ Below w.heap.size w w' := by
  have hl := hs.1
  have HS := Lib.hid hs; have H := Lib.hid h
  clear hs
  obtain ⟨A, c, rfl, hc, hcell⟩ := h
  have HC := Lib.hid hcell; clear hcell
  go_enter Tryz.func19, Tryz.ntmps19
  go_wp2
  go_loopw [3, 4] (fun s v wr => ∃ (k : Nat) (z : Int), k ≤ l.length ∧ v = .int .i64 (k : Int) ∧ s = .int .i64 z ∧ Below w.heap.size w wr) (fun _ v _ => l.length - (intOf v).toNat)
  case atStart => exact ⟨0, 0, by omega, rfl, rfl, Below.refl _ _⟩
  case round =>
    obtain ⟨k, z, hk, rfl, rfl, hbel⟩ := hrel
    by_cases hlt : k < l.length
    · have hd : decide ((k : Int) < (l.length : Int)) = true := decide_eq_true (by omega)
      have hdn : decide (k < l.length) = true := decide_eq_true hlt
      obtain ⟨g, ff, rfl, hg, hcs⟩ := HC.out.resolve_left (by intro e; rw [e] at hlt; simp at hlt)
      obtain ⟨a0, a1, a2, a3, a4⟩ := (hcs k hlt).later (hbel.block g hg)
      clear hcs
      obtain ⟨m, hm⟩ : ∃ m, l[k] = m := ⟨_, rfl⟩
      rw [hm] at a0 a1 a2 a3 a4
      have htl := (HS.out.2 m (by rw [← hm]; exact List.getElem_mem hlt)).2
      have hwl := (HS.out.2 m (by rw [← hm]; exact List.getElem_mem hlt)).1
      clear hm
      have hbt : (bs m.text).size ≤ 140737488351232 := by rw [size_bs]; exact htl
      have hbw : (bs m.who).size ≤ 140737488351232 := by rw [size_bs]; exact hwl
      clear htl hwl
      generalize bs m.text = T at *
      generalize bs m.who = U at *
      have hq1 : IntKind.i64.wrap ((T.size : Int) + (U.size : Int)) = (T.size : Int) + (U.size : Int) := IntWalk.i64_in _ (by omega)
      obtain ⟨z', hz'⟩ : ∃ z', IntKind.i64.wrap (z + ((T.size : Int) + (U.size : Int))) = z' := ⟨_, rfl⟩
      go_wp2_with fail
      go_region_held3 (fun w' => w'.cell? ⟨g, ff + k * 5 + 2, none⟩ = some (.string U) ∧ w'.cell? ⟨g, ff + k * 5 + 4, none⟩ = some (.string T)) (first | go_keep | exact ⟨a2, a4⟩) (fail)
      go_wp2_with fail
      go_roundw
      case rel => exact ⟨k + 1, _, by omega, by go_num, rfl, by first | exact hbel.drew | exact hbel⟩
      case measure => simp [intOf]; omega
    · have hd : decide ((k : Int) < (l.length : Int)) = false := decide_eq_false (by omega)
      have hdn : decide (k < l.length) = false := decide_eq_false hlt
      clear hlt
      have d1 : decide ((l.length : Int) ≤ 60) = false := decide_eq_false (by omega)
      have d1n : decide (l.length ≤ 60) = false := decide_eq_false h60
      have HE := Lib.hid (show fewM l = false by unfold fewM; rw [decide_eq_false h60]; rfl)
      go_wp2_with fail
      go_ret
      exact ⟨ret_bool HE.out.symm, by first | exact hbel | exact hbel.drew⟩
theorem few_raw (v : Value) (l : List Ms) (w : World) (h : MC v l w) (hs : BigM l) :
    Calls Tryz.prog 19 #[v] w fun e w' => e = .returned (.bool (fewM l)) ∧ Below w.heap.size w w' := by
  by_cases h60 : l.length ≤ 60
  · exact few_raw1 v l w h hs h60
  · exact few_raw2 v l w h hs h60
end Go.Proofs.YtklnakjmiljmhaaGreatDoor
