/- The law ExportBack: the call returns true, for every tape. -/
import Derived.Test.YtklnakjmiljmhaaGreatDoorY28
import Derived.Test.YtklnakjmiljmhaaGreatDoorY29
import Derived.Test.YtklnakjmiljmhaaGreatDoorY36
import Derived.Test.YtklnakjmiljmhaaGreatDoorY21
namespace Go.Proofs.YtklnakjmiljmhaaGreatDoor
set_option linter.unusedVariables false
set_option linter.unusedSimpArgs false
set_option maxRecDepth 100000
open Go.RowKit
theorem lineM_len (m : Ms) (hw : wrongM m = false) (hl : lateM m = false) (ht : m.text.length ≤ 1000) : (lineM m).length + 1 ≤ 5000 := by
  obtain ⟨k1, k3, i1, i2, -, -, hwl, -⟩ := wrongM_no hw
  obtain ⟨t1, t2⟩ := lateM_no hl
  have e1 := wordM_len m.kind
  have e2 := dec_len m.id.toNat 10 (by omega)
  have e3 := dec_len m.time.toNat 13 (by omega)
  have e4 := encEsc_len m.text
  unfold lineM tailM numL
  split <;> (simp; omega)
theorem fmtM_len : ∀ {l : List Ms}, (∀ m ∈ l, wrongM m = false ∧ lateM m = false ∧ m.text.length ≤ 1000) → (fmtM l).length ≤ 5000 * l.length
  | [], _ => by simp [fmtM]
  | m :: r, h => by
    have h1 := fmtM_len (l := r) fun x hx => h x (List.mem_cons_of_mem _ hx)
    obtain ⟨hw, hl, ht⟩ := h m (by simp)
    have h2 := lineM_len m hw hl (by omega)
    rw [fmtM, List.length_append, List.length_cons, List.length_cons]
    omega
theorem made_small {l : List Ms} (h0 : errM l = 0) (hn : l.length ≤ 6) (ht : ∀ m ∈ l, m.text.length ≤ 60) : Small l ∧ parseE (fmtM l) = 0 ∧ parseO (fmtM l) = l ∧ (fmtM l).length ≤ 1000000000 ∧ fmtO l = fmtM l := by
  obtain ⟨p1, p2, p3, p4, -, -⟩ := errM_ok.1 h0
  have hlen := fmtM_len (l := l) fun m hm => ⟨p3 m hm, p4 m hm, by have := ht m hm; omega⟩
  have hp := parseM_fmt h0
  refine ⟨⟨by omega, fun m hm => ⟨?_, by have := ht m hm; omega⟩⟩, ?_, ?_, by omega, ?_⟩
  · obtain ⟨-, -, -, -, -, -, hw, -⟩ := wrongM_no (p3 m hm)
    omega
  · unfold parseE; rw [if_neg (by omega), hp]
  · unfold parseO; rw [if_neg (by omega), hp]; rfl
  · unfold fmtO; rw [if_pos h0]
set_option maxHeartbeats 1000000 in
theorem back17_law (A : Option Addr) (n c : Nat) (w : World) (ht : TapeArg A n w) (hv : VrOK w) :
    Calls Tryz.prog 7 #[.slice A n c] w fun e w' => e = .returned (.bool true) ∧ Below w.heap.size w w' := by
  have h0 := tape_new (c := c) ht
  have hb0 := (Below.refl w.heap.size w).alloc (Nat.le_refl _) (.cells #[.slice A n c, .int .i64 0] 26)
  generalize hw0 : w.alloc (.cells #[.slice A n c, .int .i64 0] 26) = w0 at h0 hb0
  have HW0 := Lib.hid hw0
  have HV := Lib.hid hv
  go_enter Tryz.func7, Tryz.ntmps7
  go_wp2_with fail
  clear hw0
  refine (kinds_any w.heap.size _ h0).mono ?_
  rintro e w1 ⟨vk, rfl, hk, ht1, hf1⟩
  go_wp2_with fail
  refine (messages_any w.heap.size vk _ hk ht1).mono ?_
  rintro e w2 ⟨v, l, B, rfl, hown, h00, hn, htx, ht2, hf2⟩
  have hF : Below w.heap.size w w2 := hb0.trans ((hf1.trans hf2).below (Nat.le_refl _) hb0.size)
  obtain ⟨hs, q1, q2, q3, q4⟩ := made_small h00 hn htx
  have HMC := Lib.hid (MC.of_own hown)
  have HF := Lib.hid (format_any v l w2 (MC.of_own hown) hs (hv.later hF))
  have HP := Lib.hid (fun (v' : Value) (w' : World) (h : BIn w'.heap.size w' v' (fmtM l)) (hV : VrOK w') => parse_any v' (fmtM l) w' h q3 hV)
  have HS := Lib.hid (fun (v' : Value) (w' : World) (ha : MC v l w') (hb : MC v' l w') => same_msgs v v' l w' ha hb (by omega))
  have HA := Lib.hid (fun (w' : World) (hV : VrOK w') => awake_any w' hV)
  have Q := Lib.hid (And.intro h00 (And.intro q1 (And.intro q2 q4)))
  clear hown h00 hn htx ht2 hf2 hs q1 q2 q3 q4 hk ht1 hf1 h0 hb0 HW0 hv
  go_wp2_with fail
  refine HF.out.mono ?_
  rintro e w3 ⟨u, rfl, hu, hb3⟩
  rw [Q.out.1]
  rw [Q.out.2.2.2] at hu
  have hF3 := hF.trans (hb3.mono hF.size)
  have hM3 := HMC.out.later hb3 (Nat.le_refl _)
  have hbin : BIn w3.heap.size w3 u (fmtM l) := BIn.of_OB hu
  clear HF
  go_wp2_with fail
  refine (HP.out _ _ hbin (HV.out.later hF3)).mono ?_
  rintro e w4 ⟨v', rfl, hv', hb4⟩
  rw [Q.out.2.1]
  rw [Q.out.2.2.1] at hv'
  have hF4 := hF3.trans (hb4.mono hF3.size)
  have hM4 := hM3.later hb4 (Nat.le_refl _)
  clear hbin hu
  go_wp2_with fail
  refine (HS.out _ _ hM4 (MC.of_own hv')).mono ?_
  rintro e w5 ⟨rfl, hb5⟩
  have hF5 := hF4.trans (hb5.mono hF4.size)
  go_wp2_with fail
  refine (HA.out _ (HV.out.later hF5)).mono ?_
  rintro e w6 ⟨rfl, hb6⟩
  go_wp2_with fail
  go_ret
  exact ⟨rfl, hF5.trans (hb6.mono hF5.size)⟩
end Go.Proofs.YtklnakjmiljmhaaGreatDoor
