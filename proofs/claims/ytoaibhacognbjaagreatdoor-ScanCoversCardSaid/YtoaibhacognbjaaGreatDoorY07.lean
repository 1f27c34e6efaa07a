/- Walks: the least number of bytes of a pattern, its positions, and which patterns are valid. · Walks: pattern.Holds. -/
import Derived.Test.YtoaibhacognbjaaGreatDoorY06
import Derived.Test.YtoaibhacognbjaaGreatDoorY04
namespace Go.Proofs.YtoaibhacognbjaaGreatDoor
set_option linter.unusedVariables false
set_option linter.unusedSimpArgs false
set_option maxRecDepth 100000
open Go.RowKit
theorem posF_le (n : Nd) : posF n ≤ 601 := by cases n; rw [posF]; omega
-- The least number of bytes.
mutual
def shortF : Nd → Nat
  | .mk op _ kids mn _ => if op = 1 then 1 else if op = 2 then shortS kids else if op = 3 then shortC kids else mn.toNat * shortH kids
def shortS : List Nd → Nat
  | [] => 0
  | k :: r => shortF k + shortS r
def shortC : List Nd → Nat
  | [] => 1000000
  | k :: r => min (shortF k) (shortC r)
def shortH : List Nd → Nat
  | [] => 0
  | k :: _ => shortF k
end
theorem longS_mem : ∀ {l : List Nd} {k : Nd}, k ∈ l → longF k ≤ longS l
  | a :: r, k, h => by
    rw [longS]
    rcases List.mem_cons.1 h with rfl | h
    · omega
    · have := longS_mem h; omega
theorem longC_mem : ∀ {l : List Nd} {k : Nd}, k ∈ l → longF k ≤ longC l
  | a :: r, k, h => by
    rw [longC]
    rcases List.mem_cons.1 h with rfl | h
    · omega
    · have := longC_mem h; omega
theorem kids_two {rs : List (Nat × Nat)} {kids : List Nd} {op mn mx : Int} (hR : rightF (.mk op rs kids mn mx) = true) : op = 3 → 2 ≤ kids.length := by
  rintro rfl
  have h := ((rightF_iff _).1 hR).1
  simp only [rightN] at h
  rw [if_neg (by decide), if_pos (by decide)] at h
  simp at h
  exact h.1
theorem kids_long {rs : List (Nat × Nat)} {kids : List Nd} {op mn mx : Int} (hR : rightF (.mk op rs kids mn mx) = true) (hl : longF (.mk op rs kids mn mx) ≤ 1024) : ∀ k ∈ kids, longF k ≤ 1024 := by
  intro k hk
  obtain ⟨hop, -⟩ := rightF_op hR
  rw [longF] at hl
  rcases hop with rfl | rfl | rfl | ⟨rfl, hk1, hm0, hm1, hm2⟩
  · have h := ((rightF_iff _).1 hR).1
    simp only [rightN] at h
    simp at h
    rw [h.2.2.1] at hk
    cases hk
  · have := longS_mem hk
    simp at hl; omega
  · have := longC_mem hk
    simp at hl; omega
  · match kids, hk1 with
    | [a], _ =>
      rw [List.mem_singleton] at hk
      subst hk
      rw [if_neg (by decide), if_neg (by decide), if_neg (by decide), longH] at hl
      have h2 : 1 * longF k ≤ mx.toNat * longF k := Nat.mul_le_mul_right _ (by omega)
      omega
theorem rep_le {rs : List (Nat × Nat)} {kids : List Nd} {op mn mx : Int} (hR : rightF (.mk op rs kids mn mx) = true) : op = 4 → mn ≤ mx := by
  rintro rfl
  have h := ((rightF_iff _).1 hR).1
  rw [rightN_4 rfl] at h
  simp only [repN, Bool.and_eq_true, decide_eq_true_eq, Nd.mn, Nd.mx] at h
  exact of_decide_eq_true h.2.2.2.2.1
theorem short_bd : ∀ (m : Nat), (∀ n : Nd, nodesT n ≤ m → rightF n = true → longF n ≤ 1024 → shortF n ≤ longF n) := by
  intro m
  induction m with
  | zero => intro n h; cases n; rw [nodesT] at h; omega
  | succ m ih =>
    rintro ⟨op, rs, kids, mn, mx⟩ h hR hl
    have hk := kids_long hR hl
    have h2 := kids_two hR
    have hle := rep_le hR
    obtain ⟨hop, hRs⟩ := rightF_op hR
    rw [nodesT] at h
    have hkid : ∀ k ∈ kids, shortF k ≤ longF k := fun k hkm => ih k (by have := nodesT_kid hkm; omega) (rightFs_mem hRs hkm) (hk k hkm)
    rw [longF] at hl ⊢
    rw [shortF]
    rcases hop with rfl | rfl | rfl | ⟨rfl, hk1, hm0, hm1, hm2⟩
    · simp
    · have : ∀ l : List Nd, (∀ k ∈ l, shortF k ≤ longF k) → shortS l ≤ longS l := by
        intro l
        induction l with
        | nil => intro _; exact Nat.le_refl _
        | cons a r ih =>
          intro h
          rw [shortS, longS]
          have := h a (by simp)
          have := ih fun k hk => h k (by simp [hk])
          omega
      have := this kids hkid
      simp at hl ⊢; omega
    · match kids, h2 rfl with
      | a :: r, _ =>
        have h3 := hkid a (by simp)
        have h4 := longC_mem (show a ∈ a :: r by simp)
        simp at hl ⊢
        rw [shortC]
        omega
    · match kids, hk1 with
      | [a], _ =>
        have h3 := hkid a (by simp)
        rw [if_neg (by decide), if_neg (by decide), if_neg (by decide), longH] at hl ⊢
        rw [if_neg (by decide), if_neg (by decide), if_neg (by decide), shortH]
        have h6 := hle rfl
        have h5 : mn.toNat * shortF a ≤ mx.toNat * longF a := Nat.mul_le_mul (by omega) h3
        omega
theorem shortC_first : ∀ {l : List Nd} (h : 0 < l.length), min (shortF l[0]) (shortC l) = shortC l
  | a :: r, _ => by show min (shortF a) (min (shortF a) (shortC r)) = min (shortF a) (shortC r); omega
theorem shortF_le (n : Nd) (hR : rightF n = true) (hl : longF n ≤ 1024) : shortF n ≤ 1024 := Nat.le_trans (short_bd _ n (Nat.le_refl _) hR hl) hl
set_option maxHeartbeats 4000000 in
theorem positions_any : ∀ (m : Nat) (nd : Nd) (vs : List Value) (w : World), nodesT nd ≤ m → nodesT nd ≤ 200 → rightF nd = true → NdIn w nd vs → Calls Tryz.prog 134 #[.agg vs.toArray] w fun e w' => e = .returned (.int .i64 ((posF nd : Nat) : Int)) ∧ Below w.heap.size w w' := by
  intro m
  induction m with
  | zero => intro nd vs w h; cases nd; rw [nodesT] at h; omega
  | succ m ih =>
    rintro ⟨op, rs, kids, mn, mx⟩ vs w h h200 hR hn
    have HN := Lib.hid hn
    obtain ⟨v1, v2, rfl, hr, A, c, rfl, hc, hk⟩ := hn
    obtain ⟨A1, c1, rfl, -, -⟩ := hr
    have hb0 : Below w.heap.size w (w.alloc (.cells #[.int .i64 op, .slice A1 rs.length c1, .slice A kids.length c, .int .i64 mn, .int .i64 mx] 29)) := (Below.refl _ _).alloc (Nat.le_refl _) _
    have hT : nodesT (.mk op rs kids mn mx) = 1 + nodesTs kids := by rw [nodesT]
    have hL : posF (.mk op rs kids mn mx) = min (if op = 1 then 1 else if op = 4 then mx.toNat * posH kids else posS kids) 601 := by rw [posF]
    rw [hT] at h h200
    have hkl := kids_le kids
    have hkl2 : kids.length ≤ 200 := by omega
    obtain ⟨hop, hRs⟩ := rightF_op hR
    have HL := Lib.hid hL
    have HM := Lib.hid h
    have HM2 := Lib.hid h200
    have HRS := Lib.hid hRs
    clear hT h hL h200 hR hRs hkl
    rcases hop with rfl | rfl | rfl | ⟨rfl, hk1, hm0, hm1, hm2⟩
    · go_enter Tryz.func134, Tryz.ntmps134
      go_wp2_with fail
      go_ret
      exact ⟨ret_int (by rw [HL.out]; rfl), hb0⟩
    · go_enter Tryz.func134, Tryz.ntmps134
      go_wp2_with fail
      go_loopw [3, 11] (fun ov iv wr => ∃ (k o : Nat), k ≤ kids.length ∧ iv = .int .i64 (k : Int) ∧ ov = .int .i64 (o : Int) ∧ o ≤ 601 * k ∧ Hid (o + posS (kids.drop k) = posS kids) ∧ Below w.heap.size w wr) (fun _ iv _ => kids.length - (intOf iv).toNat)
      case atStart => exact ⟨0, 0, by omega, rfl, rfl, by omega, by show 0 + _ = _; rw [List.drop_zero, Nat.zero_add], hb0⟩
      case round =>
        obtain ⟨k, o, hkk, rfl, rfl, ho, HO, hb⟩ := hrel
        by_cases hlt : k < kids.length
        · have hd : decide ((k : Int) < (kids.length : Int)) = true := decide_eq_true (by omega)
          have hdn : decide (k < kids.length) = true := decide_eq_true hlt
          obtain ⟨g, f, rfl, hg, hkd⟩ := hk.resolve_left (by rintro rfl; simp at hlt)
          obtain ⟨vs, hcv, hnd⟩ := hkd.at k hlt
          have hmem := nodesT_kid (List.getElem_mem hlt)
          have hrk := rightFs_mem HRS.out (List.getElem_mem hlt)
          have hdr : posS (kids.drop k) = posF kids[k] + posS (kids.drop (k + 1)) := by rw [List.drop_eq_getElem_cons hlt, posS]
          obtain ⟨kd, hkd2⟩ : ∃ kd, kids[k] = kd := ⟨_, rfl⟩
          rw [hkd2] at hnd hmem hdr hrk
          obtain ⟨B1, e1, B2, e2, rfl, -, -, -⟩ := hnd.form
          have q : ∀ j, j < 5 → wr.cell? ⟨g, f + k * 5 + j, none⟩ = ([.int .i64 kd.op, .slice B1 kd.rs.length e1, .slice B2 kd.kids.length e2, .int .i64 kd.mn, .int .i64 kd.mx] : List Value)[j]? := fun j hj => (hb.cell (p := ⟨g, f + k * 5 + j, none⟩) hg).trans (hcv j hj)
          have q0 := q 0 (by omega); have q1 := q 1 (by omega); have q2 := q 2 (by omega); have q3 := q 3 (by omega); have q4 := q 4 (by omega)
          simp only [Nat.add_zero, List.getElem?_cons_zero, List.getElem?_cons_succ] at q0 q1 q2 q3 q4
          have hIH := fun (w' : World) (hw : Below w.heap.size w w') => ih kd _ w' (by have := HM.out; omega) (by have := HM2.out; omega) hrk (hnd.later hw)
          have HI := Lib.hid hIH
          have HB := Lib.hid hb
          have HD := Lib.hid hdr
          clear q hcv hnd hkd2 hkd hIH hb hdr hb0 hrk
          go_wp2_with fail
          refine (HI.out _ (HB.out.trans ((Below.refl w.heap.size _).alloc HB.out.size _))).mono ?_
          rintro e w1 ⟨rfl, hb1⟩
          obtain ⟨x, hx⟩ : ∃ x, posF kd = x := ⟨_, rfl⟩
          have hx2 := posF_le kd
          rw [hx] at hx2 ⊢
          have HX := Lib.hid hx
          have HB1 := Lib.hid (show Below w.heap.size w w1 from HB.out.trans ((((Below.refl w.heap.size _).alloc HB.out.size _)).trans (hb1.mono (by have := HB.out.size; simp; omega))))
          clear hb1 hx hmem q0 q1 q2 q3 q4
          go_wp2_with fail
          go_roundw
          case rel =>
            refine ⟨k + 1, o + x, by omega, by go_num, by go_num, by omega, ?_, HB1.out⟩
            have h1 := HO.out
            have h2 := HD.out
            have h3 := HX.out
            exact (by omega : o + x + posS (kids.drop (k + 1)) = posS kids)
          case measure => simp [intOf]; omega
        · obtain rfl : k = kids.length := by omega
          have hfin := HO.out
          rw [List.drop_length, posS, Nat.add_zero] at hfin
          have HF := Lib.hid hfin
          obtain ⟨y, hy⟩ : ∃ y : Nat, y = min o 601 := ⟨_, rfl⟩
          have hy2 : min (o : Int) 601 = (y : Int) := by omega
          have HY := Lib.hid hy
          clear hfin hy
          have hL' : posF (.mk 2 rs kids mn mx) = min (posS kids) 601 := by rw [HL.out]; simp
          have HL2 := Lib.hid hL'
          clear hL'
          go_wp2_with fail
          all_goals
            go_ret
            refine ⟨ret_int ?_, hb⟩
            have h1 := HY.out
            have h2 := HF.out
            rw [HL2.out, ← h2]
            omega
    · go_enter Tryz.func134, Tryz.ntmps134
      go_wp2_with fail
      go_loopw [3, 11] (fun ov iv wr => ∃ (k o : Nat), k ≤ kids.length ∧ iv = .int .i64 (k : Int) ∧ ov = .int .i64 (o : Int) ∧ o ≤ 601 * k ∧ Hid (o + posS (kids.drop k) = posS kids) ∧ Below w.heap.size w wr) (fun _ iv _ => kids.length - (intOf iv).toNat)
      case atStart => exact ⟨0, 0, by omega, rfl, rfl, by omega, by show 0 + _ = _; rw [List.drop_zero, Nat.zero_add], hb0⟩
      case round =>
        obtain ⟨k, o, hkk, rfl, rfl, ho, HO, hb⟩ := hrel
        by_cases hlt : k < kids.length
        · have hd : decide ((k : Int) < (kids.length : Int)) = true := decide_eq_true (by omega)
          have hdn : decide (k < kids.length) = true := decide_eq_true hlt
          obtain ⟨g, f, rfl, hg, hkd⟩ := hk.resolve_left (by rintro rfl; simp at hlt)
          obtain ⟨vs, hcv, hnd⟩ := hkd.at k hlt
          have hmem := nodesT_kid (List.getElem_mem hlt)
          have hrk := rightFs_mem HRS.out (List.getElem_mem hlt)
          have hdr : posS (kids.drop k) = posF kids[k] + posS (kids.drop (k + 1)) := by rw [List.drop_eq_getElem_cons hlt, posS]
          obtain ⟨kd, hkd2⟩ : ∃ kd, kids[k] = kd := ⟨_, rfl⟩
          rw [hkd2] at hnd hmem hdr hrk
          obtain ⟨B1, e1, B2, e2, rfl, -, -, -⟩ := hnd.form
          have q : ∀ j, j < 5 → wr.cell? ⟨g, f + k * 5 + j, none⟩ = ([.int .i64 kd.op, .slice B1 kd.rs.length e1, .slice B2 kd.kids.length e2, .int .i64 kd.mn, .int .i64 kd.mx] : List Value)[j]? := fun j hj => (hb.cell (p := ⟨g, f + k * 5 + j, none⟩) hg).trans (hcv j hj)
          have q0 := q 0 (by omega); have q1 := q 1 (by omega); have q2 := q 2 (by omega); have q3 := q 3 (by omega); have q4 := q 4 (by omega)
          simp only [Nat.add_zero, List.getElem?_cons_zero, List.getElem?_cons_succ] at q0 q1 q2 q3 q4
          have hIH := fun (w' : World) (hw : Below w.heap.size w w') => ih kd _ w' (by have := HM.out; omega) (by have := HM2.out; omega) hrk (hnd.later hw)
          have HI := Lib.hid hIH
          have HB := Lib.hid hb
          have HD := Lib.hid hdr
          clear q hcv hnd hkd2 hkd hIH hb hdr hb0 hrk
          go_wp2_with fail
          refine (HI.out _ (HB.out.trans ((Below.refl w.heap.size _).alloc HB.out.size _))).mono ?_
          rintro e w1 ⟨rfl, hb1⟩
          obtain ⟨x, hx⟩ : ∃ x, posF kd = x := ⟨_, rfl⟩
          have hx2 := posF_le kd
          rw [hx] at hx2 ⊢
          have HX := Lib.hid hx
          have HB1 := Lib.hid (show Below w.heap.size w w1 from HB.out.trans ((((Below.refl w.heap.size _).alloc HB.out.size _)).trans (hb1.mono (by have := HB.out.size; simp; omega))))
          clear hb1 hx hmem q0 q1 q2 q3 q4
          go_wp2_with fail
          go_roundw
          case rel =>
            refine ⟨k + 1, o + x, by omega, by go_num, by go_num, by omega, ?_, HB1.out⟩
            have h1 := HO.out
            have h2 := HD.out
            have h3 := HX.out
            exact (by omega : o + x + posS (kids.drop (k + 1)) = posS kids)
          case measure => simp [intOf]; omega
        · obtain rfl : k = kids.length := by omega
          have hfin := HO.out
          rw [List.drop_length, posS, Nat.add_zero] at hfin
          have HF := Lib.hid hfin
          obtain ⟨y, hy⟩ : ∃ y : Nat, y = min o 601 := ⟨_, rfl⟩
          have hy2 : min (o : Int) 601 = (y : Int) := by omega
          have HY := Lib.hid hy
          clear hfin hy
          have hL' : posF (.mk 3 rs kids mn mx) = min (posS kids) 601 := by rw [HL.out]; simp
          have HL2 := Lib.hid hL'
          clear hL'
          go_wp2_with fail
          all_goals
            go_ret
            refine ⟨ret_int ?_, hb⟩
            have h1 := HY.out
            have h2 := HF.out
            rw [HL2.out, ← h2]
            omega
    · obtain ⟨kd, rfl⟩ : ∃ kd, kids = [kd] := by
        match kids, hk1 with
        | [a], _ => exact ⟨a, rfl⟩
      obtain ⟨g, f, rfl, hg, hkd⟩ := hk.resolve_left (by simp)
      obtain ⟨vs, hcv, hnd⟩ := hkd.at 0 (by simp)
      have hmem := nodesT_kid (List.mem_singleton.2 rfl : kd ∈ [kd])
      have hrk := rightFs_mem HRS.out (List.mem_singleton.2 rfl : kd ∈ [kd])
      replace hnd : NdIn w kd vs := hnd
      obtain ⟨B1, e1, B2, e2, rfl, -, -, -⟩ := hnd.form
      have hrow := heap_alloc_new w (.cells #[.int .i64 4, .slice A1 rs.length c1, .slice (some ⟨g, f, none⟩) 1 c, .int .i64 mn, .int .i64 mx] 29)
      have hS : ∀ W, Below w.heap.size w W → W.heap[w.heap.size]? = some (.cells #[.int .i64 4, .slice A1 rs.length c1, .slice (some ⟨g, f, none⟩) 1 c, .int .i64 mn, .int .i64 mx] 29 (0, 0)) →
          (W.cell? ⟨w.heap.size, 4, none⟩ = some (.int .i64 mx) ∧ W.cell? ⟨w.heap.size, 2, none⟩ = some (.slice (some ⟨g, f, none⟩) 1 c)) ∧
          W.cell? ⟨g, f, none⟩ = some (.int .i64 kd.op) ∧ W.cell? ⟨g, f + 1, none⟩ = some (.slice B1 kd.rs.length e1) ∧ W.cell? ⟨g, f + 2, none⟩ = some (.slice B2 kd.kids.length e2) ∧ W.cell? ⟨g, f + 3, none⟩ = some (.int .i64 kd.mn) ∧ W.cell? ⟨g, f + 4, none⟩ = some (.int .i64 kd.mx) := by
        intro W hW hr
        have q : ∀ j, j < 5 → W.cell? ⟨g, f + j, none⟩ = ([.int .i64 kd.op, .slice B1 kd.rs.length e1, .slice B2 kd.kids.length e2, .int .i64 kd.mn, .int .i64 kd.mx] : List Value)[j]? := fun j hj => (hW.cell (p := ⟨g, f + j, none⟩) hg).trans (by have := hcv j hj; rw [Nat.zero_mul, Nat.add_zero] at this; exact this)
        refine ⟨⟨?_, ?_⟩, q 0 (by omega), q 1 (by omega), q 2 (by omega), q 3 (by omega), q 4 (by omega)⟩
        · rw [cell_of_row _ _ _ _ _ _ hr]; rfl
        · rw [cell_of_row _ _ _ _ _ _ hr]; rfl
      have HSS := Lib.hid hS
      have hIH := fun (w' : World) (hw : Below w.heap.size w w') => ih kd _ w' (by have := HM.out; omega) (by have := HM2.out; omega) hrk (hnd.later hw)
      have HI := Lib.hid hIH
      have HB := Lib.hid hb0
      have HR := Lib.hid hrow
      obtain ⟨x, hx⟩ : ∃ x, posF kd = x := ⟨_, rfl⟩
      have hx2 := posF_le kd
      rw [hx] at hx2 HI
      have HX := Lib.hid hx
      obtain ⟨M, rfl⟩ := Int.eq_ofNat_of_zero_le (show 0 ≤ mx by omega)
      obtain ⟨P, hP⟩ : ∃ P : Nat, P = M * x := ⟨_, rfl⟩
      have hP1 : P ≤ 64 * 601 := by rw [hP]; exact Nat.mul_le_mul (by omega) hx2
      have hP2 : (M : Int) * (x : Int) = (P : Int) := by rw [hP]; simp
      have hP3 : IntKind.i64.wrap ((M : Int) * (x : Int)) = (P : Int) := by rw [hP2]; exact IntWalk.i64_in _ (by omega)
      obtain ⟨y, hy⟩ : ∃ y : Nat, y = min P 601 := ⟨_, rfl⟩
      have hy2 : min (P : Int) 601 = (y : Int) := by omega
      have HY := Lib.hid (And.intro hP hy)
      clear hS hcv hnd hkd hIH hb0 hrow hrk hmem hx hP hy hP2
      have hz0 := HSS.out _ HB.out HR.out
      have hzd := HSS.out _ HB.out.drew HR.out
      go_enter Tryz.func134, Tryz.ntmps134
      go_wp2_with fail
      go_region_held3 (fun w' => (w'.cell? ⟨w.heap.size, 4, none⟩ = some (.int .i64 (M : Int)) ∧ w'.cell? ⟨w.heap.size, 2, none⟩ = some (.slice (some ⟨g, f, none⟩) 1 c)) ∧ w'.cell? ⟨g, f, none⟩ = some (.int .i64 kd.op) ∧ w'.cell? ⟨g, f + 1, none⟩ = some (.slice B1 kd.rs.length e1) ∧ w'.cell? ⟨g, f + 2, none⟩ = some (.slice B2 kd.kids.length e2) ∧ w'.cell? ⟨g, f + 3, none⟩ = some (.int .i64 kd.mn) ∧ w'.cell? ⟨g, f + 4, none⟩ = some (.int .i64 kd.mx))
        (first | exact hz0 | exact hzd | exact hz1 | go_keep)
        ((go_at_call 134; refine (HI.out _ HB.out.drew).mono ?_; rintro e w1 ⟨rfl, hb1⟩; have hz1 := HSS.out w1 (HB.out.drew.trans (hb1.mono (HB.out.drew).size)) ((hb1.block w.heap.size (by simp)).trans HR.out)))
      all_goals
        have HE := Lib.hid (HB.out.drew.trans (hb1.mono (HB.out.drew).size))
        clear hz0 hzd hz1 hb1
        go_wp2_with fail
        all_goals
          go_ret
          refine ⟨ret_int ?_, HE.out⟩
          have h1 := HY.out.1
          have h2 := HY.out.2
          have h3 := HX.out
          rw [HL.out, if_neg (by decide)]
          simp only [if_true, Int.toNat_natCast, posH]
          rw [h3, ← h1]
          omega
set_option maxHeartbeats 4000000 in
theorem shortest_any : ∀ (m : Nat) (nd : Nd) (vs : List Value) (w : World), nodesT nd ≤ m → nodesT nd ≤ 200 → rightF nd = true → longF nd ≤ 1024 → NdIn w nd vs → Calls Tryz.prog 140 #[.agg vs.toArray] w fun e w' => e = .returned (.int .i64 ((shortF nd : Nat) : Int)) ∧ Below w.heap.size w w' := by
  intro m
  induction m with
  | zero => intro nd vs w h; cases nd; rw [nodesT] at h; omega
  | succ m ih =>
    rintro ⟨op, rs, kids, mn, mx⟩ vs w h h200 hR hlg hn
    have HN := Lib.hid hn
    obtain ⟨v1, v2, rfl, hr, A, c, rfl, hc, hk⟩ := hn
    obtain ⟨A1, c1, rfl, -, -⟩ := hr
    have hb0 : Below w.heap.size w (w.alloc (.cells #[.int .i64 op, .slice A1 rs.length c1, .slice A kids.length c, .int .i64 mn, .int .i64 mx] 29)) := (Below.refl _ _).alloc (Nat.le_refl _) _
    have hT : nodesT (.mk op rs kids mn mx) = 1 + nodesTs kids := by rw [nodesT]
    have hL : shortF (.mk op rs kids mn mx) = (if op = 1 then 1 else if op = 2 then shortS kids else if op = 3 then shortC kids else mn.toNat * shortH kids) := by rw [shortF]
    rw [hT] at h h200
    have hkl := kids_le kids
    have hkl2 : kids.length ≤ 200 := by omega
    have HKL := Lib.hid (kids_long hR hlg)
    have HK2 := Lib.hid (kids_two hR)
    have HLE := Lib.hid (rep_le hR)
    obtain ⟨hop, hRs⟩ := rightF_op hR
    have HL := Lib.hid hL
    have HM := Lib.hid h
    have HM2 := Lib.hid h200
    have HRS := Lib.hid hRs
    clear hT h hL h200 hR hRs hkl hlg
    rcases hop with rfl | rfl | rfl | ⟨rfl, hk1, hm0, hm1, hm2⟩
    · go_enter Tryz.func140, Tryz.ntmps140
      go_wp2_with fail
      go_ret
      exact ⟨ret_int (by rw [HL.out]; rfl), hb0⟩
    · go_enter Tryz.func140, Tryz.ntmps140
      go_wp2_with fail
      go_loopw [3, 25] (fun ov iv wr => ∃ (k o : Nat), k ≤ kids.length ∧ iv = .int .i64 (k : Int) ∧ ov = .int .i64 (o : Int) ∧ o ≤ 1024 * k ∧ Hid (o + shortS (kids.drop k) = shortS kids) ∧ Below w.heap.size w wr) (fun _ iv _ => kids.length - (intOf iv).toNat)
      case atStart => exact ⟨0, 0, by omega, rfl, rfl, by omega, by show 0 + _ = _; rw [List.drop_zero, Nat.zero_add], hb0⟩
      case round =>
        obtain ⟨k, o, hkk, rfl, rfl, ho, HO, hb⟩ := hrel
        by_cases hlt : k < kids.length
        · have hd : decide ((k : Int) < (kids.length : Int)) = true := decide_eq_true (by omega)
          have hdn : decide (k < kids.length) = true := decide_eq_true hlt
          obtain ⟨g, f, rfl, hg, hkd⟩ := hk.resolve_left (by rintro rfl; simp at hlt)
          obtain ⟨vs, hcv, hnd⟩ := hkd.at k hlt
          have hmem := nodesT_kid (List.getElem_mem hlt)
          have hrk := rightFs_mem HRS.out (List.getElem_mem hlt)
          have hlk := HKL.out _ (List.getElem_mem hlt)
          have hdr : shortS (kids.drop k) = shortF kids[k] + shortS (kids.drop (k + 1)) := by rw [List.drop_eq_getElem_cons hlt, shortS]
          obtain ⟨kd, hkd2⟩ : ∃ kd, kids[k] = kd := ⟨_, rfl⟩
          rw [hkd2] at hnd hmem hdr hrk hlk
          have hx2 := shortF_le kd hrk hlk
          obtain ⟨B1, e1, B2, e2, rfl, -, -, -⟩ := hnd.form
          have q : ∀ j, j < 5 → wr.cell? ⟨g, f + k * 5 + j, none⟩ = ([.int .i64 kd.op, .slice B1 kd.rs.length e1, .slice B2 kd.kids.length e2, .int .i64 kd.mn, .int .i64 kd.mx] : List Value)[j]? := fun j hj => (hb.cell (p := ⟨g, f + k * 5 + j, none⟩) hg).trans (hcv j hj)
          have q0 := q 0 (by omega); have q1 := q 1 (by omega); have q2 := q 2 (by omega); have q3 := q 3 (by omega); have q4 := q 4 (by omega)
          simp only [Nat.add_zero, List.getElem?_cons_zero, List.getElem?_cons_succ] at q0 q1 q2 q3 q4
          have hIH := fun (w' : World) (hw : Below w.heap.size w w') => ih kd _ w' (by have := HM.out; omega) (by have := HM2.out; omega) hrk hlk (hnd.later hw)
          have HI := Lib.hid hIH
          have HB := Lib.hid hb
          have HD := Lib.hid hdr
          clear q hcv hnd hkd2 hkd hIH hb hdr hb0 hrk
          go_wp2_with fail
          refine (HI.out _ (HB.out.trans ((Below.refl w.heap.size _).alloc HB.out.size _))).mono ?_
          rintro e w1 ⟨rfl, hb1⟩
          obtain ⟨x, hx⟩ : ∃ x, shortF kd = x := ⟨_, rfl⟩
          rw [hx] at hx2 ⊢
          have HX := Lib.hid hx
          have HB1 := Lib.hid (show Below w.heap.size w w1 from HB.out.trans ((((Below.refl w.heap.size _).alloc HB.out.size _)).trans (hb1.mono (by have := HB.out.size; simp; omega))))
          clear hb1 hx hmem hlk q0 q1 q2 q3 q4
          go_wp2_with fail
          go_roundw
          case rel =>
            refine ⟨k + 1, o + x, by omega, by go_num, by go_num, by omega, ?_, HB1.out⟩
            have h1 := HO.out
            have h2 := HD.out
            have h3 := HX.out
            exact (by omega : o + x + shortS (kids.drop (k + 1)) = shortS kids)
          case measure => simp [intOf]; omega
        · obtain rfl : k = kids.length := by omega
          have hfin := HO.out
          rw [List.drop_length, shortS, Nat.add_zero] at hfin
          have HF := Lib.hid hfin
          have hL' : shortF (.mk 2 rs kids mn mx) = shortS kids := by rw [HL.out]; simp
          have HL2 := Lib.hid hL'
          clear hL' hfin
          go_wp2_with fail
          go_ret
          exact ⟨ret_int (by have h2 := HF.out; rw [HL2.out, ← h2]), hb⟩
    · have hk2 := HK2.out rfl
      obtain ⟨g, f, rfl, hg, hkd⟩ := hk.resolve_left (by rintro rfl; simp at hk2)
      obtain ⟨vs, hcv, hnd⟩ := hkd.at 0 (by omega)
      have hm0 : kids[0] ∈ kids := List.getElem_mem _
      have hmem := nodesT_kid hm0
      have hrk := rightFs_mem HRS.out hm0
      have hlk := HKL.out _ hm0
      obtain ⟨k0, hkd2⟩ : ∃ k0, kids[0] = k0 := ⟨_, rfl⟩
      have hst : min (shortF k0) (shortC kids) = shortC kids := by
        rw [← hkd2]
        exact shortC_first _
      have HST := Lib.hid hst
      rw [hkd2] at hnd hmem hrk hlk
      have hx2 := shortF_le k0 hrk hlk
      obtain ⟨B1, e1, B2, e2, rfl, -, -, -⟩ := hnd.form
      have q : ∀ j, j < 5 → w.cell? ⟨g, f + j, none⟩ = ([.int .i64 k0.op, .slice B1 k0.rs.length e1, .slice B2 k0.kids.length e2, .int .i64 k0.mn, .int .i64 k0.mx] : List Value)[j]? := fun j hj => (by have := hcv j hj; rw [Nat.zero_mul, Nat.add_zero] at this; exact this)
      have hgn : g ≠ w.heap.size := by omega
      have q0 := q 0 (by omega); have q1 := q 1 (by omega); have q2 := q 2 (by omega); have q3 := q 3 (by omega); have q4 := q 4 (by omega)
      simp only [Nat.add_zero, List.getElem?_cons_zero, List.getElem?_cons_succ] at q0 q1 q2 q3 q4
      have hIH := fun (w' : World) (hw : Below w.heap.size w w') => ih k0 _ w' (by have := HM.out; omega) (by have := HM2.out; omega) hrk hlk (hnd.later hw)
      have HI := Lib.hid hIH
      have HB0 := Lib.hid hb0
      have HKD := Lib.hid hkd
      have HX := Lib.hid (heap_alloc_new w (.cells #[.int .i64 3, .slice A1 rs.length c1, .slice (some ⟨g, f, none⟩) kids.length c, .int .i64 mn, .int .i64 mx] 29))
      have hk0 : 0 < kids.length := by omega
      clear q hcv hnd hkd2 hkd hIH hrk hst hm0 hk
      go_enter Tryz.func140, Tryz.ntmps140
      go_wp2_with fail
      refine (HI.out _ HB0.out).mono ?_
      rintro e w1 ⟨rfl, hb1⟩
      have HE1 := Lib.hid (HB0.out.trans (hb1.mono (HB0.out).size))
      have hx1 := (hb1.block w.heap.size (by simp)).trans HX.out
      obtain ⟨b0, b1, b2, b3, b4⟩ := cells5 hx1
      obtain ⟨x, hx⟩ : ∃ x, shortF k0 = x := ⟨_, rfl⟩
      rw [hx] at hx2 HST ⊢
      have hkx : x ≤ 1024 := by omega
      clear hb1 hx1 hx hmem hlk q0 q1 q2 q3 q4 hx2 HI
      go_wp2_with fail
      go_loopw [3, 44] (fun ov iv wr => ∃ (k o : Nat), k ≤ kids.length ∧ iv = .int .i64 (k : Int) ∧ ov = .int .i64 (o : Int) ∧ o ≤ 1024 ∧ Hid (min o (shortC (kids.drop k)) = shortC kids) ∧ Below w.heap.size w wr) (fun _ iv _ => kids.length - (intOf iv).toNat)
      case atStart => exact ⟨0, x, by omega, rfl, rfl, by omega, by show min x _ = _; rw [List.drop_zero]; exact HST.out, HE1.out⟩
      case round =>
        obtain ⟨k, o, hkk, rfl, rfl, ho, HO, hb⟩ := hrel
        by_cases hlt : k < kids.length
        · have hd : decide ((k : Int) < (kids.length : Int)) = true := decide_eq_true (by omega)
          have hdn : decide (k < kids.length) = true := decide_eq_true hlt
          obtain ⟨vs, hcv, hnd⟩ := HKD.out.at k hlt
          have hmem := nodesT_kid (List.getElem_mem hlt)
          have hrk := rightFs_mem HRS.out (List.getElem_mem hlt)
          have hlk := HKL.out _ (List.getElem_mem hlt)
          have hdr : shortC (kids.drop k) = min (shortF kids[k]) (shortC (kids.drop (k + 1))) := by rw [List.drop_eq_getElem_cons hlt, shortC]
          obtain ⟨kd, hkd2⟩ : ∃ kd, kids[k] = kd := ⟨_, rfl⟩
          rw [hkd2] at hnd hmem hdr hrk hlk
          have hx2 := shortF_le kd hrk hlk
          obtain ⟨B1, e1, B2, e2, rfl, -, -, -⟩ := hnd.form
          have q : ∀ j, j < 5 → wr.cell? ⟨g, f + k * 5 + j, none⟩ = ([.int .i64 kd.op, .slice B1 kd.rs.length e1, .slice B2 kd.kids.length e2, .int .i64 kd.mn, .int .i64 kd.mx] : List Value)[j]? := fun j hj => (hb.cell (p := ⟨g, f + k * 5 + j, none⟩) hg).trans (hcv j hj)
          have q0 := q 0 (by omega); have q1 := q 1 (by omega); have q2 := q 2 (by omega); have q3 := q 3 (by omega); have q4 := q 4 (by omega)
          simp only [Nat.add_zero, List.getElem?_cons_zero, List.getElem?_cons_succ] at q0 q1 q2 q3 q4
          have hIH := fun (w' : World) (hw : Below w.heap.size w w') => ih kd _ w' (by have := HM.out; omega) (by have := HM2.out; omega) hrk hlk (hnd.later hw)
          have HI := Lib.hid hIH
          have HB := Lib.hid hb
          have HD := Lib.hid hdr
          clear q hcv hnd hkd2 hIH hb hdr hrk
          go_wp2_with fail
          refine (HI.out _ (HB.out.trans ((Below.refl w.heap.size _).alloc HB.out.size _))).mono ?_
          rintro e w1 ⟨rfl, hb1⟩
          obtain ⟨x, hx⟩ : ∃ x, shortF kd = x := ⟨_, rfl⟩
          rw [hx] at hx2 ⊢
          have HX := Lib.hid hx
          have HB1 := Lib.hid (show Below w.heap.size w w1 from HB.out.trans ((((Below.refl w.heap.size _).alloc HB.out.size _)).trans (hb1.mono (by have := HB.out.size; simp; omega))))
          obtain ⟨y, hy⟩ : ∃ y : Nat, y = min o x := ⟨_, rfl⟩
          have hy2 : min (o : Int) (x : Int) = (y : Int) := by omega
          have HY := Lib.hid hy
          have hy3 : y ≤ 1024 := by omega
          clear hb1 hx hmem hlk q0 q1 q2 q3 q4 hy
          go_wp2_with fail
          go_roundw
          case rel =>
            refine ⟨k + 1, y, by omega, by go_num, by first | go_num | (simp; omega), by omega, ?_, HB1.out⟩
            have h4 := HY.out
            have h1 := HO.out
            have h2 := HD.out
            have h3 := HX.out
            exact (by omega : min y (shortC (kids.drop (k + 1))) = shortC kids)
          case measure => simp [intOf]; omega
        · obtain rfl : k = kids.length := by omega
          have hfin := HO.out
          rw [List.drop_length, shortC] at hfin
          have HF := Lib.hid hfin
          have hL' : shortF (.mk 3 rs kids mn mx) = shortC kids := by rw [HL.out]; simp
          have HL2 := Lib.hid hL'
          clear hL' hfin
          go_wp2_with fail
          go_ret
          exact ⟨ret_int (by have h2 := HF.out; rw [HL2.out, ← h2]; omega), hb⟩
    · obtain ⟨kd, rfl⟩ : ∃ kd, kids = [kd] := by
        match kids, hk1 with
        | [a], _ => exact ⟨a, rfl⟩
      obtain ⟨g, f, rfl, hg, hkd⟩ := hk.resolve_left (by simp)
      obtain ⟨vs, hcv, hnd⟩ := hkd.at 0 (by simp)
      have hmem := nodesT_kid (List.mem_singleton.2 rfl : kd ∈ [kd])
      have hrk := rightFs_mem HRS.out (List.mem_singleton.2 rfl : kd ∈ [kd])
      have hlk := HKL.out _ (List.mem_singleton.2 rfl : kd ∈ [kd])
      replace hnd : NdIn w kd vs := hnd
      obtain ⟨B1, e1, B2, e2, rfl, -, -, -⟩ := hnd.form
      have hrow := heap_alloc_new w (.cells #[.int .i64 4, .slice A1 rs.length c1, .slice (some ⟨g, f, none⟩) 1 c, .int .i64 mn, .int .i64 mx] 29)
      have hS : ∀ W, Below w.heap.size w W → W.heap[w.heap.size]? = some (.cells #[.int .i64 4, .slice A1 rs.length c1, .slice (some ⟨g, f, none⟩) 1 c, .int .i64 mn, .int .i64 mx] 29 (0, 0)) →
          (W.cell? ⟨w.heap.size, 3, none⟩ = some (.int .i64 mn) ∧ W.cell? ⟨w.heap.size, 2, none⟩ = some (.slice (some ⟨g, f, none⟩) 1 c)) ∧
          W.cell? ⟨g, f, none⟩ = some (.int .i64 kd.op) ∧ W.cell? ⟨g, f + 1, none⟩ = some (.slice B1 kd.rs.length e1) ∧ W.cell? ⟨g, f + 2, none⟩ = some (.slice B2 kd.kids.length e2) ∧ W.cell? ⟨g, f + 3, none⟩ = some (.int .i64 kd.mn) ∧ W.cell? ⟨g, f + 4, none⟩ = some (.int .i64 kd.mx) := by
        intro W hW hr
        have q : ∀ j, j < 5 → W.cell? ⟨g, f + j, none⟩ = ([.int .i64 kd.op, .slice B1 kd.rs.length e1, .slice B2 kd.kids.length e2, .int .i64 kd.mn, .int .i64 kd.mx] : List Value)[j]? := fun j hj => (hW.cell (p := ⟨g, f + j, none⟩) hg).trans (by have := hcv j hj; rw [Nat.zero_mul, Nat.add_zero] at this; exact this)
        refine ⟨⟨?_, ?_⟩, q 0 (by omega), q 1 (by omega), q 2 (by omega), q 3 (by omega), q 4 (by omega)⟩
        · rw [cell_of_row _ _ _ _ _ _ hr]; rfl
        · rw [cell_of_row _ _ _ _ _ _ hr]; rfl
      have HSS := Lib.hid hS
      have hIH := fun (w' : World) (hw : Below w.heap.size w w') => ih kd _ w' (by have := HM.out; omega) (by have := HM2.out; omega) hrk hlk (hnd.later hw)
      have HI := Lib.hid hIH
      have HB := Lib.hid hb0
      have HR := Lib.hid hrow
      obtain ⟨x, hx⟩ : ∃ x, shortF kd = x := ⟨_, rfl⟩
      have hx2 := shortF_le kd hrk hlk
      rw [hx] at hx2 HI
      have HX := Lib.hid hx
      have hmle := HLE.out rfl
      obtain ⟨M, rfl⟩ := Int.eq_ofNat_of_zero_le (show 0 ≤ mn by omega)
      obtain ⟨P, hP⟩ : ∃ P : Nat, P = M * x := ⟨_, rfl⟩
      have hP1 : P ≤ 64 * 1024 := by rw [hP]; exact Nat.mul_le_mul (by omega) hx2
      have hP2 : (M : Int) * (x : Int) = (P : Int) := by rw [hP]; simp
      have hP3 : IntKind.i64.wrap ((M : Int) * (x : Int)) = (P : Int) := by rw [hP2]; exact IntWalk.i64_in _ (by omega)
      have HY := Lib.hid hP
      clear hS hcv hnd hkd hIH hb0 hrow hrk hmem hx hP hP2 hlk
      have hz0 := HSS.out _ HB.out HR.out
      have hzd := HSS.out _ HB.out.drew HR.out
      go_enter Tryz.func140, Tryz.ntmps140
      go_wp2_with fail
      go_region_held3 (fun w' => (w'.cell? ⟨w.heap.size, 3, none⟩ = some (.int .i64 (M : Int)) ∧ w'.cell? ⟨w.heap.size, 2, none⟩ = some (.slice (some ⟨g, f, none⟩) 1 c)) ∧ w'.cell? ⟨g, f, none⟩ = some (.int .i64 kd.op) ∧ w'.cell? ⟨g, f + 1, none⟩ = some (.slice B1 kd.rs.length e1) ∧ w'.cell? ⟨g, f + 2, none⟩ = some (.slice B2 kd.kids.length e2) ∧ w'.cell? ⟨g, f + 3, none⟩ = some (.int .i64 kd.mn) ∧ w'.cell? ⟨g, f + 4, none⟩ = some (.int .i64 kd.mx))
        (first | exact hz0 | exact hzd | exact hz1 | go_keep)
        ((go_at_call 140; refine (HI.out _ HB.out.drew).mono ?_; rintro e w1 ⟨rfl, hb1⟩; have hz1 := HSS.out w1 (HB.out.drew.trans (hb1.mono (HB.out.drew).size)) ((hb1.block w.heap.size (by simp)).trans HR.out)))
      all_goals
        have HE := Lib.hid (HB.out.drew.trans (hb1.mono (HB.out.drew).size))
        clear hz0 hzd hz1 hb1
        go_wp2_with fail
        go_ret
        refine ⟨ret_int ?_, HE.out⟩
        have h1 := HY.out
        have h3 := HX.out
        rw [HL.out, if_neg (by decide), if_neg (by decide), if_neg (by decide), Int.toNat_natCast, shortH, h3, ← h1]
/-- The first error of a pattern. -/
def validF (nd : Nd) : Int := if 200 < nodesT nd then 3 else if 20 < depthT nd then 9 else if rightF nd = false then 1 else if 1024 < longF nd then 3 else 0
/-- What a valid pattern is. -/
theorem valid_zero {nd : Nd} (h : validF nd = 0) : nodesT nd ≤ 200 ∧ depthT nd ≤ 20 ∧ rightF nd = true ∧ longF nd ≤ 1024 := by
  unfold validF at h
  by_cases h1 : 200 < nodesT nd
  · rw [if_pos h1] at h; cases h
  · rw [if_neg h1] at h
    by_cases h2 : 20 < depthT nd
    · rw [if_pos h2] at h; cases h
    · rw [if_neg h2] at h
      cases h3 : rightF nd with
      | false => rw [if_pos h3] at h; cases h
      | true =>
        rw [if_neg (by rw [h3]; decide)] at h
        by_cases h4 : 1024 < longF nd
        · rw [if_pos h4] at h; cases h
        · exact ⟨by omega, by omega, rfl, by omega⟩
set_option maxHeartbeats 2000000 in
theorem valid_any (nd : Nd) (vs : List Value) (w : World) (hn : NdIn w nd vs) : Calls Tryz.prog 133 #[.agg vs.toArray] w fun e w' => e = .returned (.int .i64 (validF nd)) ∧ Below w.heap.size w w' := by
  have HN := Lib.hid (fun W (hW : Below w.heap.size w W) => nodes_any _ nd vs W (Nat.le_refl _) (hn.later hW))
  have HD := Lib.hid (fun W (hW : Below w.heap.size w W) => depth_any _ nd vs W 20 (by omega) (Nat.le_refl _) (hn.later hW))
  have HR := Lib.hid (fun W (hW : Below w.heap.size w W) (h : nodesT nd ≤ 200) => right_any _ nd vs W (Nat.le_refl _) (by omega) (hn.later hW))
  have HL := Lib.hid (fun W (hW : Below w.heap.size w W) (h : nodesT nd ≤ 200) (hr : rightF nd = true) => longest_any _ nd vs W (Nat.le_refl _) h hr (hn.later hW))
  obtain ⟨A1, c1, A2, c2, rfl, hr, hc2, hk⟩ := hn.form
  have HB := Lib.hid (show Below w.heap.size w (w.alloc (.cells #[.int .i64 nd.op, .slice A1 nd.rs.length c1, .slice A2 nd.kids.length c2, .int .i64 nd.mn, .int .i64 nd.mx] 29)) from (Below.refl _ _).alloc (Nat.le_refl _) _)
  have HX := Lib.hid (heap_alloc_new w (.cells #[.int .i64 nd.op, .slice A1 nd.rs.length c1, .slice A2 nd.kids.length c2, .int .i64 nd.mn, .int .i64 nd.mx] 29))
  clear hr hk hn
  go_enter Tryz.func133, Tryz.ntmps133
  go_wp2_with fail
  refine (HN.out _ HB.out).mono ?_
  rintro e w1 ⟨rfl, hb1⟩
  obtain ⟨x, hx⟩ : ∃ x, min (nodesT nd) 201 = x := ⟨_, rfl⟩
  rw [hx]
  have HW1 := Lib.hid (show Below w.heap.size w w1 from HB.out.trans (hb1.mono HB.out.size))
  have hx1 := (hb1.block w.heap.size (by simp)).trans HX.out
  obtain ⟨b0, b1, b2, b3, b4⟩ := cells5 hx1
  have HX1 := Lib.hid hx1
  clear hx1 hb1
  by_cases h1 : 200 < nodesT nd
  · have d1 : decide (200 < (x : Int)) = true := decide_eq_true (by omega)
    have HV := Lib.hid (show (3 : Int) = validF nd by unfold validF; rw [if_pos h1])
    clear h1 hx
    go_wp2_with fail
    go_ret
    exact ⟨ret_int HV.out, HW1.out⟩
  have d1 : decide (200 < (x : Int)) = false := decide_eq_false (by omega)
  have H200 := Lib.hid (show nodesT nd ≤ 200 by omega)
  have HV1 := Lib.hid (show validF nd = _ by unfold validF; rw [if_neg h1])
  clear h1 hx
  go_wp2_with fail
  refine (HD.out _ HW1.out).mono ?_
  rintro e w2 ⟨rfl, hb2⟩
  obtain ⟨x2, hx2⟩ : ∃ x2, min (depthT nd) (20 + 1) = x2 := ⟨_, rfl⟩
  rw [hx2]
  have HW2 := Lib.hid (show Below w.heap.size w w2 from HW1.out.trans (hb2.mono HW1.out.size))
  have hx3 := (hb2.block w.heap.size (Array.getElem?_eq_some_iff.1 HX1.out).1).trans HX1.out
  clear b0 b1 b2 b3 b4
  obtain ⟨b0, b1, b2, b3, b4⟩ := cells5 hx3
  have HX2 := Lib.hid hx3
  clear hx3 hb2 HX1
  by_cases h2 : 20 < depthT nd
  · have d2 : decide (20 < (x2 : Int)) = true := decide_eq_true (by omega)
    have HV := Lib.hid (show (9 : Int) = validF nd by rw [HV1.out, if_pos h2])
    clear h2 hx2
    go_wp2_with fail
    go_ret
    exact ⟨ret_int HV.out, HW2.out⟩
  have d2 : decide (20 < (x2 : Int)) = false := decide_eq_false (by omega)
  have HV2 := Lib.hid (show validF nd = _ by rw [HV1.out, if_neg h2])
  clear h2 hx2
  go_wp2_with fail
  refine (HR.out _ HW2.out H200.out).mono ?_
  rintro e w3 ⟨rfl, hb3⟩
  have HW3 := Lib.hid (show Below w.heap.size w w3 from HW2.out.trans (hb3.mono HW2.out.size))
  have hx4 := (hb3.block w.heap.size (Array.getElem?_eq_some_iff.1 HX2.out).1).trans HX2.out
  clear b0 b1 b2 b3 b4
  obtain ⟨b0, b1, b2, b3, b4⟩ := cells5 hx4
  have HX3 := Lib.hid hx4
  clear hx4 hb3 HX2
  cases h3 : rightF nd with
  | false =>
    have HV := Lib.hid (show (1 : Int) = validF nd by rw [HV2.out, if_pos h3])
    clear h3
    go_wp2_with fail
    go_ret
    exact ⟨ret_int HV.out, HW3.out⟩
  | true =>
    have HV3 := Lib.hid (show validF nd = _ by rw [HV2.out, if_neg (by rw [h3]; decide)])
    have H3 := Lib.hid h3
    clear h3
    go_wp2_with fail
    refine (HL.out _ HW3.out H200.out H3.out).mono ?_
    rintro e w4 ⟨rfl, hb4⟩
    have HW4 := Lib.hid (show Below w.heap.size w w4 from HW3.out.trans (hb4.mono HW3.out.size))
    have hle := longF_le nd
    generalize longF nd = y at *
    clear hb4
    by_cases h4 : 1024 < y
    · have d4 : decide (1024 < (y : Int)) = true := decide_eq_true (by omega)
      have HV := Lib.hid (show (3 : Int) = validF nd by rw [HV3.out, if_pos h4])
      clear h4
      go_wp2_with fail
      go_ret
      exact ⟨ret_int HV.out, HW4.out⟩
    · have d4 : decide (1024 < (y : Int)) = false := decide_eq_false (by omega)
      have HV := Lib.hid (show (0 : Int) = validF nd by rw [HV3.out, if_neg h4])
      clear h4
      go_wp2_with fail
      go_ret
      exact ⟨ret_int HV.out, HW4.out⟩
/-- Shortest and Longest: 0 of a pattern that is not valid. -/
def ShortF (nd : Nd) : Nat := if validF nd = 0 then shortF nd else 0
def LongF (nd : Nd) : Nat := if validF nd = 0 then longF nd else 0
set_option maxHeartbeats 1000000 in
theorem Shortest_any (nd : Nd) (vs : List Value) (w : World) (hn : NdIn w nd vs) : Calls Tryz.prog 108 #[.agg vs.toArray] w fun e w' => e = .returned (.int .i64 ((ShortF nd : Nat) : Int)) ∧ Below w.heap.size w w' := by
  have HV := Lib.hid (fun W (hW : Below w.heap.size w W) => valid_any nd vs W (hn.later hW))
  have HS := Lib.hid (fun W (hW : Below w.heap.size w W) (h : validF nd = 0) => shortest_any _ nd vs W (Nat.le_refl _) (valid_zero h).1 (valid_zero h).2.2.1 (valid_zero h).2.2.2 (hn.later hW))
  obtain ⟨A1, c1, A2, c2, rfl, hr, hc2, hk⟩ := hn.form
  have HB := Lib.hid (show Below w.heap.size w (w.alloc (.cells #[.int .i64 nd.op, .slice A1 nd.rs.length c1, .slice A2 nd.kids.length c2, .int .i64 nd.mn, .int .i64 nd.mx] 29)) from (Below.refl _ _).alloc (Nat.le_refl _) _)
  have HX := Lib.hid (heap_alloc_new w (.cells #[.int .i64 nd.op, .slice A1 nd.rs.length c1, .slice A2 nd.kids.length c2, .int .i64 nd.mn, .int .i64 nd.mx] 29))
  clear hr hk hn
  go_enter Tryz.func108, Tryz.ntmps108
  go_wp2_with fail
  refine (HV.out _ HB.out).mono ?_
  rintro e w1 ⟨rfl, hb1⟩
  have HW1 := Lib.hid (show Below w.heap.size w w1 from HB.out.trans (hb1.mono HB.out.size))
  have hx1 := (hb1.block w.heap.size (by simp)).trans HX.out
  obtain ⟨b0, b1, b2, b3, b4⟩ := cells5 hx1
  clear hx1 hb1
  have HF := Lib.hid (show ShortF nd = _ from rfl : ShortF nd = if validF nd = 0 then shortF nd else 0)
  obtain ⟨x, hx⟩ : ∃ x, validF nd = x := ⟨_, rfl⟩
  rw [hx] at HF HS ⊢
  clear hx
  by_cases h0 : x = 0
  · subst h0
    go_wp2_with fail
    refine (HS.out _ HW1.out (by trivial)).mono ?_
    rintro e w2 ⟨rfl, hb2⟩
    have HE := Lib.hid (show ((shortF nd : Nat) : Int) = (ShortF nd : Nat) by rw [HF.out]; simp)
    generalize shortF nd = y at *
    go_wp2_with fail
    go_ret
    exact ⟨ret_int HE.out, HW1.out.trans (hb2.mono HW1.out.size)⟩
  · have d1 : (x != 0) = true := by simpa using h0
    have d2 : (x == 0) = false := by simpa using h0
    have HE := Lib.hid (show (0 : Int) = (ShortF nd : Nat) by rw [HF.out, if_neg h0]; rfl)
    go_wp2_with fail
    go_ret
    exact ⟨ret_int HE.out, HW1.out⟩
set_option maxHeartbeats 1000000 in
theorem Longest_any (nd : Nd) (vs : List Value) (w : World) (hn : NdIn w nd vs) : Calls Tryz.prog 109 #[.agg vs.toArray] w fun e w' => e = .returned (.int .i64 ((LongF nd : Nat) : Int)) ∧ Below w.heap.size w w' := by
  have HV := Lib.hid (fun W (hW : Below w.heap.size w W) => valid_any nd vs W (hn.later hW))
  have HS := Lib.hid (fun W (hW : Below w.heap.size w W) (h : validF nd = 0) => longest_any _ nd vs W (Nat.le_refl _) (valid_zero h).1 (valid_zero h).2.2.1 (hn.later hW))
  obtain ⟨A1, c1, A2, c2, rfl, hr, hc2, hk⟩ := hn.form
  have HB := Lib.hid (show Below w.heap.size w (w.alloc (.cells #[.int .i64 nd.op, .slice A1 nd.rs.length c1, .slice A2 nd.kids.length c2, .int .i64 nd.mn, .int .i64 nd.mx] 29)) from (Below.refl _ _).alloc (Nat.le_refl _) _)
  have HX := Lib.hid (heap_alloc_new w (.cells #[.int .i64 nd.op, .slice A1 nd.rs.length c1, .slice A2 nd.kids.length c2, .int .i64 nd.mn, .int .i64 nd.mx] 29))
  clear hr hk hn
  go_enter Tryz.func109, Tryz.ntmps109
  go_wp2_with fail
  refine (HV.out _ HB.out).mono ?_
  rintro e w1 ⟨rfl, hb1⟩
  have HW1 := Lib.hid (show Below w.heap.size w w1 from HB.out.trans (hb1.mono HB.out.size))
  have hx1 := (hb1.block w.heap.size (by simp)).trans HX.out
  obtain ⟨b0, b1, b2, b3, b4⟩ := cells5 hx1
  clear hx1 hb1
  have HF := Lib.hid (show LongF nd = _ from rfl : LongF nd = if validF nd = 0 then longF nd else 0)
  obtain ⟨x, hx⟩ : ∃ x, validF nd = x := ⟨_, rfl⟩
  rw [hx] at HF HS ⊢
  clear hx
  by_cases h0 : x = 0
  · subst h0
    go_wp2_with fail
    refine (HS.out _ HW1.out (by trivial)).mono ?_
    rintro e w2 ⟨rfl, hb2⟩
    have HE := Lib.hid (show ((longF nd : Nat) : Int) = (LongF nd : Nat) by rw [HF.out]; simp)
    generalize longF nd = y at *
    go_wp2_with fail
    go_ret
    exact ⟨ret_int HE.out, HW1.out.trans (hb2.mono HW1.out.size)⟩
  · have d1 : (x != 0) = true := by simpa using h0
    have d2 : (x == 0) = false := by simpa using h0
    have HE := Lib.hid (show (0 : Int) = (LongF nd : Nat) by rw [HF.out, if_neg h0]; rfl)
    go_wp2_with fail
    go_ret
    exact ⟨ret_int HE.out, HW1.out⟩
end Go.Proofs.YtoaibhacognbjaaGreatDoor
namespace Go.Proofs.YtoaibhacognbjaaGreatDoor
set_option linter.unusedVariables false
set_option linter.unusedSimpArgs false
set_option maxRecDepth 100000
open Go.RowKit
/-- Ranges, as rows. -/
theorem RgIn.rows {w : World} {v : Value} {rs : List (Nat × Nat)} (h : RgIn w v rs) : RowsV 2 w v (rs.map fun r => [Value.int .u8 (r.1 : Int), Value.int .u8 (r.2 : Int)]) := by
  obtain ⟨A, c, rfl, hc, h⟩ := h
  refine ⟨A, c, by simp, by simpa using hc, ?_⟩
  rcases h with rfl | ⟨g, f, h1, h2, h3⟩
  · exact .inl rfl
  · refine .inr ⟨g, f, h1, h2, fun i hi => ?_⟩
    have hi' : i < rs.length := by simpa using hi
    obtain ⟨⟨q1, q2⟩, -, -⟩ := h3 i hi'
    refine ⟨by simp, fun j hj => ?_⟩
    match j, hj with
    | 0, _ => rw [Nat.add_zero, q1]; simp
    | 1, _ => rw [q2]; simp
theorem holdk_any (a b : Nat) (c : Int) (bx : Nat) (w : World) (hb : w.cell? ⟨bx, 0, none⟩ = some (.int .u8 c)) :
    Calls Tryz.prog 206 #[.agg #[.int .u8 (a : Int), .int .u8 (b : Int)], .pointer (some ⟨bx, 0, none⟩)] w fun e w' => e = .returned (.bool (decide ((a : Int) ≤ c) && decide (c ≤ (b : Int)))) ∧ Below w.heap.size w w' := by
  have hbs : bx < w.heap.size := by
    by_cases h : bx < w.heap.size
    · exact h
    · simp [World.cell?, Array.getElem?_eq_none (Nat.le_of_not_lt h)] at hb
  have hne : bx ≠ w.heap.size := by omega
  have hB : Below w.heap.size w (w.alloc (.cells #[.int .u8 (a : Int), .int .u8 (b : Int)] 98)) := (Below.refl _ _).alloc (Nat.le_refl _) _
  have hb2 := (hB.cell (p := ⟨bx, 0, none⟩) hbs).trans hb
  have HB := Lib.hid hB
  clear hB
  go_enter Tryz.func206, Tryz.ntmps206
  by_cases h1 : (a : Int) ≤ c
  · have hd1 : decide ((a : Int) ≤ c) = true := decide_eq_true h1
    rw [hd1]
    clear h1
    go_wp2_with fail
    go_ret
    exact ⟨by rw [Bool.true_and]; rfl, HB.out⟩
  · have hd1 : decide ((a : Int) ≤ c) = false := decide_eq_false h1
    rw [hd1]
    clear h1
    go_wp2_with fail
    go_ret
    exact ⟨rfl, HB.out⟩
theorem callHold (args : Array Value) (w : World) : (callFunc 206 args).run Tryz.prog w = .ok (.enter 206 args) w := by rfl
theorem holds_any (v : Value) (rs : List (Nat × Nat)) (c : Nat) (w : World) (h : RgIn w v rs) : Calls Tryz.prog 174 #[v, .int .u8 (c : Int)] w fun e w' => e = .returned (.bool (inR rs c)) ∧ Below w.heap.size w w' := by
  have hB : Below w.heap.size w (w.alloc (.cells #[.int .u8 (c : Int)] 5)) := (Below.refl _ _).alloc (Nat.le_refl _) _
  have hx : (w.alloc (.cells #[.int .u8 (c : Int)] 5)).cell? ⟨w.heap.size, 0, none⟩ = some (.int .u8 (c : Int)) := by rw [cell_of_row _ _ _ _ _ _ (heap_alloc_new w _)]; rfl
  have hrows := (h.later hB).rows
  have hask : AskR 206 #[.pointer (some ⟨w.heap.size, 0, none⟩)] (rs.map fun r => [Value.int .u8 (r.1 : Int), Value.int .u8 (r.2 : Int)]) (rs.map fun r => decide (r.1 ≤ c) && decide (c ≤ r.2)) (w.alloc (.cells #[.int .u8 (c : Int)] 5)) := by
    refine ⟨callHold, by simp, fun i hi b hb w' hw' => ?_⟩
    have hi' : i < rs.length := by simpa using hi
    rw [List.getElem?_map, List.getElem?_eq_getElem hi'] at hb
    simp only [Option.map_some, Option.some.injEq] at hb
    have h1 := holdk_any rs[i].1 rs[i].2 (c : Int) w.heap.size w' ((hw'.cell (p := ⟨w.heap.size, 0, none⟩) (by simp)).trans hx)
    rw [show (decide ((rs[i].1 : Int) ≤ (c : Int)) && decide ((c : Int) ≤ (rs[i].2 : Int))) = b by rw [← hb]; congr 1 <;> simp] at h1
    simpa using h1
  have hany : anyP (rs.map fun r => decide (r.1 ≤ c) && decide (c ≤ r.2)) = inR rs c := anyP_map _ rs
  have HC := Lib.hid (containsR 206 #[.pointer (some ⟨w.heap.size, 0, none⟩)] _ _ v _ hrows hask)
  rw [hany] at HC
  have HB := Lib.hid hB
  obtain ⟨A, c', rfl, hc', -⟩ := h
  clear hask hrows hany hB
  go_enter Tryz.func174, Tryz.ntmps174
  go_wp2_with fail
  refine HC.out.mono ?_
  rintro e w1 ⟨rfl, hb⟩
  go_wp2_with fail
  go_ret
  exact ⟨rfl, HB.out.trans (hb.mono (by simp))⟩
end Go.Proofs.YtoaibhacognbjaaGreatDoor
