/- The law SourceDeleted: the call returns true, for every tape and text. -/
import Derived.Test.YthmpcdjhighhgaaGreatDoorAwk18Z
import Derived.Test.YthmpcdjhighhgaaGreatDoorY28
import Derived.Test.YthmpcdjhighhgaaGreatDoorY21
import Derived.Test.YthmpcdjhighhgaaGreatDoorY24
namespace Go.Proofs.YthmpcdjhighhgaaGreatDoor
set_option linter.unusedVariables false
set_option linter.unusedSimpArgs false
set_option maxRecDepth 100000
open Go.RowKit
/-- The three messages. -/
def del18 (n : Int) (t : List UInt8) : List Ms := [⟨1, 3, [97, 110, 110], n, t⟩, ⟨2, 3, [98, 111, 98], n + 1, [99, 104, 97, 110, 103, 101, 100]⟩, ⟨3, 3, [97, 110, 110], n + 2, []⟩]
theorem del18_ok (n : Int) (t : List UInt8) (h0 : 0 ≤ n) (h1 : n < 9) (ht : t.length ≤ 500) : errM (del18 n t) = 0 := by
  refine errM_ok.2 ⟨by simp [del18], by simp [del18, sizeF]; omega, ?_, ?_, ?_, ?_⟩
  · intro m hm
    simp only [del18, List.mem_cons, List.not_mem_nil, or_false] at hm
    rcases hm with rfl | rfl | rfl
    · unfold wrongM; simp; decide
    · unfold wrongM; simp; decide
    · unfold wrongM; simp; decide
  · intro m hm
    simp only [del18, List.mem_cons, List.not_mem_nil, or_false] at hm
    rcases hm with rfl | rfl | rfl <;> (unfold lateM; simp; omega)
  · simp [del18]; omega
  · simp [del18, folF, upd]
theorem line18_len (m : Ms) (hw : wrongM m = false) (hl : lateM m = false) (ht : m.text.length ≤ 1000) : (lineM m).length + 1 ≤ 5000 := by
  obtain ⟨k1, k3, i1, i2, -, -, hwl, -⟩ := wrongM_no hw
  obtain ⟨t1, t2⟩ := lateM_no hl
  have e1 := wordM_len m.kind
  have e2 := dec_len m.id.toNat 10 (by omega)
  have e3 := dec_len m.time.toNat 13 (by omega)
  have e4 := encEsc_len m.text
  unfold lineM tailM numL
  split <;> (simp; omega)
theorem fmt18_len : ∀ {l : List Ms}, (∀ m ∈ l, wrongM m = false ∧ lateM m = false ∧ m.text.length ≤ 1000) → (fmtM l).length ≤ 5000 * l.length
  | [], _ => by simp [fmtM]
  | m :: r, h => by
    have h1 := fmt18_len (l := r) fun x hx => h x (List.mem_cons_of_mem _ hx)
    obtain ⟨hw, hl, ht⟩ := h m (by simp)
    have h2 := line18_len m hw hl (by omega)
    rw [fmtM, List.length_append, List.length_cons, List.length_cons]
    omega
theorem small18 {l : List Ms} (h0 : errM l = 0) (hn : l.length ≤ 6) (ht : ∀ m ∈ l, m.text.length ≤ 500) : Small l ∧ parseE (fmtM l) = 0 ∧ parseO (fmtM l) = l ∧ (fmtM l).length ≤ 1000000000 ∧ fmtO l = fmtM l := by
  obtain ⟨p1, p2, p3, p4, -, -⟩ := errM_ok.1 h0
  have hlen := fmt18_len (l := l) fun m hm => ⟨p3 m hm, p4 m hm, by have := ht m hm; omega⟩
  have hp := parseM_fmt h0
  refine ⟨⟨by omega, fun m hm => ⟨?_, by have := ht m hm; omega⟩⟩, ?_, ?_, by omega, ?_⟩
  · obtain ⟨-, -, -, -, -, -, hw, -⟩ := wrongM_no (p3 m hm)
    omega
  · unfold parseE; rw [if_neg (by omega), hp]
  · unfold parseO; rw [if_neg (by omega), hp]; rfl
  · unfold fmtO; rw [if_pos h0]
theorem text18 (s : ByteArray) : bs (bl s) = s := by
  show (⟨s.data.toList.toArray⟩ : ByteArray) = s
  rw [Array.toArray_toList]
set_option maxHeartbeats 4000000 in
theorem deleted_short (A : Option Addr) (n c : Nat) (s : ByteArray) (w : World) (ht : TapeArg A n w) (hs : s.size ≤ 500) (hv : VrOK w) :
    Calls Tryz.prog 3 #[.slice A n c, .string s] w fun e w' => e = .returned (.bool true) ∧ Below w.heap.size w w' := by
  have h0 := tape_new (c := c) ht
  have hb0 := (Below.refl w.heap.size w).alloc (Nat.le_refl _) (.cells #[.slice A n c, .int .i64 0] 25)
  generalize hw0 : w.alloc (.cells #[.slice A n c, .int .i64 0] 25) = w0 at h0 hb0
  have HW0 := Lib.hid hw0
  have HV := Lib.hid hv
  have d1 : decide (500 < (s.size : Int)) = false := decide_eq_false (by omega)
  have d1n : decide (500 < s.size) = false := decide_eq_false (by omega)
  go_enter Tryz.func3, Tryz.ntmps3
  go_wp2_with fail
  refine (next_any w.heap.size _ _ (by omega) (by omega) h0).mono ?_
  rintro e w1 ⟨q, rfl, hq0, hq1, ht1, hf1⟩
  have hF1 : Below w.heap.size w w1 := hb0.trans (hf1.below (Nat.le_refl _) hb0.size)
  have hw1 : IntKind.i64.wrap (q + 1) = q + 1 := IntWalk.i64_in _ (by omega)
  have hw2 : IntKind.i64.wrap (q + 2) = q + 2 := IntWalk.i64_in _ (by omega)
  have HF1 := Lib.hid hF1
  clear hF1 hf1 ht1 h0 hb0 hw0 HW0
  go_wp2_with fail
  have hbA := (Below.refl w1.heap.size w1).alloc (Nat.le_refl _) (.cells #[.int .i64 1, .int .i64 3, .string ⟨#[97, 110, 110]⟩, .int .i64 q, .string s, .int .i64 2, .int .i64 3, .string ⟨#[98, 111, 98]⟩, .int .i64 (q + 1), .string ⟨#[99, 104, 97, 110, 103, 101, 100]⟩, .int .i64 3, .int .i64 3, .string ⟨#[97, 110, 110]⟩, .int .i64 (q + 2), .string ⟨#[]⟩] 28)
  have rA := heap_alloc_new w1 (.cells #[.int .i64 1, .int .i64 3, .string ⟨#[97, 110, 110]⟩, .int .i64 q, .string s, .int .i64 2, .int .i64 3, .string ⟨#[98, 111, 98]⟩, .int .i64 (q + 1), .string ⟨#[99, 104, 97, 110, 103, 101, 100]⟩, .int .i64 3, .int .i64 3, .string ⟨#[97, 110, 110]⟩, .int .i64 (q + 2), .string ⟨#[]⟩] 28)
  generalize (w1.alloc (.cells #[.int .i64 1, .int .i64 3, .string ⟨#[97, 110, 110]⟩, .int .i64 q, .string s, .int .i64 2, .int .i64 3, .string ⟨#[98, 111, 98]⟩, .int .i64 (q + 1), .string ⟨#[99, 104, 97, 110, 103, 101, 100]⟩, .int .i64 3, .int .i64 3, .string ⟨#[97, 110, 110]⟩, .int .i64 (q + 2), .string ⟨#[]⟩] 28)) = W2 at *
  have hF2 : Below w.heap.size w W2 := HF1.out.trans (hbA.mono HF1.out.size)
  have hMC : MC (.slice (some ⟨w1.heap.size, 0, none⟩) 3 3) (del18 q (bl s)) W2 := by
    refine ⟨_, 3, rfl, Nat.le_refl _, .inr ⟨w1.heap.size, 0, rfl, (Array.getElem?_eq_some_iff.1 rA).1, fun i hi => ?_⟩⟩
    have hi3 : i < 3 := hi
    rcases (show i = 0 ∨ i = 1 ∨ i = 2 by omega) with rfl | rfl | rfl
    · refine ⟨?_, ?_, ?_, ?_, ?_⟩ <;> (rw [cell_of_row _ _ _ _ _ _ rA]; first | rfl | (show some (Value.string s) = some (Value.string (bs (bl s))); rw [text18]))
    · refine ⟨?_, ?_, ?_, ?_, ?_⟩ <;> (rw [cell_of_row _ _ _ _ _ _ rA]; rfl)
    · refine ⟨?_, ?_, ?_, ?_, ?_⟩ <;> (rw [cell_of_row _ _ _ _ _ _ rA]; rfl)
  have hok := del18_ok q (bl s) hq0 hq1 (by rw [size_list]; exact hs)
  obtain ⟨hsm, q1, q2, q3, q4⟩ := small18 hok (by simp [del18]) (fun m hm => by
    simp only [del18, List.mem_cons, List.not_mem_nil, or_false] at hm
    rcases hm with rfl | rfl | rfl
    · show (bl s).length ≤ 500; rw [size_list]; exact hs
    · simp
    · simp)
  have HFM := Lib.hid (format_ref _ _ W2 hMC hsm)
  have HQ := Lib.hid (And.intro hok (And.intro hsm (And.intro q1 (And.intro q2 (And.intro q3 q4)))))
  have HF2 := Lib.hid hF2
  clear hbA rA hF2 hMC hok hsm q1 q2 q3 q4 HF1
  go_wp2_with fail
  refine HFM.out.mono ?_
  rintro e w3 ⟨u, rfl, hu, hb3⟩
  rw [HQ.out.1]
  rw [HQ.out.2.2.2.2.2] at hu
  have hF3 := HF2.out.trans (hb3.mono HF2.out.size)
  have hbin : BIn w3.heap.size w3 u (fmtM (del18 q (bl s))) := BIn.of_OB hu
  obtain ⟨Au, nu, cu, rfl⟩ := hu.form_
  have CC := Contents_any ⟨#[99, 104, 97, 116]⟩ 3 Au nu cu 0 (by decide) (by decide) ((keepM (parseO (fmtM (del18 q (bl s))))).map ctM) w3
    (by rw [HQ.out.2.2.2.1]; simp [keepM, del18])
    (fun w' h => by
      have V := srcValid3_any ⟨#[99, 104, 97, 116]⟩ Au nu cu (fmtM (del18 q (bl s))) w' (by decide) (by decide) (hbin.later h) HQ.out.2.2.2.2.1 (HV.out.later (hF3.trans (h.mono hF3.size)))
      rw [HQ.out.2.2.1] at V
      exact V)
    (fun w' h => contents3_any ⟨#[99, 104, 97, 116]⟩ Au nu cu (fmtM (del18 q (bl s))) w' (hbin.later h) HQ.out.2.2.2.2.1 HQ.out.2.2.1 (HV.out.later (hF3.trans (h.mono hF3.size))) (by rw [HQ.out.2.2.2.1]; exact HQ.out.2.1) (by rw [HQ.out.2.2.2.1]; exact HQ.out.1))
  rw [HQ.out.2.2.2.1] at CC
  have HC := Lib.hid CC
  have HF3 := Lib.hid hF3
  clear CC hF3 hbin hu hb3 HFM HF2
  go_wp2_with fail
  refine HC.out.mono ?_
  rintro e w4 ⟨v, o, rfl, hown, hol, hpw, hcs, hb4⟩
  have hds : (((keepM (del18 q (bl s))).map ctM).map fun d => d.num 0) = [⟨bl s, 0, ⟨#[51]⟩, q⟩, ⟨[99, 104, 97, 110, 103, 101, 100], 0, ⟨#[51]⟩, q + 1⟩] := by
    have h3 : bs (Lib.decDigits 3) = ⟨#[51]⟩ := by unfold Lib.decDigits; rfl
    simp [keepM, del18, ctM, Ct.num, h3]
  rw [hds] at hol hcs
  obtain ⟨x1, x2, rfl⟩ : ∃ x1 x2, o = [x1, x2] := by
    match o, hol with
    | [a, b], _ => exact ⟨a, b, rfl⟩
  obtain ⟨hd1, -, hp1⟩ := hcs 0 (by simp) (by simp)
  obtain ⟨-, -, hp2⟩ := hcs 1 (by simp) (by simp)
  obtain ⟨A2, c2, rfl, hc2, hcell⟩ := OR.cells encCt_E hown
  obtain ⟨g, hA, hBg, hg, hm⟩ := hcell.resolve_left (by simp)
  subst hA
  have m0 : w4.cell? ⟨g, 0, none⟩ = some (.slice x1.A x1.n x1.c) := (hm 0 (by simp) 0 (by decide)).1
  have m1 : w4.cell? ⟨g, 1, none⟩ = some (.slice (some ⟨x1.g, 0, none⟩) 1 1) := (hm 0 (by simp) 1 (by decide)).1
  have m3 : w4.cell? ⟨g, 3, none⟩ = some (.slice (some ⟨x2.g, 0, none⟩) 1 1) := (hm 1 (by simp) 1 (by decide)).1
  obtain ⟨⟨p0, p1, p2⟩, -⟩ := (show PlIn w4 x1.g 0 ⟨#[51]⟩ q from hp1).cells
  obtain ⟨⟨r0, r1, r2⟩, -⟩ := (show PlIn w4 x2.g 0 ⟨#[51]⟩ (q + 1) from hp2).cells
  have hcv : (convert 30 9 (.slice x1.A x1.n x1.c)).run Tryz.prog w4 = .ok (.string s) w4 := by
    have := OB.conv (P := Tryz.prog) (T := 30) (d := 9) (show OB 5 w3.heap.size (.slice x1.A x1.n x1.c) (bl s) w4 from hd1) Tryz.underlying30 Tryz.underlying5 Tryz.underlying9
    have e : (⟨(bl s).toArray⟩ : ByteArray) = s := text18 s
    first | (rw [text18] at this; exact this) | (rw [e] at this; exact this) | exact this
  have HE := Lib.hid (HF3.out.trans (hb4.mono HF3.out.size))
  clear hm hcell hown hpw hcs hp1 hp2 hb4 hd1 hds hol HC HQ
  go_wp2_with fail
  refine (awake18_any w4).mono ?_
  rintro e w5 ⟨rfl, hb5⟩
  have HE5 := Lib.hid (HE.out.trans (hb5.mono HE.out.size))
  clear hb5 m0 m1 m3 p0 p1 p2 r0 r1 r2 hcv HE
  go_wp2_with fail
  go_ret
  exact ⟨rfl, HE5.out⟩
set_option maxHeartbeats 4000000 in
theorem deleted_long (A : Option Addr) (n c : Nat) (s0 : ByteArray) (w : World) (ht : TapeArg A n w) (hs0 : 500 < s0.size) (hv : VrOK w) :
    Calls Tryz.prog 3 #[.slice A n c, .string s0] w fun e w' => e = .returned (.bool true) ∧ Below w.heap.size w w' := by
  have h0 := tape_new (c := c) ht
  have hb0 := (Below.refl w.heap.size w).alloc (Nat.le_refl _) (.cells #[.slice A n c, .int .i64 0] 25)
  generalize hw0 : w.alloc (.cells #[.slice A n c, .int .i64 0] 25) = w0 at h0 hb0
  have HW0 := Lib.hid hw0
  have HV := Lib.hid hv
  have d1 : decide (500 < (s0.size : Int)) = true := decide_eq_true (by omega)
  have d1n : decide (500 < s0.size) = true := decide_eq_true hs0
  have hs : (⟨#[120]⟩ : ByteArray).size ≤ 500 := by decide
  go_enter Tryz.func3, Tryz.ntmps3
  go_wp2_with fail
  refine (next_any w.heap.size _ _ (by omega) (by omega) h0).mono ?_
  rintro e w1 ⟨q, rfl, hq0, hq1, ht1, hf1⟩
  have hF1 : Below w.heap.size w w1 := hb0.trans (hf1.below (Nat.le_refl _) hb0.size)
  have hw1 : IntKind.i64.wrap (q + 1) = q + 1 := IntWalk.i64_in _ (by omega)
  have hw2 : IntKind.i64.wrap (q + 2) = q + 2 := IntWalk.i64_in _ (by omega)
  have HF1 := Lib.hid hF1
  clear hF1 hf1 ht1 h0 hb0 hw0 HW0
  go_wp2_with fail
  have hbA := (Below.refl w1.heap.size w1).alloc (Nat.le_refl _) (.cells #[.int .i64 1, .int .i64 3, .string ⟨#[97, 110, 110]⟩, .int .i64 q, .string ⟨#[120]⟩, .int .i64 2, .int .i64 3, .string ⟨#[98, 111, 98]⟩, .int .i64 (q + 1), .string ⟨#[99, 104, 97, 110, 103, 101, 100]⟩, .int .i64 3, .int .i64 3, .string ⟨#[97, 110, 110]⟩, .int .i64 (q + 2), .string ⟨#[]⟩] 28)
  have rA := heap_alloc_new w1 (.cells #[.int .i64 1, .int .i64 3, .string ⟨#[97, 110, 110]⟩, .int .i64 q, .string ⟨#[120]⟩, .int .i64 2, .int .i64 3, .string ⟨#[98, 111, 98]⟩, .int .i64 (q + 1), .string ⟨#[99, 104, 97, 110, 103, 101, 100]⟩, .int .i64 3, .int .i64 3, .string ⟨#[97, 110, 110]⟩, .int .i64 (q + 2), .string ⟨#[]⟩] 28)
  generalize (w1.alloc (.cells #[.int .i64 1, .int .i64 3, .string ⟨#[97, 110, 110]⟩, .int .i64 q, .string ⟨#[120]⟩, .int .i64 2, .int .i64 3, .string ⟨#[98, 111, 98]⟩, .int .i64 (q + 1), .string ⟨#[99, 104, 97, 110, 103, 101, 100]⟩, .int .i64 3, .int .i64 3, .string ⟨#[97, 110, 110]⟩, .int .i64 (q + 2), .string ⟨#[]⟩] 28)) = W2 at *
  have hF2 : Below w.heap.size w W2 := HF1.out.trans (hbA.mono HF1.out.size)
  have hMC : MC (.slice (some ⟨w1.heap.size, 0, none⟩) 3 3) (del18 q (bl (⟨#[120]⟩ : ByteArray))) W2 := by
    refine ⟨_, 3, rfl, Nat.le_refl _, .inr ⟨w1.heap.size, 0, rfl, (Array.getElem?_eq_some_iff.1 rA).1, fun i hi => ?_⟩⟩
    have hi3 : i < 3 := hi
    rcases (show i = 0 ∨ i = 1 ∨ i = 2 by omega) with rfl | rfl | rfl
    · refine ⟨?_, ?_, ?_, ?_, ?_⟩ <;> (rw [cell_of_row _ _ _ _ _ _ rA]; first | rfl | (show some (Value.string (⟨#[120]⟩ : ByteArray)) = some (Value.string (bs (bl (⟨#[120]⟩ : ByteArray)))); rw [text18]))
    · refine ⟨?_, ?_, ?_, ?_, ?_⟩ <;> (rw [cell_of_row _ _ _ _ _ _ rA]; rfl)
    · refine ⟨?_, ?_, ?_, ?_, ?_⟩ <;> (rw [cell_of_row _ _ _ _ _ _ rA]; rfl)
  have hok := del18_ok q (bl (⟨#[120]⟩ : ByteArray)) hq0 hq1 (by rw [size_list]; exact hs)
  obtain ⟨hsm, q1, q2, q3, q4⟩ := small18 hok (by simp [del18]) (fun m hm => by
    simp only [del18, List.mem_cons, List.not_mem_nil, or_false] at hm
    rcases hm with rfl | rfl | rfl
    · show (bl (⟨#[120]⟩ : ByteArray)).length ≤ 500; rw [size_list]; exact hs
    · simp
    · simp)
  have HFM := Lib.hid (format_ref _ _ W2 hMC hsm)
  have HQ := Lib.hid (And.intro hok (And.intro hsm (And.intro q1 (And.intro q2 (And.intro q3 q4)))))
  have HF2 := Lib.hid hF2
  clear hbA rA hF2 hMC hok hsm q1 q2 q3 q4 HF1
  go_wp2_with fail
  refine HFM.out.mono ?_
  rintro e w3 ⟨u, rfl, hu, hb3⟩
  rw [HQ.out.1]
  rw [HQ.out.2.2.2.2.2] at hu
  have hF3 := HF2.out.trans (hb3.mono HF2.out.size)
  have hbin : BIn w3.heap.size w3 u (fmtM (del18 q (bl (⟨#[120]⟩ : ByteArray)))) := BIn.of_OB hu
  obtain ⟨Au, nu, cu, rfl⟩ := hu.form_
  have CC := Contents_any ⟨#[99, 104, 97, 116]⟩ 3 Au nu cu 0 (by decide) (by decide) ((keepM (parseO (fmtM (del18 q (bl (⟨#[120]⟩ : ByteArray)))))).map ctM) w3
    (by rw [HQ.out.2.2.2.1]; simp [keepM, del18])
    (fun w' h => by
      have V := srcValid3_any ⟨#[99, 104, 97, 116]⟩ Au nu cu (fmtM (del18 q (bl (⟨#[120]⟩ : ByteArray)))) w' (by decide) (by decide) (hbin.later h) HQ.out.2.2.2.2.1 (HV.out.later (hF3.trans (h.mono hF3.size)))
      rw [HQ.out.2.2.1] at V
      exact V)
    (fun w' h => contents3_any ⟨#[99, 104, 97, 116]⟩ Au nu cu (fmtM (del18 q (bl (⟨#[120]⟩ : ByteArray)))) w' (hbin.later h) HQ.out.2.2.2.2.1 HQ.out.2.2.1 (HV.out.later (hF3.trans (h.mono hF3.size))) (by rw [HQ.out.2.2.2.1]; exact HQ.out.2.1) (by rw [HQ.out.2.2.2.1]; exact HQ.out.1))
  rw [HQ.out.2.2.2.1] at CC
  have HC := Lib.hid CC
  have HF3 := Lib.hid hF3
  clear CC hF3 hbin hu hb3 HFM HF2
  go_wp2_with fail
  refine HC.out.mono ?_
  rintro e w4 ⟨v, o, rfl, hown, hol, hpw, hcs, hb4⟩
  have hds : (((keepM (del18 q (bl (⟨#[120]⟩ : ByteArray)))).map ctM).map fun d => d.num 0) = [⟨bl (⟨#[120]⟩ : ByteArray), 0, ⟨#[51]⟩, q⟩, ⟨[99, 104, 97, 110, 103, 101, 100], 0, ⟨#[51]⟩, q + 1⟩] := by
    have h3 : bs (Lib.decDigits 3) = ⟨#[51]⟩ := by unfold Lib.decDigits; rfl
    simp [keepM, del18, ctM, Ct.num, h3]
  rw [hds] at hol hcs
  obtain ⟨x1, x2, rfl⟩ : ∃ x1 x2, o = [x1, x2] := by
    match o, hol with
    | [a, b], _ => exact ⟨a, b, rfl⟩
  obtain ⟨hd1, -, hp1⟩ := hcs 0 (by simp) (by simp)
  obtain ⟨-, -, hp2⟩ := hcs 1 (by simp) (by simp)
  obtain ⟨A2, c2, rfl, hc2, hcell⟩ := OR.cells encCt_E hown
  obtain ⟨g, hA, hBg, hg, hm⟩ := hcell.resolve_left (by simp)
  subst hA
  have m0 : w4.cell? ⟨g, 0, none⟩ = some (.slice x1.A x1.n x1.c) := (hm 0 (by simp) 0 (by decide)).1
  have m1 : w4.cell? ⟨g, 1, none⟩ = some (.slice (some ⟨x1.g, 0, none⟩) 1 1) := (hm 0 (by simp) 1 (by decide)).1
  have m3 : w4.cell? ⟨g, 3, none⟩ = some (.slice (some ⟨x2.g, 0, none⟩) 1 1) := (hm 1 (by simp) 1 (by decide)).1
  obtain ⟨⟨p0, p1, p2⟩, -⟩ := (show PlIn w4 x1.g 0 ⟨#[51]⟩ q from hp1).cells
  obtain ⟨⟨r0, r1, r2⟩, -⟩ := (show PlIn w4 x2.g 0 ⟨#[51]⟩ (q + 1) from hp2).cells
  have hcv : (convert 30 9 (.slice x1.A x1.n x1.c)).run Tryz.prog w4 = .ok (.string ⟨#[120]⟩) w4 := by
    have := OB.conv (P := Tryz.prog) (T := 30) (d := 9) (show OB 5 w3.heap.size (.slice x1.A x1.n x1.c) (bl (⟨#[120]⟩ : ByteArray)) w4 from hd1) Tryz.underlying30 Tryz.underlying5 Tryz.underlying9
    have e : (⟨(bl (⟨#[120]⟩ : ByteArray)).toArray⟩ : ByteArray) = ⟨#[120]⟩ := text18 (⟨#[120]⟩ : ByteArray)
    first | (rw [text18] at this; exact this) | (rw [e] at this; exact this) | exact this
  have HE := Lib.hid (HF3.out.trans (hb4.mono HF3.out.size))
  clear hm hcell hown hpw hcs hp1 hp2 hb4 hd1 hds hol HC HQ
  go_wp2_with fail
  refine (awake18_any w4).mono ?_
  rintro e w5 ⟨rfl, hb5⟩
  have HE5 := Lib.hid (HE.out.trans (hb5.mono HE.out.size))
  clear hb5 m0 m1 m3 p0 p1 p2 r0 r1 r2 hcv HE
  go_wp2_with fail
  go_ret
  exact ⟨rfl, HE5.out⟩
theorem deleted_law (A : Option Addr) (n c : Nat) (s : ByteArray) (w : World) (ht : TapeArg A n w) (hv : VrOK w) :
    Calls Tryz.prog 3 #[.slice A n c, .string s] w fun e w' => e = .returned (.bool true) ∧ Below w.heap.size w w' := by
  by_cases h : s.size ≤ 500
  · exact deleted_short A n c s w ht h hv
  · exact deleted_long A n c s w ht (by omega) hv
end Go.Proofs.YthmpcdjhighhgaaGreatDoor
