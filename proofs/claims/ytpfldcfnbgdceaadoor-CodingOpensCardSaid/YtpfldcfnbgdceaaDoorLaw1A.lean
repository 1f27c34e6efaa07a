/- The law CodingEncodes: the call returns true, for every tape, bytes and number. -/
import Derived.Test.YtpfldcfnbgdceaaDoorAwk1
import Derived.Test.YtpfldcfnbgdceaaDoorTapeArg
namespace Go.Proofs.YtpfldcfnbgdceaaDoor
set_option linter.unusedVariables false
set_option linter.unusedSimpArgs false
set_option maxRecDepth 100000
open Go.RowKit
theorem wf_u8 {n : Int} (h : (Lit.int .u8 n).wf = true) : 0 ≤ n ∧ n < 256 := by
  have h1 : IntKind.u8.min = 0 := by decide
  have h2 : IntKind.u8.max = 255 := by decide
  simp [Lit.wf] at h
  omega
theorem bytesArg_of {w : World} {a : Option Addr} {len cap : Nat} {zs : List Int}
    (h : (a = none ∧ len = 0 ∧ cap = 0 ∧ zs = []) ∨ ∃ x, a = some x ∧ len ≤ cap ∧ cap ≤ maxLen ∧ zs.length = cap ∧ (∀ i, i < zs.length → w.cell? (x.add i) = some (.int .u8 (zs.getD i 0))) ∧ ∀ n ∈ zs, (Lit.int .u8 n).wf = true) :
    ∃ l, BIn w.heap.size w (.slice a len cap) l ∧ len ≤ maxLen := by
  rcases h with ⟨rfl, rfl, rfl, rfl⟩ | ⟨x, rfl, hl, hm, hz, hc, hw⟩
  · exact ⟨[], ⟨_, _, _, rfl, rfl, Nat.le_refl _, .inl rfl⟩, Nat.zero_le _⟩
  · refine ⟨(zs.take len).map fun n => UInt8.ofNat n.toNat, ⟨_, _, _, rfl, by simp; omega, hl, ?_⟩, Nat.le_trans hl hm⟩
    by_cases h0 : len = 0
    · exact .inl h0
    · refine .inr ⟨x, rfl, ?_, fun j hj => ?_⟩
      · have := World.block_lt_of_cell? w _ (hc 0 (by omega))
        rwa [Reads_block] at this
      · have hj' : j < zs.length := by simp at hj; omega
        rw [hc j hj']
        obtain ⟨h1, h2⟩ := wf_u8 (hw (zs.getD j 0) (by rw [List.getD_eq_getElem?_getD, List.getElem?_eq_getElem hj']; exact List.getElem_mem _))
        rw [List.getElem_map, List.getElem_take, List.getD_eq_getElem?_getD, List.getElem?_eq_getElem hj'] at *
        simp only [Option.getD_some] at *
        congr 2
        rw [UInt8.toNat_ofNat']
        omega
theorem BIn.below {B : Nat} {w w1 : World} {v : Value} {l : List UInt8} (h : BIn B w v l) (hb : Below B w w1) : BIn w1.heap.size w1 v l ∨ B > w1.heap.size := by
  by_cases hz : B ≤ w1.heap.size
  · refine .inl ?_
    obtain ⟨A, n, c, h1, h2, h3, h4⟩ := h
    refine ⟨A, n, c, h1, h2, h3, h4.imp id ?_⟩
    rintro ⟨ad, h5, h6, h7⟩
    exact ⟨ad, h5, by omega, fun j hj => (World.cell?_of_block (by rw [Reads_block]; exact hb.block _ h6)).trans (h7 j hj)⟩
  · exact .inr (by omega)
theorem BIn.later {w w1 : World} {v : Value} {l : List UInt8} (h : BIn w.heap.size w v l) (hb : Below w.heap.size w w1) : BIn w1.heap.size w1 v l := by
  rcases h.below hb with h | h
  · exact h
  · have := hb.size; omega
theorem BIn.of_OB {B : Nat} {w : World} {v : Value} {l : List UInt8} (h : OB 5 B v l w) : BIn w.heap.size w v l := by
  rcases h.2 with ⟨h1, h2⟩ | ⟨g, cap, cur, h1, h2, h3, h4⟩
  · exact ⟨_, _, _, h1, h2.symm ▸ rfl, Nat.le_refl _, .inl rfl⟩
  · refine ⟨_, _, _, h1, rfl, h4.1, .inr ⟨_, rfl, (Array.getElem?_eq_some_iff.1 h3).1, fun j hj => ?_⟩⟩
    subst h1
    have := World.ownsRow.cellAt h j (by simpa using hj)
    rw [Addr.add_lit, Nat.zero_add, this]; simp [hj]
/-- A slice of bytes, whatever they are. -/
def BAny (w : World) (v : Value) : Prop := ∃ A n c l, v = .slice A n c ∧ BIn w.heap.size w v l ∧ n = l.length
theorem BIn.any {w : World} {v : Value} {l : List UInt8} (h : BIn w.heap.size w v l) : BAny w v := by
  obtain ⟨A, n, c, h1, h2, h3⟩ := h
  exact ⟨A, n, c, l, h1, ⟨A, n, c, h1, h2, h3⟩, h2⟩
theorem BAny.later {w w1 : World} {v : Value} (h : BAny w v) (hb : Below w.heap.size w w1) : BAny w1 v := by
  obtain ⟨A, n, c, l, h1, h2, h3⟩ := h
  exact ⟨A, n, c, l, h1, h2.later hb, h3⟩
theorem BAny.nil (w : World) : BAny w (.slice none 0 0) := ⟨none, 0, 0, [], rfl, ⟨_, _, _, rfl, rfl, Nat.le_refl _, .inl rfl⟩, rfl⟩
theorem encode_two (c : Int) (l : List UInt8) (hl : l.length ≤ 100000000) : ∃ (X : ByteArray) (E : Int),
    (∀ w v, BIn w.heap.size w v l → Calls Tryd.prog 10 #[.int .i64 c, v] w fun e w' => e = .returned (.tuple #[.string X, .int .i64 E]) ∧ Below w.heap.size w w') ∧
    (∀ w v, BIn w.heap.size w v l → Calls Tryd.prog 11 #[.int .i64 c, v] w fun e w' => e = .returned (.tuple #[.string X, .int .i64 E]) ∧ Below w.heap.size w w') :=
  ⟨_, _, fun w v hv => Encode_any c v l w hl hv, fun w v hv => Encode_ref c v l w hl hv⟩
theorem six_cells (w : World) (T : TypeId) (a b c d e f : Value) (P : Value → Prop) (h : P a ∧ P b ∧ P c ∧ P d ∧ P e ∧ P f) (k : Nat) (hk : k < 6) : ∃ x, P x ∧ (w.alloc (.cells #[a, b, c, d, e, f] T)).cell? ⟨w.heap.size, k, none⟩ = some x := by
  obtain ⟨h1, h2, h3, h4, h5, h6⟩ := h
  rcases (show k = 0 ∨ k = 1 ∨ k = 2 ∨ k = 3 ∨ k = 4 ∨ k = 5 by omega) with rfl | rfl | rfl | rfl | rfl | rfl <;> (rw [World.cell?_alloc_mark]; exact ⟨_, by assumption, rfl⟩)
theorem three_row (w : World) (T : TypeId) (a b c : Value) (P : Value → Prop) (h : P a ∧ P b ∧ P c) (k : Nat) (hk : k < 3) : ∃ x, P x ∧ (w.alloc (.cells #[a, b, c] T)).cell? ⟨w.heap.size, k, none⟩ = some x := by
  obtain ⟨h1, h2, h3⟩ := h
  rcases (show k = 0 ∨ k = 1 ∨ k = 2 by omega) with rfl | rfl | rfl <;> (rw [World.cell?_alloc_mark]; exact ⟨_, by assumption, rfl⟩)
set_option maxRecDepth 100000 in
set_option maxHeartbeats 4000000 in
theorem encodes_law (A : Option Addr) (n c : Nat) (A1 : Option Addr) (n1 c1 : Nat) (check : Int) (w : World) (ht : TapeArg A n w) (hv1 : ∃ l, BIn w.heap.size w (.slice A1 n1 c1) l ∧ n1 ≤ maxLen) :
    Calls Tryd.prog 3 #[.slice A n c, .slice A1 n1 c1, .int .i64 check] w fun e w' => e = .returned (.bool true) ∧ Below w.heap.size w w' := by
  obtain ⟨l1, hB1, hm1⟩ := hv1
  have h0 := tape_new (c := c) ht
  have hb0 := (Below.refl w.heap.size w).alloc (Nat.le_refl _) (.cells #[.slice A n c, .int .i64 0] 26)
  generalize hw0 : w.alloc (.cells #[.slice A n c, .int .i64 0] 26) = w0 at h0 hb0
  have HW0 := Lib.hid hw0
  obtain ⟨p, hp⟩ : ∃ p, bits .and .i64 check 3 = p := ⟨_, rfl⟩
  obtain ⟨hp0, hp1⟩ := mask_bd check 3 (by decide) (by decide)
  rw [hp] at hp0 hp1
  go_enter Tryd.func3, Tryd.ntmps3
  go_wp2_with fail
  clear hw0
  refine (next_any w.heap.size _ _ (by omega) (by omega) h0).mono ?_
  rintro e w1 ⟨r, rfl, hr0, hr1, ht1, hf1⟩
  obtain ⟨r, rfl⟩ := Int.eq_ofNat_of_zero_le hr0
  go_wp2_with fail
  refine (bytes_any w.heap.size r _ (by omega) ht1).mono ?_
  rintro e w2 ⟨v, l2, rfl, hl2, hown, ht2, hf2⟩
  obtain ⟨Av, nv, cv, rfl⟩ := hown.form_
  have hF : Below w.heap.size w w2 := hb0.trans ((hf1.trans hf2).below (Nat.le_refl _) hb0.size)
  have hA1 : BAny w2 (.slice A1 n1 c1) := (hB1.later hF).any
  have hA2 : BAny w2 (.slice Av nv cv) := (BIn.of_OB hown).any
  have hA3 : BAny w2 (.slice none 0 0) := BAny.nil w2
  clear hr0 hr1 ht1 ht2 hf1 hf2 hown h0 hb0 HW0 hB1 hl2 hm1
  have hb2 := (Below.refl w2.heap.size w2).alloc (Nat.le_refl _) (.cells #[.slice A1 n1 c1, .slice Av nv cv, .slice none 0 0] 23)
  have hS := three_row w2 23 (.slice A1 n1 c1) (.slice Av nv cv) (.slice none 0 0) (BAny w2) ⟨hA1, hA2, hA3⟩
  have hb3 := hb2.alloc (by simp) (.cells #[.int .i64 check, .int .i64 (1 + p), .int .i64 1, .int .i64 2, .int .i64 3, .int .i64 4] 3)
  have hI := six_cells (w2.alloc (.cells #[.slice A1 n1 c1, .slice Av nv cv, .slice none 0 0] 23)) 3 (.int .i64 check) (.int .i64 (1 + p)) (.int .i64 1) (.int .i64 2) (.int .i64 3) (.int .i64 4) (fun v => ∃ x, v = .int .i64 x) ⟨⟨_, rfl⟩, ⟨_, rfl⟩, ⟨_, rfl⟩, ⟨_, rfl⟩, ⟨_, rfl⟩, ⟨_, rfl⟩⟩
  have hsz : ((w2.alloc (.cells #[.slice A1 n1 c1, .slice Av nv cv, .slice none 0 0] 23)).alloc (.cells #[.int .i64 check, .int .i64 (1 + p), .int .i64 1, .int .i64 2, .int .i64 3, .int .i64 4] 3)).heap.size = w2.heap.size + 2 := by simp
  have hs1 : (w2.alloc (.cells #[.slice A1 n1 c1, .slice Av nv cv, .slice none 0 0] 23)).heap.size = w2.heap.size + 1 := by simp
  rw [hs1] at hI
  have hS' : ∀ k, k < 3 → ∃ x, BAny ((w2.alloc (.cells #[.slice A1 n1 c1, .slice Av nv cv, .slice none 0 0] 23)).alloc (.cells #[.int .i64 check, .int .i64 (1 + p), .int .i64 1, .int .i64 2, .int .i64 3, .int .i64 4] 3)) x ∧ ((w2.alloc (.cells #[.slice A1 n1 c1, .slice Av nv cv, .slice none 0 0] 23)).alloc (.cells #[.int .i64 check, .int .i64 (1 + p), .int .i64 1, .int .i64 2, .int .i64 3, .int .i64 4] 3)).cell? ⟨w2.heap.size, k, none⟩ = some x := fun k hk => by
    obtain ⟨x, h1, h2⟩ := hS k hk
    exact ⟨x, h1.later hb3, (World.cell?_alloc_lt _ _ _ (by simp)).trans h2⟩
  clear hS hA1 hA2 hA3 hb2 hs1
  have HS := Lib.hid hS'; have HI := Lib.hid hI; have HSZ := Lib.hid hsz
  clear hS' hI hsz
  go_wp2_with fail
  generalize ((w2.alloc (.cells #[.slice A1 n1 c1, .slice Av nv cv, .slice none 0 0] 23)).alloc (.cells #[.int .i64 check, .int .i64 (1 + p), .int .i64 1, .int .i64 2, .int .i64 3, .int .i64 4] 3)) = W at *
  have hlo := hF.size
  have hFW := hF.trans (hb3.mono hlo)
  generalize w2.heap.size = g at *
  have hgW : g + 2 ≤ W.heap.size := by have := HSZ.out; omega
  go_loopw [10] (fun i wr => ∃ k : Nat, k ≤ 3 ∧ i = .int .i64 (k : Int) ∧ Below W.heap.size W wr) (fun i _ => 3 - (intOf i).toNat)
  case atStart => exact ⟨0, by omega, rfl, Below.refl _ _⟩
  case round =>
    obtain ⟨k, hk, rfl, hbr⟩ := hrel
    by_cases hlt : k < 3
    · obtain ⟨x, hx, hcx⟩ := HS.out k hlt
      obtain ⟨Ax, nx, cx, l, rfl, hBx, hnl⟩ := hx
      have hcd : ∀ d : BelT W.heap.size W, d.val.cell? ⟨g, k, none⟩ = some (.slice Ax nx cx) := fun d => (d.property.cell (p := ⟨g, k, none⟩) (by show g < _; omega)).trans hcx
      have hBd : ∀ d : BelT W.heap.size W, BIn d.val.heap.size d.val (.slice Ax nx cx) l := fun d => hBx.later d.property
      have h1 := hcd ⟨_, hbr⟩
      have HCD := Lib.hid hcd; have HBD := Lib.hid hBd
      clear hcd hBd hcx hBx
      have hd2 : decide ((k : Int) < 3) = true := decide_eq_true (by omega)
      by_cases hbig : 3000 < nx
      · go_wp2
        go_roundw
        case rel => exact ⟨k + 1, by omega, by go_num, hbr⟩
        case measure => simp [intOf]; omega
      · have hd : decide ((3000 : Int) < (nx : Int)) = false := decide_eq_false (by omega)
        have hll : l.length ≤ 3000 := by omega
        have HLL := Lib.hid hll; have HNL := Lib.hid hnl
        clear hll hnl
        go_wp2_with fail
        go_loopw [11] (fun i wi => ∃ j : Nat, j ≤ 6 ∧ i = .int .i64 (j : Int) ∧ Below W.heap.size W wi) (fun i _ => (6 - intOf i).toNat)
        case atStart => exact ⟨0, by omega, rfl, hbr⟩
        case round =>
          obtain ⟨j, hj, rfl, hbi⟩ := hrel
          clear h1
          by_cases hlj : j < 6
          · obtain ⟨x, ⟨ch, rfl⟩, hcx⟩ := HI.out j hlj
            have hid' : ∀ d : BelT W.heap.size W, d.val.cell? ⟨g + 1, j, none⟩ = some (.int .i64 ch) := fun d => (d.property.cell (p := ⟨g + 1, j, none⟩) (by show g + 1 < _; omega)).trans hcx
            have hcd := HCD.out
            obtain ⟨X, E, hP, hQ⟩ := encode_two ch l (by have := HLL.out; omega)
            have HP := Lib.hid (fun d : BelT W.heap.size W => hP d.val _ (HBD.out d))
            have HQ := Lib.hid (fun d : BelT W.heap.size W => hQ d.val _ (HBD.out d))
            clear hP hQ hcx
            have hk0 : (0 : Int) ≤ (k : Int) := by omega
            have hki : (k : Int) < 3 := by omega
            have hj0 : (0 : Int) ≤ (j : Int) := by omega
            have hji : (j : Int) < 6 := by omega
            have hd3 : decide ((j : Int) < 6) = true := decide_eq_true (by omega)
            go_wp2_with fail
            refine wp_region_below hbi (by kernel_rfl) (by kernel_rfl) ?_
            repeat (go_big_quiet_step (first
              | (go_at_call 10; exact Calls.below_of (Nat.le_refl _) (HP.out _)) | (go_at_call 11; exact Calls.below_of (Nat.le_refl _) (HQ.out _))))
            refine wpQuiet_nil ?_
            intro _ hw'
            obtain ⟨⟨wa, hba⟩, rfl⟩ := hw'
            go_wp2_with fail
            refine wp_region_below hba (by kernel_rfl) (by kernel_rfl) ?_
            repeat (go_big_quiet_step (first
              | (go_at_call 10; exact Calls.below_of (Nat.le_refl _) (HP.out _)) | (go_at_call 11; exact Calls.below_of (Nat.le_refl _) (HQ.out _))))
            refine wpQuiet_nil ?_
            intro _ hw'
            obtain ⟨⟨wb, hbb⟩, rfl⟩ := hw'
            go_wp2_with fail
            refine wp_region_below hbb (by kernel_rfl) (by kernel_rfl) ?_
            repeat (go_big_quiet_step (first
              | (go_at_call 12; exact Calls.below_same (cvalid_any _ _)) | (go_at_call 13; exact Calls.below_same (cvalid_ref _ _))))
            refine wpQuiet_nil ?_
            intro _ hw'
            obtain ⟨⟨wc, hbc⟩, rfl⟩ := hw'
            clear hcd hid'
            go_wp2
            go_roundw
            case rel => exact ⟨j + 1, by omega, by go_num, hbc⟩
            case measure => simp [intOf]; omega
          · obtain rfl : j = 6 := by omega
            go_wp2
            go_roundw
            case rel => first | exact ⟨k + 1, by omega, by go_num, hbi⟩ | ((repeat apply Exists.intro); exact ⟨⟨k + 1, by omega, by go_num, hbi⟩, rfl⟩)
            case measure => simp [intOf]; omega
    · obtain rfl : k = 3 := by omega
      go_wp2_with (go_at_call 14; refine (awake1_any _).mono ?_; rintro e w' ⟨rfl, hb⟩)
      go_ret
      exact ⟨rfl, (hFW.trans (hbr.mono (by have := hFW.size; omega))).trans (hb.mono (Nat.le_trans hFW.size hbr.size))⟩
end Go.Proofs.YtpfldcfnbgdceaaDoor
