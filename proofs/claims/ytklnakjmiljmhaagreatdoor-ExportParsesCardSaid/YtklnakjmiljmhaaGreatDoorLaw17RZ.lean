/- The law ExportParses: the call returns true, for every tape, bytes, place and byte. -/
import Derived.Test.YtklnakjmiljmhaaGreatDoorY40
import Derived.Test.YtklnakjmiljmhaaGreatDoorLaw17BZ
import Derived.Test.YtklnakjmiljmhaaGreatDoorY39
import Derived.Test.YtklnakjmiljmhaaGreatDoorY29
namespace Go.Proofs.YtklnakjmiljmhaaGreatDoor
set_option linter.unusedVariables false
set_option linter.unusedSimpArgs false
set_option maxRecDepth 100000
open Go.RowKit
theorem parseO_len (l : List UInt8) : (parseO l).length ≤ 1000000 := by
  unfold parseO
  split
  · simp
  · cases h : parseM l with
    | none => simp
    | some r =>
      have := (errM_ok.1 (parseM_some.1 h).1).1
      simp only [Option.getD_some]
      omega
/-- The texts that the law looks at. -/
def TxtIn (w : World) (v : Value) : Prop := ∃ l, BIn w.heap.size w v l
theorem TxtIn.later {w w1 : World} {v : Value} (h : TxtIn w v) (hb : Below w.heap.size w w1) : TxtIn w1 v := h.imp fun _ h => h.later hb
set_option maxRecDepth 100000 in
set_option maxHeartbeats 4000000 in
/-- The loop over the five texts, and the end. -/
theorem parses17_law (A : Option Addr) (n c : Nat) (A1 : Option Addr) (n1 c1 : Nat) (at_ by_ : Int) (w : World) (ht : TapeArg A n w) (hraw : ∃ l, BIn w.heap.size w (.slice A1 n1 c1) l ∧ n1 ≤ maxLen) (hy0 : 0 ≤ by_) (hy1 : by_ < 256) (hv : VrOK w) :
    Calls Tryz.prog 3 #[.slice A n c, .slice A1 n1 c1, .int .i64 at_, .int .u8 by_] w fun e w' => e = .returned (.bool true) ∧ Below w.heap.size w w' := by
  obtain ⟨i0, hi, hz0, hz1, hz2⟩ := info_parts info_u8
  obtain ⟨lr, hlr, hn1⟩ := hraw
  have h0 := tape_new (c := c) ht
  have hb0 := (Below.refl w.heap.size w).alloc (Nat.le_refl _) (.cells #[.slice A n c, .int .i64 0] 26)
  generalize hw0 : w.alloc (.cells #[.slice A n c, .int .i64 0] 26) = w0 at h0 hb0
  have HW0 := Lib.hid hw0
  have HV := Lib.hid hv
  have HRW := Lib.hid (show TxtIn w (.slice A1 n1 c1) from ⟨lr, hlr⟩)
  obtain ⟨p, hp⟩ : ∃ p, bits .and .i64 at_ 255 = p := ⟨_, rfl⟩
  obtain ⟨hp0, hp1⟩ := mask_bd at_ 255 (by decide) (by decide)
  rw [hp] at hp0 hp1
  obtain ⟨y, hy⟩ : ∃ y, bits .and .u8 by_ 7 = y := ⟨_, rfl⟩
  obtain ⟨hyb0, hyb1⟩ := and7_u8 by_ hy0 hy1
  rw [hy] at hyb0 hyb1
  clear hlr
  go_enter Tryz.func3, Tryz.ntmps3
  go_wp2_with fail
  clear hw0
  refine (kinds_any w.heap.size _ h0).mono ?_
  rintro e w1 ⟨vk, rfl, hk, ht1, hf1⟩
  go_wp2_with fail
  refine (messages_any w.heap.size vk _ hk ht1).mono ?_
  rintro e w2 ⟨v, l, B, rfl, hown, h00, hn, htx, ht2, hf2⟩
  have hF : Below w.heap.size w w2 := hb0.trans ((hf1.trans hf2).below (Nat.le_refl _) hb0.size)
  obtain ⟨hs, q1, q2, q3, q4⟩ := made_small h00 hn htx
  have HF := Lib.hid (format_ref v l w2 (MC.of_own hown) hs)
  have HA := Lib.hid (fun (w' : World) (hV : VrOK w') => awake_any w' hV)
  have Q := Lib.hid (And.intro h00 q4)
  have hlen : (fmtM l).length ≤ 30000 := by
    have := fmtM_len (l := l) fun m hm => ⟨(errM_ok.1 h00).2.2.1 m hm, (errM_ok.1 h00).2.2.2.1 m hm, by have := htx m hm; omega⟩
    omega
  clear hown h00 hn htx ht2 hf2 hs q1 q2 q3 q4 hk ht1 hf1 h0 hb0 HW0 hv
  go_wp2_with fail
  refine HF.out.mono ?_
  rintro e w3 ⟨u, rfl, hu, hb3⟩
  rw [Q.out.1]
  rw [Q.out.2] at hu
  have hF3 := hF.trans (hb3.mono hF.size)
  clear HF Q
  generalize fmtM l = le at *
  obtain ⟨A14, c14, rfl, -⟩ := hu.form2
  have hv14 := hu
  have hlt2 : ∀ i, (Value.slice A14 le.length c14).ownBlock = some i → i < w3.heap.size := fun i hi => (World.ownsRow.lt hv14 i hi).2
  clear hu
  go_upto_if 37 with (at_builtin; refine app_OB Tryz.underlying23 hi hz0 hz1 hz2 _ _ _ _ [] le w3.heap.size w2.heap.size rfl rfl rfl rfl (OB.empty 5 w3) (World.ownsRow.alloc hv14 _) (by simp; omega) (by simp) ?_; intro v15 w4 hv15 hb4'; rw [List.nil_append] at hv15; obtain ⟨A15, c15, rfl, hst⟩ := hv15.form2)
  have hb4 : Below w3.heap.size w3 w4 := ((Below.refl w3.heap.size w3).alloc (Nat.le_refl _) _).trans hb4'
  have hO14 : OB 5 w2.heap.size (.slice A14 le.length c14) le w4 := hv14.after hb4
  have hF4 := hF3.trans (hb4.mono hF3.size)
  have hsz4 := hb4.size
  clear hv14 hb4'
  go_cut [12] from 19 to 89 (fun v15 wx => ∃ (lo : List UInt8) (A15 : Option Addr) (c15 : Nat), v15 = .slice A15 lo.length c15 ∧ lo.length = le.length ∧ OB 5 w3.heap.size (.slice A15 lo.length c15) lo wx ∧ OB 5 w2.heap.size (.slice A14 le.length c14) le wx ∧ Below w.heap.size w wx)
  case first =>
    by_cases hpos : 0 < le.length
    · have hdp : decide ((0 : Int) < le.length) = true := decide_eq_true (by omega)
      have hdpn : decide (0 < le.length) = true := decide_eq_true hpos
      obtain ⟨g, rfl, hg1, hg2, hgc⟩ := hst hpos
      obtain ⟨kk, hkk⟩ : ∃ kk : Nat, p.tmod (le.length : Int) = (kk : Int) := by
        rw [Int.tmod_eq_emod_of_nonneg hp0]
        exact Int.eq_ofNat_of_zero_le (Int.emod_nonneg _ (by omega))
      have hkl : kk < le.length := by
        have h := Int.emod_lt_of_pos p (show (0 : Int) < le.length by omega)
        rw [Int.tmod_eq_emod_of_nonneg hp0] at hkk
        omega
      obtain ⟨hgk, hgf⟩ := hgc kk hkl
      obtain ⟨uu, cc, -, hcu, hcc0, hcc1, hix⟩ := idx_str Tryz.underlying9 ⟨#[10, 32, 48, 49, 112, 101, 92, 100]⟩ y.toNat (show y.toNat < 8 by omega) .u8 y (by omega)
      have hO15s := (show OB 5 w3.heap.size _ le w4.drew from hv15).set kk uu cc hcu.out
      have hOn : ∀ i, (Value.slice A14 le.length c14).ownBlock = some i → (w4.drew.setCell ⟨g, kk, none⟩ (.int .u8 cc)).heap[i]? = w4.heap[i]? := fun i hi => Below.heap_setCell _ _ _ _ (by show i ≠ g; have := hlt2 i hi; omega)
      have hO14s := hO14.keep hOn
      have hb5 : Below w3.heap.size w3 (w4.drew.setCell ⟨g, kk, none⟩ (.int .u8 cc)) := hb4.drew.setCell (p := ⟨g, kk, none⟩) hg1 _
      have hF5s := hF3.trans (hb5.mono hF3.size)
      have hne : (le.length : Int) ≠ 0 := by omega
      have hnl : ¬ le = [] := by rintro rfl; exact absurd hpos (by decide)
      have hk0' : (0 : Int) ≤ (kk : Int) := by omega
      have hki' : (kk : Int) < (le.length : Int) := by omega
      clear hst hgc hv15 hlt2 hOn hF3 hb4 hb5 hO14 hF4
      go_wp2_with fail
      go_still_tail 10, (by kernel_rfl)
      show wpList _ _ _ _ _ w4.drew
      go_wp2_with fail
      go_meet
      exact ⟨le.set kk uu, _, c15, by rw [List.length_set], by rw [List.length_set], by rw [List.length_set]; exact hO15s, hO14s, hF5s⟩
    · have hdp : decide ((0 : Int) < le.length) = false := decide_eq_false (by omega)
      have hdpn : decide (0 < le.length) = false := decide_eq_false hpos
      go_wp2_with fail
      go_meet
      exact ⟨le, A15, c15, rfl, rfl, hv15, hO14, hF4⟩
  case rest =>
    obtain ⟨lo, A15', c15', rfl, hlo, hO15, hO14', hF5⟩ := hcut
    clear hv15 hst hO14 hF4 hb4 hF3 hF hlt2 hsz4
    obtain ⟨W5, hW5⟩ : ∃ W5 : World, W5 = wc := ⟨_, rfl⟩
    rw [← hW5] at hO15 hO14' hF5 ⊢
    clear hW5
    have HLO := Lib.hid hlo
    clear hlo
    apply_assumption
    have tok1 : True := trivial
    go_wp2_with (first
      | (at_builtin; have _t := tok1; refine app_OB Tryz.underlying23 hi hz0 hz1 hz2 (.tmp 51) (.tmp 52) _ _ [] le W5.heap.size w2.heap.size rfl rfl rfl rfl (OB.empty 5 W5) (World.ownsRow.alloc hO14' _) (by simp; omega) (by simp) ?_; intro v53 w6 hv53 hb6'; rw [List.nil_append] at hv53; have hb6 : Below W5.heap.size W5 w6 := ((Below.refl W5.heap.size W5).alloc (Nat.le_refl _) _).trans hb6'; have hO14_6 := hO14'.after hb6; have hF6 := hF5.trans (hb6.mono hF5.size); have hz6 := hb6.size; have tok2 : True := trivial; clear tok1 _t hb6')
      | (at_builtin; have _t := tok2; refine app_OB Tryz.underlying23 hi hz0 hz1 hz2 (.tmp 53) (.tmp 54) _ _ le le W5.heap.size w2.heap.size rfl rfl rfl rfl hv53 hO14_6 (by omega) hz6 ?_; intro v55 w7 hv55 hb7'; have hb7 := hb6.trans hb7'; have hO14_7 := hO14'.after hb7; have hF7 := hF5.trans (hb7.mono hF5.size); have tok3 : True := trivial; clear tok2 _t hb7' hb6 hO14_6 hF6 hv53 hz6)
      | (at_builtin; have _t := tok3; refine app_OB Tryz.underlying23 hi hz0 hz1 hz2 (.tmp 56) (.tmp 57) _ _ [] le w7.heap.size w2.heap.size rfl rfl rfl rfl (OB.empty 5 w7) (World.ownsRow.alloc hO14_7 _) (by simp; omega) (by simp) ?_; intro v58 w8 hv58 hb8'; rw [List.nil_append] at hv58; have hb8 : Below w7.heap.size w7 w8 := ((Below.refl w7.heap.size w7).alloc (Nat.le_refl _) _).trans hb8'; have tok4 : True := trivial; clear tok3 _t hb8'; have hz8 := hb8.size)
      | (at_builtin; have _t := tok4; refine app_text Tryz.underlying23 Tryz.underlying9 hi hz0 hz1 hz2 (.tmp 58) _ _ le ⟨#[112, 111, 115, 116, 32, 55, 55, 32, 57, 57, 32, 122, 32, 10]⟩ w7.heap.size rfl rfl rfl rfl hv58 (by have : ByteArray.size ⟨#[112, 111, 115, 116, 32, 55, 55, 32, 57, 57, 32, 122, 32, 10]⟩ = 14 := rfl; omega) hz8 ?_; intro v59 w9 hv59 hb9'; have hb9 := hb8.trans hb9'; obtain ⟨A59, n59, c59, hv59e⟩ := hv59.form_; rw [hv59e] at hv59; rw [hv59e]; clear hv59e; have hv55_9 := hv55.after hb9; obtain ⟨A55, n55, c55, hv55e⟩ := hv55_9.form_; rw [hv55e] at hv55_9; rw [hv55e]; clear hv55e; have tok5 : True := trivial; clear tok4 _t))
    have hF9 := hF7.trans (hb9.mono hF7.size)
    have hI := five_cells w9 23 (.slice A1 n1 c1) (.slice A14 le.length c14) (.slice A15' lo.length c15') (.slice A55 n55 c55) (.slice A59 n59 c59) (TxtIn w9) ⟨HRW.out.later hF9, ⟨le, BIn.of_OB (hO14_7.after hb9)⟩, ⟨lo, BIn.of_OB (hO15.after (hb7.trans (hb9.mono hb7.size)))⟩, ⟨_, BIn.of_OB hv55_9⟩, ⟨_, BIn.of_OB hv59⟩⟩
    have hbI := (Below.refl w9.heap.size w9).alloc (Nat.le_refl _) (.cells #[.slice A1 n1 c1, .slice A14 le.length c14, .slice A15' lo.length c15', .slice A55 n55 c55, .slice A59 n59 c59] 23)
    have hzI : w9.heap.size < (w9.alloc (.cells #[.slice A1 n1 c1, .slice A14 le.length c14, .slice A15' lo.length c15', .slice A55 n55 c55, .slice A59 n59 c59] 23)).heap.size := by simp
    have hVI := HV.out.later hF9
    clear hv59 hv55_9 hO14_7 hO15 hb9 hb8 hb9' hz8 hb7 hv55 hv58 hF7 hF5 hO14' HLO tok5
    generalize (w9.alloc (.cells #[.slice A1 n1 c1, .slice A14 le.length c14, .slice A15' lo.length c15', .slice A55 n55 c55, .slice A59 n59 c59] 23)) = W10 at *
    obtain ⟨g, hg⟩ : ∃ g, g = w9.heap.size := ⟨_, rfl⟩
    have HI := Lib.hid hI
    have HVI := Lib.hid hVI
    have HG := Lib.hid hg
    clear hI hVI
    rw [← hg] at hzI ⊢
    clear hg
    go_loopw [62] (fun i wr => ∃ k : Nat, k ≤ 5 ∧ i = .int .i64 (k : Int) ∧ Below W10.heap.size W10 wr) (fun i _ => 5 - (intOf i).toNat)
    case atStart => exact ⟨0, by omega, rfl, Below.refl _ _⟩
    case round =>
      obtain ⟨k, hk, rfl, hbr⟩ := hrel
      have hb9r : Below w9.heap.size w9 wr := hbI.trans (hbr.mono hbI.size)
      by_cases hlt : k < 5
      · have hd : decide ((k : Int) < 5) = true := decide_eq_true (by omega)
        have hdn : decide (k < 5) = true := decide_eq_true hlt
        obtain ⟨x, ⟨lx, hx⟩, hcx⟩ := HI.out k hlt
        rw [← HG.out] at hcx
        have hxr := hx.later hb9r
        obtain ⟨Ax, nx, cx, rfl, hnx, -, -⟩ := id hxr
        have hc : wr.cell? ⟨g, k, none⟩ = some (.slice Ax nx cx) := (hbr.cell (p := ⟨g, k, none⟩) hzI).trans hcx
        have HNX := Lib.hid hnx
        clear hx hcx hnx
        by_cases hbig : 4000 < nx
        · have hdb : decide ((4000 : Int) < (nx : Int)) = true := decide_eq_true (by omega)
          have hdbn : decide (4000 < nx) = true := decide_eq_true hbig
          clear hxr
          go_wp2
          go_roundw
          case rel => exact ⟨k + 1, by omega, by go_num, hbr⟩
          case measure => simp [intOf]; omega
        · have hdb : decide ((4000 : Int) < (nx : Int)) = false := decide_eq_false (by omega)
          have hdbn : decide (4000 < nx) = false := decide_eq_false hbig
          have HP := Lib.hid (parse_any _ lx wr hxr (by have := HNX.out; omega) (HVI.out.later hb9r))
          have HQ := Lib.hid (fun (w' : World) (hb : Below wr.heap.size wr w') => parse_ref _ lx w' (hxr.later hb) (by have := HNX.out; omega))
          have HS := Lib.hid (fun (va vb : Value) (w' : World) (ha : MC va (parseO lx) w') (hb : MC vb (parseO lx) w') => same_msgs va vb (parseO lx) w' ha hb (parseO_len lx))
          clear hxr
          go_wp2_with fail
          refine HP.out.mono ?_
          rintro e w11 ⟨v', rfl, hv', hb11⟩
          obtain ⟨E, hE⟩ : ∃ E, parseE lx = E := ⟨_, rfl⟩
          rw [hE]
          go_wp2_with fail
          refine (HQ.out _ hb11).mono ?_
          rintro e w12 ⟨v'', rfl, hv'', hb12⟩
          rw [hE]
          have hm1 := (MC.of_own hv').later hb12 (Nat.le_refl _)
          have hm2 := MC.of_own hv''
          have hbr12 := hbr.trans ((hb11.trans (hb12.mono hb11.size)).mono hbr.size)
          clear hE hv' hv'' hb11 hb12 HP HQ
          go_wp2_with fail
          refine (HS.out _ _ _ hm1 hm2).mono ?_
          rintro e w13 ⟨rfl, hb13⟩
          have hbr13 := hbr12.trans (hb13.mono hbr12.size)
          clear hm1 hm2 hbr12 hb13 HS
          go_wp2
          go_roundw
          case rel => exact ⟨k + 1, by omega, by go_num, hbr13⟩
          case measure => simp [intOf]; omega
      · have hd : decide ((k : Int) < 5) = false := decide_eq_false (by omega)
        have hdn : decide (k < 5) = false := decide_eq_false hlt
        clear hlt
        go_wp2_with fail
        refine (HA.out _ (HVI.out.later hb9r)).mono ?_
        rintro e w14 ⟨rfl, hb14⟩
        go_wp2_with fail
        go_ret
        exact ⟨rfl, hF9.trans ((hb9r.trans (hb14.mono hb9r.size)).mono hF9.size)⟩
end Go.Proofs.YtklnakjmiljmhaaGreatDoor
