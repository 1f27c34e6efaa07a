/- The law ExportKeeps: the call returns true, for every tape and number. -/
import Derived.Test.YtklnakjmiljmhaaGreatDoorLaw17PZ
namespace Go.Proofs.YtklnakjmiljmhaaGreatDoor
set_option linter.unusedVariables false
set_option linter.unusedSimpArgs false
set_option maxRecDepth 100000
open Go.RowKit
theorem keepM_len {l : List Ms} {k : Nat} (h : k < l.length) : (keepM (l.drop k)).length = (if l[k].kind = 3 then 0 else 1) + (keepM (l.drop (k + 1))).length := by
  rw [List.drop_eq_getElem_cons h, keepM, List.filter_cons]
  by_cases h3 : l[k].kind = 3
  · simp [h3, keepM]
  · simp [h3, keepM]; omega
theorem MC.at {A : Option Addr} {n c : Nat} {l : List Ms} {w : World} (h : MC (.slice A n c) l w) {k : Nat} (hk : k < l.length) : ∃ g f, A = some ⟨g, f, none⟩ ∧ g < w.heap.size ∧ MCell w g (f + k * 5) l[k] := by
  obtain ⟨A', c', hv, -, h⟩ := h
  injection hv with h1 h2 h3
  subst h1
  obtain ⟨g, f, rfl, hg, hm⟩ := h.resolve_left (by rintro rfl; simp at hk)
  exact ⟨g, f, rfl, hg, hm k hk⟩
/-- The comparison of two messages comes to an answer. -/
theorem eqM_run (k1 i1 t1 k2 i2 t2 : Int) (s1 x1 s2 x2 : ByteArray) : ∃ c, ∀ w, (binOp .eql 43 (.agg #[.int .i64 k1, .int .i64 i1, .string s1, .int .i64 t1, .string x1]) (.agg #[.int .i64 k2, .int .i64 i2, .string s2, .int .i64 t2, .string x2])).run Tryz.prog w = .ok (.bool c) w := by
  cases h1 : (k1 == k2) with
  | false => exact ⟨false, fun w => by simp [go_sem, h1]⟩
  | true =>
    cases h2 : (i1 == i2) with
    | false => exact ⟨false, fun w => by simp [go_sem, h1, h2]⟩
    | true =>
      cases h3 : (s1.toList == s2.toList) with
      | false => exact ⟨false, fun w => by simp [go_sem, h1, h2, h3]⟩
      | true =>
        cases h4 : (t1 == t2) with
        | false => exact ⟨false, fun w => by simp [go_sem, h1, h2, h3, h4]⟩
        | true =>
          by_cases h5 : x1.toList = x2.toList
          · exact ⟨true, fun w => by simp [go_sem, h1, h2, h3, h4, h5]⟩
          · exact ⟨false, fun w => by simp [go_sem, h1, h2, h3, h4, h5]⟩
set_option maxHeartbeats 4000000 in
theorem keeps17_law (A : Option Addr) (n c : Nat) (num : Int) (w : World) (ht : TapeArg A n w) (hv : VrOK w) :
    Calls Tryz.prog 4 #[.slice A n c, .int .i64 num] w fun e w' => e = .returned (.bool true) ∧ Below w.heap.size w w' := by
  have h0 := tape_new (c := c) ht
  have hb0 := (Below.refl w.heap.size w).alloc (Nat.le_refl _) (.cells #[.slice A n c, .int .i64 0] 26)
  generalize hw0 : w.alloc (.cells #[.slice A n c, .int .i64 0] 26) = w0 at h0 hb0
  have HW0 := Lib.hid hw0
  have HV := Lib.hid hv
  obtain ⟨tm, htm⟩ : ∃ p, bits .and .i64 num 31 = p := ⟨_, rfl⟩
  go_enter Tryz.func4, Tryz.ntmps4
  go_wp2_with fail
  clear hw0
  refine (kinds_any w.heap.size _ h0).mono ?_
  rintro e w1 ⟨vk, rfl, hk, ht1, hf1⟩
  go_wp2_with fail
  refine (messages_any w.heap.size vk _ hk ht1).mono ?_
  rintro e w2 ⟨v, l, B, rfl, hown, h00, hn, htx, ht2, hf2⟩
  have hF : Below w.heap.size w w2 := hb0.trans ((hf1.trans hf2).below (Nat.le_refl _) hb0.size)
  obtain ⟨hs, -⟩ := made_small h00 hn htx
  have HMC := Lib.hid (MC.of_own hown)
  obtain ⟨A1, c1, rfl, hc1, -⟩ := MC.of_own hown
  have HT := Lib.hid (fun (w' : World) (h : Below w2.heap.size w2 w') => texts_any _ _ w' (HMC.out.later h (Nat.le_refl _)) hs)
  have HAT := Lib.hid (fun (w' : World) (h : Below w2.heap.size w2 w') => at_any _ _ tm w' (HMC.out.later h (Nat.le_refl _)) hs)
  have HA := Lib.hid (fun (w' : World) (hV : VrOK w') => awake_any w' hV)
  have HKL := Lib.hid (keeps_law h00 tm)
  have HTX := Lib.hid (show textsM l = keepM l from if_pos h00)
  have hal := at_len l tm (by omega)
  have hll : l.length ≤ 6 := hn
  have HV2 := Lib.hid (hv.later hF)
  have HFF := Lib.hid hF
  clear hown h00 hn htx ht2 hf2 hs hk ht1 hf1 h0 hb0 HW0 hv
  go_wp2_with fail
  refine (HT.out _ (Below.refl _ _)).mono ?_
  rintro e w3 ⟨v3, rfl, hv3, hb3⟩
  rw [HTX.out] at hv3
  obtain ⟨A3, c3, rfl, hc3, hcell3⟩ := MC.of_own hv3
  have HM3 := Lib.hid (MC.of_own hv3)
  clear hcell3 hv3 HT
  go_wp2_with fail
  refine (HAT.out _ hb3).mono ?_
  rintro e w4 ⟨v4, rfl, hv4, hb4⟩
  obtain ⟨x, hx⟩ : ∃ x, atM l tm = x := ⟨_, rfl⟩
  obtain ⟨all, hall⟩ : ∃ x, keepM l = x := ⟨_, rfl⟩
  rw [hx] at hv4 HKL hal
  rw [HTX.out, hall] at HKL
  rw [hall] at HM3 hc3 ⊢
  obtain ⟨A4, c4, rfl, hc4, -⟩ := id hv4
  have hb24 := hb3.trans (hb4.mono hb3.size)
  have HM4 := Lib.hid hv4
  have HM3' := Lib.hid (HM3.out.later hb4 (Nat.le_refl _))
  have HML := Lib.hid (HMC.out.later hb24 (Nat.le_refl _))
  have HALL := Lib.hid hall
  have HB24 := Lib.hid hb24
  have hkl : all.length ≤ 6 := by rw [← hall]; have := List.length_filter_le (fun m : Ms => !(m.kind == 3)) l; unfold keepM; omega
  clear hv4 hx hall HM3 HMC HAT hb3 hb4 HTX hc3 hc4 hc1
  go_wp2_with fail
  go_loopw [9, 10] (fun nv iv wr => ∃ (k n : Nat), k ≤ l.length ∧ iv = .int .i64 (k : Int) ∧ nv = .int .i64 (n : Int) ∧ n ≤ k ∧ Below w4.heap.size w4 wr ∧ Hid (n + (keepM (l.drop k)).length = all.length)) (fun _ v _ => l.length - (intOf v).toNat)
  case atStart => exact ⟨0, 0, by omega, rfl, rfl, by omega, Below.refl _ _, by show _ = _; rw [List.drop_zero, HALL.out]; simp⟩
  case round =>
    obtain ⟨k, n, hk, rfl, rfl, hn, hbel, HR⟩ := hrel
    by_cases hlt : k < l.length
    · have hd : decide ((k : Int) < (l.length : Int)) = true := decide_eq_true (by omega)
      have hdn : decide (k < l.length) = true := decide_eq_true hlt
      obtain ⟨g, ff, rfl, hg, hcs⟩ := HML.out.at hlt
      obtain ⟨a0, -, -, -, -⟩ := hcs.later (hbel.block g hg)
      have HD := Lib.hid (keepM_len hlt)
      clear hcs
      obtain ⟨kd, hkd⟩ : ∃ kd, (l[k]).kind = kd := ⟨_, rfl⟩
      rw [hkd] at a0 HD
      clear hkd
      by_cases h3 : kd = 3
      · have hb3 : (kd == 3) = true := by simp [h3]
        have HE := Lib.hid (show n + (keepM (l.drop (k + 1))).length = all.length by have := HR.out; have := HD.out; rw [if_pos h3] at this; omega)
        have hb3' : (kd != 3) = false := by simp [h3]
        clear h3
        go_wp2
        go_roundw
        case rel => exact ⟨k + 1, n, by omega, by go_num, rfl, by omega, hbel, HE⟩
        case measure => simp [intOf]; omega
      · have hb3 : (kd == 3) = false := by simp [h3]
        have hb3' : (kd != 3) = true := by simp [h3]
        have HE := Lib.hid (show (n + 1) + (keepM (l.drop (k + 1))).length = all.length by have := HR.out; have := HD.out; rw [if_neg h3] at this; omega)
        clear h3
        go_wp2
        go_roundw
        case rel => exact ⟨k + 1, n + 1, by omega, by go_num, by go_num, by omega, hbel, HE⟩
        case measure => simp [intOf]; omega
    · obtain rfl : k = l.length := by omega
      have hd : decide ((l.length : Int) < (l.length : Int)) = false := decide_eq_false (by omega)
      have hdn : decide (l.length < l.length) = false := decide_eq_false (by omega)
      have hne : n = all.length := by have := HR.out; rw [List.drop_length] at this; simpa [keepM] using this
      clear HR hn hk hlt
      subst hne
      obtain ⟨W, rfl⟩ : ∃ W : World, W = wr := ⟨_, rfl⟩
      go_wp2
      go_loopw [11] (fun iv wr => ∃ k : Nat, k ≤ x.length ∧ iv = .int .i64 (k : Int) ∧ Below w4.heap.size w4 wr) (fun v _ => x.length - (intOf v).toNat)
      case atStart => exact ⟨0, by omega, rfl, hbel⟩
      case round =>
        obtain ⟨i, hi, rfl, hbi⟩ := hrel
        have hbi2 := Lib.hid (HB24.out.trans (hbi.mono HB24.out.size))
        by_cases hli : i < x.length
        · have hd2 : decide ((i : Int) < (x.length : Int)) = true := decide_eq_true (by omega)
          have hd2n : decide (i < x.length) = true := decide_eq_true hli
          obtain ⟨g4, f4, rfl, hg4, hc4⟩ := HM4.out.at hli
          have HXI := Lib.hid (HKL.out.2 _ (List.getElem_mem hli))
          obtain ⟨m, hm⟩ : ∃ m, x[i] = m := ⟨_, rfl⟩
          have HPV := Lib.hid (fun (q : Nat) (hq : q + 1 = i) => show (x[q]'(by omega)).id < m.id ∧ MCell w4 g4 (f4 + q * 5) (x[q]'(by omega)) from by
            subst hq
            refine ⟨by rw [← hm]; exact List.pairwise_iff_getElem.1 HKL.out.1 q (q + 1) (by omega) hli (by omega), ?_⟩
            obtain ⟨g', f', e, -, h⟩ := HM4.out.at (show q < x.length by omega)
            injection e with e; injection e with e1 e2; subst e1 e2; exact h)
          rw [hm] at HXI hc4
          obtain ⟨j0, hj0, hej⟩ := List.getElem_of_mem HXI.out.1
          have HC4 := Lib.hid hc4
          have HEJ := Lib.hid hej
          clear hej hm hc4
          go_wp2_with fail
          obtain ⟨W3, rfl⟩ : ∃ W3 : World, W3 = wr := ⟨_, rfl⟩
          go_loopw [12, 13] (fun fv kv wr3 => ∃ (k : Nat) (b : Bool), k ≤ all.length ∧ kv = .int .i64 (k : Int) ∧ fv = .bool b ∧ Below w4.heap.size w4 wr3 ∧ Hid (j0 < k → b = true)) (fun _ v _ => all.length - (intOf v).toNat)
          case atStart => exact ⟨0, false, by omega, rfl, rfl, hbi, by show _ → _; omega⟩
          case round =>
            obtain ⟨k, b, hk, rfl, rfl, hb3, HB⟩ := hrel
            by_cases hlk : k < all.length
            · have hd3 : decide ((k : Int) < (all.length : Int)) = true := decide_eq_true (by omega)
              have hd3n : decide (k < all.length) = true := decide_eq_true hlk
              obtain ⟨g3, f3, rfl, hg3, hc3⟩ := HM3'.out.at hlk
              obtain ⟨a0, a1, a2, a3, a4⟩ := hc3.later (hb3.block g3 hg3)
              obtain ⟨b0, b1, b2, b3, b4⟩ := HC4.out.later (hb3.block g4 hg4)
              clear hc3
              cases b with
              | true =>
                clear a0 a1 a2 a3 a4 b0 b1 b2 b3 b4
                go_wp2
                go_quiet (fail)
                go_wp2
                go_roundw
                case rel => exact ⟨k + 1, true, by omega, by go_num, rfl, below_drewN hb3 _, by show _ → _; intro _; rfl⟩
                case measure => simp [intOf]; omega
              | false =>
                by_cases hkj : k = j0
                · have he := HEJ.out
                  subst hkj
                  rw [he] at a0 a1 a2 a3 a4
                  clear he
                  obtain ⟨kd, id, who, tm', tx⟩ := m
                  dsimp only at a0 a1 a2 a3 a4 b0 b1 b2 b3 b4
                  generalize bs who = S at *
                  generalize bs tx = T at *
                  go_wp2
                  go_quiet (fail)
                  go_wp2
                  go_roundw
                  case rel => exact ⟨k + 1, true, by omega, by go_num, rfl, below_drewN hb3 _, by show _ → _; intro _; rfl⟩
                  case measure => simp [intOf]; omega
                · generalize all[k] = m' at *
                  obtain ⟨kd, id, who, tm', tx⟩ := m
                  obtain ⟨kd', id', who', tm'', tx'⟩ := m'
                  dsimp only at a0 a1 a2 a3 a4 b0 b1 b2 b3 b4
                  have hnot : ¬ j0 < k + 1 := by
                    intro h
                    have := HB.out (by omega)
                    cases this
                  generalize bs who = S at *
                  generalize bs tx = T at *
                  generalize bs who' = S' at *
                  generalize bs tx' = T' at *
                  obtain ⟨cq, hcq⟩ := eqM_run kd' id' tm'' kd id tm' S' T' S T
                  go_wp2
                  go_quiet (fail)
                  go_wp2
                  go_roundw
                  case rel => exact ⟨k + 1, _, by omega, by go_num, rfl, below_drewN hb3 _, by show _ → _; intro h; exact absurd h hnot⟩
                  case measure => simp [intOf]; omega
            · obtain rfl : k = all.length := by omega
              have hd3 : decide ((all.length : Int) < (all.length : Int)) = false := decide_eq_false (by omega)
              have hd3n : decide (all.length < all.length) = false := decide_eq_false (by omega)
              obtain rfl := HB.out hj0
              obtain ⟨W4, rfl⟩ : ∃ W4 : World, W4 = wr := ⟨_, rfl⟩
              have hb4 := hb3
              obtain ⟨-, b1, -, b3, -⟩ := HC4.out.later (hb3.block g4 hg4)
              have htm2 : m.time ≤ tm := HXI.out.2.1
              have hdt : decide (tm < m.time) = false := decide_eq_false (by omega)
              clear htm2
              go_upto_region 21 with fail
              go_cut [99] from 46 to 134 (fun v wx => v = .bool false ∧ Below w4.heap.size w4 wx)
              case first =>
                by_cases hi0 : i = 0
                · subst hi0
                  have hz1 : decide ((0 : Int) < ((0 : Nat) : Int)) = false := decide_eq_false (by omega)
                  have hz2 : decide (0 < 0) = false := decide_eq_false (by omega)
                  generalize m.time = tm' at *
                  go_quiet (fail)
                  go_wp2_with fail
                  go_meet
                  exact ⟨rfl, below_drewN hb4 _⟩
                · obtain ⟨q, hq⟩ : ∃ q, q + 1 = i := ⟨i - 1, by omega⟩
                  obtain ⟨hlt1, hcq⟩ := HPV.out q hq
                  obtain ⟨-, c1', -, -, -⟩ := hcq.later (hb3.block g4 hg4)
                  clear hcq
                  have hz1 : decide ((0 : Int) < (i : Int)) = true := decide_eq_true (by omega)
                  have hz2 : decide (0 < i) = true := decide_eq_true (by omega)
                  have hge : decide (m.id ≤ (x[q]'(by omega)).id) = false := decide_eq_false (by omega)
                  generalize (x[q]'(by omega)).id = idq at *
                  generalize m.time = tm' at *
                  generalize m.id = idm at *
                  have hwq : IntKind.i64.wrap ((i : Int) - 1) = (q : Int) := by rw [← hq]; rw [show (((q + 1 : Nat) : Int) - 1) = (q : Int) by omega]; exact IntWalk.i64_in _ (by omega)
                  have hsq : (i : Int) - 1 = (q : Int) := by omega
                  clear hq hlt1 hi0
                  go_quiet (fail)
                  go_wp2_with fail
                  go_meet
                  exact ⟨rfl, below_drewN hb4 _⟩
              case rest =>
                obtain ⟨rfl, hb5⟩ := hcut
                clear hb4 hb3 hbi b1 b3
                obtain ⟨W5, rfl⟩ : ∃ W5 : World, W5 = wc := ⟨_, rfl⟩
                go_wp2_with fail
                go_loopw [14] (fun kv wr => ∃ k : Nat, k ≤ l.length ∧ kv = .int .i64 (k : Int) ∧ Below w4.heap.size w4 wr) (fun v _ => l.length - (intOf v).toNat)
                case atStart => exact ⟨0, by omega, rfl, hb5⟩
                case round =>
                  obtain ⟨k, hk, rfl, hb6⟩ := hrel
                  by_cases hlt : k < l.length
                  · have hd : decide ((k : Int) < (l.length : Int)) = true := decide_eq_true (by omega)
                    have hdn : decide (k < l.length) = true := decide_eq_true hlt
                    obtain ⟨g, ff, rfl, hg, hcs⟩ := HML.out.at hlt
                    obtain ⟨a0, a1, -, a3, -⟩ := hcs.later (hb6.block g hg)
                    obtain ⟨-, b1, -, -, -⟩ := HC4.out.later (hb6.block g4 hg4)
                    have HN := Lib.hid (HXI.out.2.2 _ (List.getElem_mem hlt))
                    clear hcs
                    obtain ⟨m', hm'⟩ : ∃ m', l[k] = m' := ⟨_, rfl⟩
                    rw [hm'] at a0 a1 a3 HN
                    clear hm'
                    obtain ⟨kd', id', who', tm'', tx'⟩ := m'
                    dsimp only at a0 a1 a3 HN
                    by_cases hle : tm'' ≤ tm
                    · have hdl : decide (tm'' ≤ tm) = true := decide_eq_true hle
                      have HN2 := Lib.hid (HN.out hle)
                      clear hle HN
                      generalize m.id = idm at *
                      by_cases hid : id' = idm
                      · subst hid
                        have h3 : (kd' == 3) = false := by
                          have := HN2.out; simp at this; simpa using this
                        have hee : (id' == id') = true := by simp
                        go_wp2_with fail
                        go_quiet (fail)
                        go_wp2
                        go_roundw
                        case rel => exact ⟨k + 1, by omega, by go_num, below_drewN hb6 _⟩
                        case measure => simp [intOf]; omega
                      · have hne : (id' == idm) = false := by simpa using hid
                        clear hid
                        go_wp2_with fail
                        go_quiet (fail)
                        go_wp2
                        go_roundw
                        case rel => exact ⟨k + 1, by omega, by go_num, below_drewN hb6 _⟩
                        case measure => simp [intOf]; omega
                    · have hdl : decide (tm'' ≤ tm) = false := decide_eq_false hle
                      clear hle HN a0 a1 b1
                      go_wp2
                      go_roundw
                      case rel => exact ⟨i + 1, by omega, by go_num, hb6⟩
                      case measure => simp [intOf]; omega
                  · have hd : decide ((k : Int) < (l.length : Int)) = false := decide_eq_false (by omega)
                    have hdn : decide (k < l.length) = false := decide_eq_false hlt
                    clear hlt
                    go_wp2
                    go_roundw
                    case rel => exact ⟨i + 1, by omega, by go_num, hb6⟩
                    case measure => simp [intOf]; omega
        · have hd2 : decide ((i : Int) < (x.length : Int)) = false := decide_eq_false (by omega)
          have hd2n : decide (i < x.length) = false := decide_eq_false hli
          clear hli
          go_wp2_with fail
          refine (HA.out _ (HV2.out.later hbi2.out)).mono ?_
          rintro e w14 ⟨rfl, hb14⟩
          go_wp2_with fail
          go_ret
          exact ⟨rfl, HFF.out.trans ((hbi2.out.trans (hb14.mono hbi2.out.size)).mono HFF.out.size)⟩
end Go.Proofs.YtklnakjmiljmhaaGreatDoor
