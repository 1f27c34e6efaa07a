/- The walk of the reference's Runs: the runs of each coding, merged. -/
import Derived.Deep.RegionHeld3
import Derived.Test.YtpfldcfnbgdceaaDoorRunI
namespace Go.Proofs.YtpfldcfnbgdceaaDoor
set_option linter.unusedVariables false
set_option linter.unusedSimpArgs false
set_option maxRecDepth 100000
open Go.RowKit
def mergeR : List Rn → List Rn → List Rn
  | [], b => b
  | a :: p, [] => a :: p
  | a :: p, b :: q => if ltR a b = true then a :: mergeR p (b :: q) else b :: mergeR (a :: p) q
termination_by a b => a.length + b.length
def mUp (l : List UInt8) : Nat → List Rn
  | 0 => []
  | n + 1 => mergeR (mUp l n) (ofR (n + 1) l)
theorem mergeR_len : ∀ (a b : List Rn), (mergeR a b).length = a.length + b.length
  | [], b => by rw [mergeR]; simp
  | a :: p, [] => by rw [mergeR]; simp
  | a :: p, b :: q => by
    rw [mergeR]
    split
    · simp [mergeR_len p (b :: q)]; omega
    · simp [mergeR_len (a :: p) q]; omega
termination_by a b => a.length + b.length
theorem mergeR_nil : ∀ (a : List Rn), mergeR a [] = a
  | [] => by rw [mergeR]
  | a :: p => by rw [mergeR]
theorem mergeR_left {a b : List Rn} {i k : Nat} (hi : i < a.length) (h : k = b.length ∨ ∃ hk : k < b.length, ltR a[i] b[k] = true) : mergeR (a.drop i) (b.drop k) = a[i] :: mergeR (a.drop (i + 1)) (b.drop k) := by
  rw [List.drop_eq_getElem_cons hi]
  rcases h with rfl | ⟨hk, h⟩
  · rw [List.drop_eq_nil_of_le (Nat.le_refl _), mergeR_nil, mergeR_nil]
  · rw [List.drop_eq_getElem_cons hk, mergeR, if_pos h]
theorem mergeR_right {a b : List Rn} {i k : Nat} (hk : k < b.length) (h : a.length ≤ i ∨ ∃ hi : i < a.length, ltR a[i] b[k] = false) : mergeR (a.drop i) (b.drop k) = b[k] :: mergeR (a.drop i) (b.drop (k + 1)) := by
  rw [List.drop_eq_getElem_cons hk]
  rcases h with h | ⟨hi, h⟩
  · rw [List.drop_eq_nil_of_le h, mergeR, mergeR]
  · rw [List.drop_eq_getElem_cons hi, mergeR, if_neg (by rw [h]; decide)]
theorem RC.later {v : Value} {o : List Rn} {w w' : World} {B : Nat} (h : RC v o w) (hb : Below B w w') (hB : w.heap.size ≤ B) : RC v o w' := by
  obtain ⟨A, c, rfl, h⟩ := h
  refine ⟨A, c, rfl, ?_⟩
  rcases h with h | ⟨g, rfl, hg, h⟩
  · exact .inl h
  · refine .inr ⟨g, rfl, Nat.lt_of_lt_of_le hg hb.size, fun i hi => ?_⟩
    have hc : ∀ j, w'.cell? ⟨g, j, none⟩ = w.cell? ⟨g, j, none⟩ := fun j => World.cell?_of_block (hb.block g (by omega))
    rw [hc, hc, hc]
    exact h i hi
theorem BA.later {A : Option Addr} {l : List UInt8} {cc : Nat} {w w' : World} (h : BA A l cc w) (hb : Below w.heap.size w w') : BA A l cc w' := by
  refine ⟨h.1, ?_⟩
  rcases h.2 with h | ⟨ad, rfl, had, h⟩
  · exact .inl h
  · exact .inr ⟨ad, rfl, Nat.lt_of_lt_of_le had hb.size, fun j hj => (World.cell?_of_block (by rw [Reads_block]; exact hb.block _ had)).trans (h j hj)⟩
theorem own_base {B B' n : Nat} {T : TypeId} {v : Value} {xs : List Value} {k : Nat} {w : World} (h : w.ownsRow B T k v n xs) (hb : B' ≤ B) : w.ownsRow B' T k v n xs := by
  refine ⟨h.1, ?_⟩
  rcases h.2 with h | ⟨g, cap, cur, rfl, hB, hg, rest⟩
  · exact .inl h
  · exact .inr ⟨g, cap, cur, rfl, Nat.le_trans hb hB, hg, rest⟩
theorem RC_cells {W1 wr : World} {g : Nat} {p0 p1 p2 : Nat} {x0 x1 x2 : Value} (hb : Below W1.heap.size W1 wr) (hg : g < W1.heap.size) (h : W1.cell? ⟨g, p0, none⟩ = some x0 ∧ W1.cell? ⟨g, p1, none⟩ = some x1 ∧ W1.cell? ⟨g, p2, none⟩ = some x2) :
    (∀ d : BelT wr.heap.size wr, d.val.cell? ⟨g, p0, none⟩ = some x0) ∧ (∀ d : BelT wr.heap.size wr, d.val.cell? ⟨g, p1, none⟩ = some x1) ∧ (∀ d : BelT wr.heap.size wr, d.val.cell? ⟨g, p2, none⟩ = some x2) := by
  have hc : ∀ (d : BelT wr.heap.size wr) (j : Nat), d.val.cell? ⟨g, j, none⟩ = W1.cell? ⟨g, j, none⟩ := fun d j =>
    (World.cell?_of_block (d.property.block g (Nat.lt_of_lt_of_le hg hb.size))).trans (World.cell?_of_block (hb.block g hg))
  exact ⟨fun d => (hc d _).trans h.1, fun d => (hc d _).trans h.2.1, fun d => (hc d _).trans h.2.2⟩
def RefPost (l : List UInt8) (w : World) (e : Ending) (w' : World) : Prop := ∃ v, e = .returned v ∧ RC v (if 65536 < l.length then [] else mUp l 4) w' ∧ Below w.heap.size w w'
set_option maxRecDepth 100000 in
set_option maxHeartbeats 8000000 in
theorem RefRuns_any (A : Option Addr) (l : List UInt8) (cc : Nat) (w : World) (hA : BA A l cc w) (hl : l.length ≤ maxLen) :
    Calls Tryd.prog 21 #[.slice A l.length cc] w (RefPost l w) := by
  by_cases hb : 65536 < l.length
  · have hd : decide ((65536 : Int) < l.length) = true := decide_eq_true (by omega)
    have HP : RefPost l w (.returned (.slice none 0 0)) w := ⟨_, rfl, by rw [if_pos hb]; exact ⟨none, 0, rfl, .inl rfl⟩, Below.refl _ _⟩
    clear hA
    go_enter Tryd.func21, Tryd.ntmps21
    go_wp2
    go_ret
    exact HP
  · have hd : decide ((65536 : Int) < l.length) = false := decide_eq_false (by omega)
    have hl : l.length ≤ 65536 := by omega
    obtain ⟨i0, hi, hz0, hz1, hz2⟩ := info_parts info_run
    have HA := Lib.hid hA; clear hA
    go_enter Tryd.func21, Tryd.ntmps21
    go_wp2
    go_loopw [3, 4] (fun v c wr => ∃ n : Nat, n ≤ 4 ∧ c = .int .i64 ((n + 1 : Nat) : Int) ∧ wr.ownsRow w.heap.size 48 3 v (mUp l n).length (cellsR (mUp l n)) ∧ (mUp l n).length ≤ n * 65536 ∧ Below w.heap.size w wr) (fun _ c _ => 5 - (intOf c).toNat)
    case atStart => exact ⟨0, by omega, rfl, World.ownsRow_nil _ _ _ _, by simp [mUp], Below.refl _ _⟩
    case round =>
      obtain ⟨n, hn, rfl, hown, ho, hbel⟩ := hrel
      by_cases h4 : n = 4
      · subst h4
        have HP : RefPost l w (.returned u3) wr := ⟨_, rfl, by rw [if_neg hb]; exact RC.of_own hown, hbel⟩
        clear hown ho hbel HA
        go_wp2
        go_ret
        exact HP
      · have hd4 : decide (((n + 1 : Nat) : Int) ≤ 4) = true := decide_eq_true (by omega)
        have hd4n : decide (n + 1 ≤ 4) = true := decide_eq_true (by omega)
        have OF := of_any (n + 1) (by unfold vldC; simp; omega) A l cc wr (HA.out.later hbel) hl
        have HO := Lib.hid OF
        clear OF
        obtain ⟨a, ha⟩ : ∃ a, mUp l n = a := ⟨_, rfl⟩
        obtain ⟨b, hbb⟩ : ∃ b, ofR (n + 1) l = b := ⟨_, rfl⟩
        have HM := Lib.hid (show mUp l (n + 1) = mergeR a b by rw [← ha, ← hbb]; rfl)
        rw [hbb] at HO
        rw [ha] at hown ho
        clear ha hbb
        go_wp2_with (go_at_call 50; refine HO.out.mono ?_; rintro e W1 ⟨v1, rfl, hown1, hL, hb1⟩)
        have HB1 := Lib.hid (show Below w.heap.size w W1 from hbel.trans (hb1.mono hbel.size))
        have RA := RC.later (RC.of_own hown) hb1 (Nat.le_refl _)
        have RB := RC.of_own hown1
        obtain ⟨A1, c1, rfl, RA⟩ := RA
        obtain ⟨A2, c2, rfl, RB⟩ := RB
        have HRA := Lib.hid RA
        have HRB := Lib.hid RB
        clear RA RB hown hown1 hb1 hbel HO HA hd4 hd4n
        have hla : a.length ≤ 262144 := by omega
        go_loopw [6, 7, 8] (fun v vi vk wi => ∃ (i k : Nat) (q : List Rn), i ≤ a.length ∧ k ≤ b.length ∧ vi = .int .i64 (i : Int) ∧ vk = .int .i64 (k : Int) ∧ wi.ownsRow W1.heap.size 48 3 v q.length (cellsR q) ∧ q.length = i + k ∧ Below W1.heap.size W1 wi ∧ Hid (q ++ mergeR (a.drop i) (b.drop k) = mergeR a b)) (fun _ vi vk _ => (a.length - (intOf vi).toNat) + (b.length - (intOf vk).toNat))
        case atStart => exact ⟨0, 0, [], by omega, by omega, rfl, rfl, World.ownsRow_nil _ _ _ _, rfl, Below.refl _ _, rfl⟩
        case round =>
          obtain ⟨i, k, q, hia, hkb, rfl, rfl, hq, hql, hbq, HMq⟩ := hrel
          by_cases hend : i = a.length ∧ k = b.length
          · obtain ⟨rfl, rfl⟩ := hend
            have hda : decide ((a.length : Int) < a.length) = false := decide_eq_false (by omega)
            have hdan : decide (a.length < a.length) = false := decide_eq_false (by omega)
            have hdb : decide ((b.length : Int) < b.length) = false := decide_eq_false (by omega)
            have hdbn : decide (b.length < b.length) = false := decide_eq_false (by omega)
            have HE : q = mUp l (n + 1) := by
              have := HMq.out
              rw [List.drop_eq_nil_of_le (Nat.le_refl _), List.drop_eq_nil_of_le (Nat.le_refl _), mergeR, List.append_nil] at this
              rw [HM.out, this]
            go_wp2
            refine ⟨⟨n + 1, by omega, by go_num, by rw [← HE]; exact own_base hq (Nat.le_trans HB1.out.size (Nat.le_refl _)), by rw [← HE]; omega, HB1.out.trans (hbq.mono HB1.out.size)⟩, ?_⟩
            simp [intOf]; omega
          · by_cases hk : k = b.length
            · have hi' : i < a.length := by omega
              have hke : decide ((k : Int) = b.length) = true := decide_eq_true (by omega)
              have hken : decide (k = b.length) = true := decide_eq_true hk
              have hkb2 : ((k : Int) == (b.length : Int)) = true := beq_iff_eq.2 (by omega)
              have hda : decide ((i : Int) < a.length) = true := decide_eq_true (by omega)
              have hdan : decide (i < a.length) = true := decide_eq_true (by omega)
              have hdb : decide ((k : Int) < b.length) = false := decide_eq_false (by omega)
              have hdbn : decide (k < b.length) = false := decide_eq_false (by omega)
              have HN := Lib.hid (show (q ++ [a[i]]) ++ mergeR (a.drop (i + 1)) (b.drop k) = mergeR a b by rw [← HMq.out, mergeR_left hi' (.inl hk), List.append_assoc]; rfl)
              clear hk
              obtain ⟨g, rfl, hg, HCg⟩ := HRA.out.resolve_left (by intro e; rw [e] at hi'; simp at hi')
              obtain ⟨hA0, hA1, hA2⟩ := RC_cells hbq hg (HCg i hi')
              replace hA0 : ∀ d : BelT wr.heap.size wr, d.val.cell? ⟨g, i * 3, none⟩ = some (.int .i64 (a[i].1 : Int)) := hA0
              clear HCg
              clear hend HMq
              go_wp2
              refine wp_region_below (Below.refl wr.heap.size wr) (by kernel_rfl) (by kernel_rfl) ?_
              repeat (go_big_quiet_step (fail))
              refine wpQuiet_nil ?_
              intro w2 hw'
              obtain ⟨⟨w3, hw2⟩, rfl⟩ := hw'
              have A0 : w2.cell? ⟨g, i * 3, none⟩ = some (.int .i64 (a[i].1 : Int)) := hA0 ⟨w2, hw2⟩
              have A1 : w2.cell? ⟨g, i * 3 + 1, none⟩ = some (.int .i64 (a[i].2.1 : Int)) := hA1 ⟨w2, hw2⟩
              have A2 : w2.cell? ⟨g, i * 3 + 2, none⟩ = some (.int .i64 (a[i].2.2 : Int)) := hA2 ⟨w2, hw2⟩
              clear hA0 hA1 hA2
              go_wp2_with (at_builtin; refine app_run Tryd.underlying44 hi hz0 hz1 hz2 _ _ _ _ q a[i] _ W1.heap.size rfl rfl rfl rfl rfl (own_later hq hw2) (by omega) (Nat.le_trans hbq.size hw2.size) ?_; intro g2 p2 w4 hown2 hb2)
              go_roundw
              case rel => exact ⟨i + 1, k, q ++ [a[i]], by omega, by omega, by first | rfl | go_num, by first | rfl | go_num, by first | exact hown2 | (rw [hql] at hown2; exact hown2), by simp; omega, hbq.trans ((hw2.mono hbq.size).trans hb2), HN⟩
              case measure => simp [intOf]; omega
            · have hk' : k < b.length := by omega
              have hke : decide ((k : Int) = b.length) = false := decide_eq_false (by omega)
              have hken : decide (k = b.length) = false := decide_eq_false hk
              have hkb2 : ((k : Int) == (b.length : Int)) = false := beq_eq_false_iff_ne.2 (by omega)
              have hdb : decide ((k : Int) < b.length) = true := decide_eq_true (by omega)
              have hdbn : decide (k < b.length) = true := decide_eq_true (by omega)
              obtain ⟨g1, rfl, hg1, HCg1⟩ := HRB.out.resolve_left (by intro e; rw [e] at hk'; simp at hk')
              obtain ⟨hB0, hB1, hB2⟩ := RC_cells hbq hg1 (HCg1 k hk')
              replace hB0 : ∀ d : BelT wr.heap.size wr, d.val.cell? ⟨g1, k * 3, none⟩ = some (.int .i64 (b[k].1 : Int)) := hB0
              clear HCg1
              by_cases hi2 : i < a.length
              · have hi' : i < a.length := hi2
                have hda : decide ((i : Int) < a.length) = true := decide_eq_true (by omega)
                have hdan : decide (i < a.length) = true := decide_eq_true (by omega)
                obtain ⟨g, rfl, hg, HCg⟩ := HRA.out.resolve_left (by intro e; rw [e] at hi'; simp at hi')
                obtain ⟨hA0, hA1, hA2⟩ := RC_cells hbq hg (HCg i hi')
                replace hA0 : ∀ d : BelT wr.heap.size wr, d.val.cell? ⟨g, i * 3, none⟩ = some (.int .i64 (a[i].1 : Int)) := hA0
                clear HCg
                cases hlt : ltR a[i] b[k] with
                | true =>
                  have BF : ∀ w, Calls Tryd.prog 51 #[.agg #[.int .i64 (a[i].1 : Int), .int .i64 (a[i].2.1 : Int), .int .i64 (a[i].2.2 : Int)], .agg #[.int .i64 (b[k].1 : Int), .int .i64 (b[k].2.1 : Int), .int .i64 (b[k].2.2 : Int)]] w fun e w' => e = .returned (.bool true) ∧ Below w.heap.size w w' := fun w => by have := before_any a[i] b[k] w; rw [hlt] at this; exact this
                  have HN := Lib.hid (show (q ++ [a[i]]) ++ mergeR (a.drop (i + 1)) (b.drop k) = mergeR a b by rw [← HMq.out, mergeR_left hi' (.inr ⟨hk', hlt⟩), List.append_assoc]; rfl)
                  clear hlt
                  clear hend HMq
                  go_wp2
                  refine wp_region_below (Below.refl wr.heap.size wr) (by kernel_rfl) (by kernel_rfl) ?_
                  repeat (go_big_quiet_step ((go_at_call 51; exact Calls.below_of (Nat.le_refl _) (BF _))))
                  refine wpQuiet_nil ?_
                  intro w2 hw'
                  obtain ⟨⟨w3, hw2⟩, rfl⟩ := hw'
                  have A0 : w2.cell? ⟨g, i * 3, none⟩ = some (.int .i64 (a[i].1 : Int)) := hA0 ⟨w2, hw2⟩
                  have A1 : w2.cell? ⟨g, i * 3 + 1, none⟩ = some (.int .i64 (a[i].2.1 : Int)) := hA1 ⟨w2, hw2⟩
                  have A2 : w2.cell? ⟨g, i * 3 + 2, none⟩ = some (.int .i64 (a[i].2.2 : Int)) := hA2 ⟨w2, hw2⟩
                  clear hA0 hA1 hA2 hB0 hB1 hB2
                  go_wp2_with (at_builtin; refine app_run Tryd.underlying44 hi hz0 hz1 hz2 _ _ _ _ q a[i] _ W1.heap.size rfl rfl rfl rfl rfl (own_later hq hw2) (by omega) (Nat.le_trans hbq.size hw2.size) ?_; intro g2 p2 w4 hown2 hb2)
                  go_roundw
                  case rel => exact ⟨i + 1, k, q ++ [a[i]], by omega, by omega, by first | rfl | go_num, by first | rfl | go_num, by first | exact hown2 | (rw [hql] at hown2; exact hown2), by simp; omega, hbq.trans ((hw2.mono hbq.size).trans hb2), HN⟩
                  case measure => simp [intOf]; omega
                | false =>
                  have BF : ∀ w, Calls Tryd.prog 51 #[.agg #[.int .i64 (a[i].1 : Int), .int .i64 (a[i].2.1 : Int), .int .i64 (a[i].2.2 : Int)], .agg #[.int .i64 (b[k].1 : Int), .int .i64 (b[k].2.1 : Int), .int .i64 (b[k].2.2 : Int)]] w fun e w' => e = .returned (.bool false) ∧ Below w.heap.size w w' := fun w => by have := before_any a[i] b[k] w; rw [hlt] at this; exact this
                  have HN := Lib.hid (show (q ++ [b[k]]) ++ mergeR (a.drop i) (b.drop (k + 1)) = mergeR a b by rw [← HMq.out, mergeR_right hk' (.inr ⟨hi', hlt⟩), List.append_assoc]; rfl)
                  clear hlt
                  clear hend HMq
                  go_wp2
                  refine wp_region_below (Below.refl wr.heap.size wr) (by kernel_rfl) (by kernel_rfl) ?_
                  repeat (go_big_quiet_step ((go_at_call 51; exact Calls.below_of (Nat.le_refl _) (BF _))))
                  refine wpQuiet_nil ?_
                  intro w2 hw'
                  obtain ⟨⟨w3, hw2⟩, rfl⟩ := hw'
                  have B0 : w2.cell? ⟨g1, k * 3, none⟩ = some (.int .i64 (b[k].1 : Int)) := hB0 ⟨w2, hw2⟩
                  have B1 : w2.cell? ⟨g1, k * 3 + 1, none⟩ = some (.int .i64 (b[k].2.1 : Int)) := hB1 ⟨w2, hw2⟩
                  have B2 : w2.cell? ⟨g1, k * 3 + 2, none⟩ = some (.int .i64 (b[k].2.2 : Int)) := hB2 ⟨w2, hw2⟩
                  clear hA0 hA1 hA2 hB0 hB1 hB2
                  go_wp2_with (at_builtin; refine app_run Tryd.underlying44 hi hz0 hz1 hz2 _ _ _ _ q b[k] _ W1.heap.size rfl rfl rfl rfl rfl (own_later hq hw2) (by omega) (Nat.le_trans hbq.size hw2.size) ?_; intro g2 p2 w4 hown2 hb2)
                  go_roundw
                  case rel => exact ⟨i, k + 1, q ++ [b[k]], by omega, by omega, by first | rfl | go_num, by first | rfl | go_num, by first | exact hown2 | (rw [hql] at hown2; exact hown2), by simp; omega, hbq.trans ((hw2.mono hbq.size).trans hb2), HN⟩
                  case measure => simp [intOf]; omega
              · have hie : i = a.length := by omega
                have hda : decide ((i : Int) < a.length) = false := decide_eq_false (by omega)
                have hdan : decide (i < a.length) = false := decide_eq_false (by omega)
                have HN := Lib.hid (show (q ++ [b[k]]) ++ mergeR (a.drop i) (b.drop (k + 1)) = mergeR a b by rw [← HMq.out, mergeR_right hk' (.inl (by omega)), List.append_assoc]; rfl)
                clear hie
                clear hend HMq
                go_wp2
                refine wp_region_below (Below.refl wr.heap.size wr) (by kernel_rfl) (by kernel_rfl) ?_
                repeat (go_big_quiet_step (fail))
                refine wpQuiet_nil ?_
                intro w2 hw'
                obtain ⟨⟨w3, hw2⟩, rfl⟩ := hw'
                have B0 : w2.cell? ⟨g1, k * 3, none⟩ = some (.int .i64 (b[k].1 : Int)) := hB0 ⟨w2, hw2⟩
                have B1 : w2.cell? ⟨g1, k * 3 + 1, none⟩ = some (.int .i64 (b[k].2.1 : Int)) := hB1 ⟨w2, hw2⟩
                have B2 : w2.cell? ⟨g1, k * 3 + 2, none⟩ = some (.int .i64 (b[k].2.2 : Int)) := hB2 ⟨w2, hw2⟩
                clear hB0 hB1 hB2
                go_wp2_with (at_builtin; refine app_run Tryd.underlying44 hi hz0 hz1 hz2 _ _ _ _ q b[k] _ W1.heap.size rfl rfl rfl rfl rfl (own_later hq hw2) (by omega) (Nat.le_trans hbq.size hw2.size) ?_; intro g2 p2 w4 hown2 hb2)
                go_roundw
                case rel => exact ⟨i, k + 1, q ++ [b[k]], by omega, by omega, by first | rfl | go_num, by first | rfl | go_num, by first | exact hown2 | (rw [hql] at hown2; exact hown2), by simp; omega, hbq.trans ((hw2.mono hbq.size).trans hb2), HN⟩
                case measure => simp [intOf]; omega
end Go.Proofs.YtpfldcfnbgdceaaDoor
