/- Walks of the library's searches through messages. · The code's check of messages. · The reference's check of messages. · The reference's Valid: the maps of what was posted and of what stands. · Walks: the comparison of messages, all texts. · Sources: names, kinds. -/
import Derived.Test.YthmpcdjhighhgaaGreatDoorY17
import Derived.Test.YthmpcdjhighhgaaGreatDoorY04
import Derived.Deep.RegionHeld3
import Derived.Test.YthmpcdjhighhgaaGreatDoorY05
import Derived.Test.YthmpcdjhighhgaaGreatDoorY01
import Derived.RegionTactic
import Derived.BigRegion
namespace Go.Proofs.YthmpcdjhighhgaaGreatDoor
set_option linter.unusedVariables false
set_option linter.unusedSimpArgs false
set_option maxRecDepth 100000
open Go.RowKit
/-- A function value that answers p of each of some messages. -/
def Asks (gi : Nat) (p : Ms → Bool) (l : List Ms) : Prop := (∀ args w, (callFunc gi args).run Tryz.prog w = .ok (.enter gi args) w) ∧ ∀ m ∈ l, ∀ w, Calls Tryz.prog gi #[.agg (encM m).toArray] w fun e w' => e = .returned (.bool (p m)) ∧ Below w.heap.size w w'
/-- The first message of a kind. -/
def idxM (p : Ms → Bool) : List Ms → Nat
  | [] => 0
  | m :: r => if p m = true then 0 else idxM p r + 1
theorem idxM_le (p : Ms → Bool) : ∀ l, idxM p l ≤ l.length
  | [] => Nat.le_refl _
  | m :: r => by
    rw [idxM]; split
    · omega
    · have := idxM_le p r; simp; omega
theorem anyM_idx (p : Ms → Bool) : ∀ l, anyM p l = true → idxM p l < l.length
  | [], h => by simp [anyM] at h
  | m :: r, h => by
    rw [idxM]; split
    · simp
    · rename_i hp
      rw [anyM] at h
      have := anyM_idx p r (by simpa [hp] using h)
      simp; omega
/-- What IndexFunc answers. -/
def ixI (p : Ms → Bool) (l : List Ms) : Int := if anyM p l = true then (idxM p l : Int) else -1
theorem ixI_ge (p : Ms → Bool) (l : List Ms) : decide (0 ≤ ixI p l) = anyM p l := by
  unfold ixI
  cases h : anyM p l
  · rfl
  · rw [if_pos rfl]; exact decide_eq_true (by omega)
set_option maxHeartbeats 1000000 in
theorem index_any (gi : Nat) (p : Ms → Bool) (v : Value) (l : List Ms) (w : World) (h : MC v l w) (ha : Asks gi p l) (hl : l.length ≤ 1000000) :
    Calls Tryz.prog 104 #[v, .func (.func gi) #[] #[]] w fun e w' => e = .returned (.int .i64 (ixI p l)) ∧ Below w.heap.size w w' := by
  obtain ⟨A, c, rfl, hc, hcell⟩ := h
  obtain ⟨ei, hp⟩ := ha
  have HC := Lib.hid hcell; have HP := Lib.hid hp
  clear hcell hp
  go_enter Tryz.func104, Tryz.ntmps104
  go_wp2
  go_loopw [8] (fun v wr => ∃ k : Nat, k ≤ l.length ∧ v = .int .i64 (k : Int) ∧ Below w.heap.size w wr ∧ Hid (anyM p (l.drop k) = anyM p l ∧ idxM p (l.drop k) + k = idxM p l)) (fun v _ => l.length - (intOf v).toNat)
  case atStart => exact ⟨0, by omega, rfl, Below.refl _ _, rfl, rfl⟩
  case round =>
    obtain ⟨k, hk, rfl, hbel, HR⟩ := hrel
    by_cases hlt : k < l.length
    · have hd : decide ((k : Int) < (l.length : Int)) = true := decide_eq_true (by omega)
      have hdn : decide (k < l.length) = true := decide_eq_true hlt
      obtain ⟨g, ff, rfl, hg, hcs⟩ := HC.out.resolve_left (by intro e; rw [e] at hlt; simp at hlt)
      obtain ⟨a0, a1, a2, a3, a4⟩ := (hcs k hlt).later (hbel.block g hg)
      have I := HP.out l[k] (List.getElem_mem hlt)
      have HDR := Lib.hid (show anyM p (l[k] :: l.drop (k + 1)) = anyM p l ∧ idxM p (l[k] :: l.drop (k + 1)) + k = idxM p l by rw [← List.drop_eq_getElem_cons hlt]; exact HR.out)
      clear hcs
      obtain ⟨m, hm⟩ : ∃ m, l[k] = m := ⟨_, rfl⟩
      rw [hm] at a0 a1 a2 a3 a4 I HDR
      clear hm
      have HI := Lib.hid I; clear I
      cases hpm : p m with
      | true =>
        have HT := Lib.hid (show (k : Int) = ixI p l by unfold ixI; rw [← HDR.out.1, ← HDR.out.2, anyM, hpm, idxM, if_pos hpm]; simp)
        rw [hpm] at HI
        clear hpm
        go_wp2_with fail
        refine (HI.out _).mono ?_
        rintro e w1 ⟨rfl, hb1⟩
        go_wp2_with fail
        go_ret
        exact ⟨ret_int HT.out, hbel.trans (hb1.mono hbel.size)⟩
      | false =>
        have HT := Lib.hid (show anyM p (l.drop (k + 1)) = anyM p l ∧ idxM p (l.drop (k + 1)) + (k + 1) = idxM p l from ⟨by rw [← HDR.out.1, anyM, hpm]; rfl, by rw [← HDR.out.2, idxM, if_neg (by rw [hpm]; decide)]; omega⟩)
        rw [hpm] at HI
        clear hpm
        go_wp2_with fail
        refine (HI.out _).mono ?_
        rintro e w1 ⟨rfl, hb1⟩
        go_wp2_with fail
        go_roundw
        case rel => exact ⟨k + 1, by omega, by go_num, hbel.trans (hb1.mono hbel.size), HT⟩
        case measure => simp [intOf]; omega
    · obtain rfl : k = l.length := by omega
      have hd : decide ((l.length : Int) < (l.length : Int)) = false := decide_eq_false (by omega)
      have hdn : decide (l.length < l.length) = false := decide_eq_false (by omega)
      have HT := Lib.hid (show (-1 : Int) = ixI p l by unfold ixI; rw [← HR.out.1, List.drop_length]; rfl)
      go_wp2_with fail
      go_ret
      exact ⟨ret_int HT.out, hbel⟩
theorem contains_any (gi : Nat) (p : Ms → Bool) (v : Value) (l : List Ms) (w : World) (h : MC v l w) (ha : Asks gi p l) (hl : l.length ≤ 1000000) :
    Calls Tryz.prog 83 #[v, .func (.func gi) #[] #[]] w fun e w' => e = .returned (.bool (anyM p l)) ∧ Below w.heap.size w w' := by
  have I := Lib.hid (fun w h => index_any gi p v l w h ha hl)
  have H := Lib.hid h; clear h
  go_enter Tryz.func83, Tryz.ntmps83
  go_wp2_with fail
  refine (I.out _ H.out).mono ?_
  rintro e w1 ⟨rfl, hb⟩
  have HR := Lib.hid (ixI_ge p l)
  generalize ixI p l = r at *
  go_wp2_with fail
  go_ret
  exact ⟨ret_bool HR.out, hb⟩
/-- The order by times, backwards through the list. -/
theorem late_any (m : Ms) (w : World) : Calls Tryz.prog 85 #[.agg (encM m).toArray] w fun e w' => e = .returned (.bool (lateM m)) ∧ Below w.heap.size w w' := by
  obtain ⟨kd, id, who, tm, tx⟩ := m
  unfold encM
  by_cases h : tm < 0
  · have d : decide (tm < 0) = true := decide_eq_true h
    go_enter Tryz.func85, Tryz.ntmps85
    go_wp2
    go_ret
    exact ⟨ret_bool (by unfold lateM; dsimp only; rw [d]; rfl), (Below.refl _ _).alloc (Nat.le_refl _) _⟩
  · have d : decide (tm < 0) = false := decide_eq_false h
    go_enter Tryz.func85, Tryz.ntmps85
    go_wp2
    go_ret
    exact ⟨ret_bool (by unfold lateM; dsimp only; rw [d]; rfl), (Below.refl _ _).alloc (Nat.le_refl _) _⟩
end Go.Proofs.YthmpcdjhighhgaaGreatDoor
namespace Go.Proofs.YthmpcdjhighhgaaGreatDoor
set_option linter.unusedVariables false
set_option linter.unusedSimpArgs false
set_option maxRecDepth 100000
open Go.RowKit
theorem bytime_any (x y : Ms) (w : World) : Calls Tryz.prog 87 #[.agg (encM x).toArray, .agg (encM y).toArray] w fun e w' => e = .returned (.int .i64 (cmpI x.time y.time)) ∧ Below w.heap.size w w' := by
  obtain ⟨k1, i1, w1, t1, x1⟩ := x
  obtain ⟨k2, i2, w2, t2, x2⟩ := y
  have C := fun w => cmp_any t1 t2 w
  generalize cmpI t1 t2 = r at *
  unfold encM
  dsimp only
  go_enter Tryz.func87, Tryz.ntmps87
  go_wp2_with (go_at_call 73; refine (C _).mono ?_; rintro e wq ⟨rfl, rfl⟩)
  go_ret
  exact ⟨rfl, ((Below.refl _ w).alloc (Nat.le_refl _) _).alloc (by simp) _⟩
theorem back_at {l : List Ms} {k : Nat} (h1 : 1 ≤ k) (h2 : k < l.length) : backF (l.drop (k - 1)) = (decide ((l[k]).time < (l[k - 1]'(by omega)).time) || backF (l.drop k)) := by
  rw [List.drop_eq_getElem_cons (show k - 1 < l.length by omega), List.drop_eq_getElem_cons (show k - 1 + 1 < l.length by omega), backF]
  have e : k - 1 + 1 = k := by omega
  simp only [e]
  rw [← List.drop_eq_getElem_cons h2]
theorem back_drop {l : List Ms} (k : Nat) (h : backF (l.drop k) = true) : backF l = true := by
  cases hb : backF l with
  | true => rfl
  | false => rw [backF_no.2 ((backF_no.1 hb).sublist (List.drop_sublist k l))] at h; cases h
theorem cmpI_lt {a b : Int} (h : a < b) : decide (cmpI a b < 0) = true := by unfold cmpI; rw [if_pos h]; rfl
theorem cmpI_ge {a b : Int} (h : ¬ a < b) : decide (cmpI a b < 0) = false := by unfold cmpI; rw [if_neg h]; split <;> rfl
set_option maxHeartbeats 1000000 in
theorem sorted_any (v : Value) (l : List Ms) (w : World) (h : MC v l w) (hl : l.length ≤ 1000000) :
    Calls Tryz.prog 86 #[v, .func (.func 87) #[] #[]] w fun e w' => e = .returned (.bool (!backF l)) ∧ Below w.heap.size w w' := by
  have ei := enters_of Tryz.func87 (by kernel_rfl) rfl
  obtain ⟨A, c, rfl, hc, hcell⟩ := h
  by_cases h0 : l = []
  · subst h0
    go_enter Tryz.func86, Tryz.ntmps86
    go_wp2
    go_loop [5] (fun v => v = .int .i64 (-1)) (fun _ => 0)
    case atStart => rfl
    case round =>
      subst hrel
      go_wp2
      go_ret
      exact ⟨rfl, Below.refl _ _⟩
  · obtain ⟨g, ff, rfl, hg, hcs⟩ := hcell.resolve_left h0
    have hpos : 0 < l.length := List.length_pos_iff.2 h0
    have HC := Lib.hid hcs; clear hcs h0 hcell
    go_enter Tryz.func86, Tryz.ntmps86
    go_wp2
    go_loopw [5] (fun v wr => ∃ k : Nat, k < l.length ∧ v = .int .i64 (k : Int) ∧ Below w.heap.size w wr ∧ Hid (backF (l.drop k) = false)) (fun v _ => (intOf v).toNat)
    case atStart => exact ⟨l.length - 1, by omega, by go_num, Below.refl _ _, by
      show _ = _
      rw [List.drop_eq_getElem_cons (show l.length - 1 < l.length by omega), List.drop_eq_nil_of_le (by omega)]; rfl⟩
    case round =>
      obtain ⟨k, hk, rfl, hbel, HR⟩ := hrel
      by_cases hlt : 0 < k
      · have hd : decide ((0 : Int) < (k : Int)) = true := decide_eq_true (by omega)
        have hdn : decide (0 < k) = true := decide_eq_true hlt
        have hcd : ∀ (d : BelT wr.heap.size wr) (j : Nat), d.val.cell? ⟨g, j, none⟩ = w.cell? ⟨g, j, none⟩ := fun d j => (World.cell?_of_block (d.property.block g (Nat.lt_of_lt_of_le hg hbel.size))).trans (World.cell?_of_block (hbel.block g hg))
        have hk1 : k - 1 < l.length := by omega
        obtain ⟨a0, a1, a2, a3, a4⟩ := HC.out k hk
        obtain ⟨b0, b1, b2, b3, b4⟩ := HC.out (k - 1) hk1
        have HB := Lib.hid (back_at hlt hk)
        obtain ⟨x, hx⟩ : ∃ x, l[k] = x := ⟨_, rfl⟩
        obtain ⟨y, hy⟩ : ∃ y, l[k - 1] = y := ⟨_, rfl⟩
        rw [hx] at a0 a1 a2 a3 a4 HB
        rw [hy] at b0 b1 b2 b3 b4 HB
        clear hx hy
        have A0 := fun d => (hcd d _).trans a0
        have A1 := fun d => (hcd d _).trans a1
        have A2 := fun d => (hcd d _).trans a2
        have A3 := fun d => (hcd d _).trans a3
        have A4 := fun d => (hcd d _).trans a4
        have B0 := fun d => (hcd d _).trans b0
        have B1 := fun d => (hcd d _).trans b1
        have B2 := fun d => (hcd d _).trans b2
        have B3 := fun d => (hcd d _).trans b3
        have B4 := fun d => (hcd d _).trans b4
        clear a0 a1 a2 a3 a4 b0 b1 b2 b3 b4 hcd
        have hw2 : IntKind.i64.wrap ((k : Int) - 1) = (k : Int) - 1 := IntWalk.i64_in _ (by omega)
        have hw3 : ((k : Int) - 1).toNat = k - 1 := by omega
        have hw4 : (0 : Int) ≤ (k : Int) - 1 := by omega
        have hw5 : (1 : Int) ≤ (k : Int) := by omega
        have T := fun w => bytime_any x y w
        by_cases hxy : x.time < y.time
        · have hc1 := cmpI_lt hxy
          have HE := Lib.hid (show false = !backF l by rw [back_drop (k - 1) (by rw [HB.out, decide_eq_true hxy]; rfl)]; rfl)
          clear hxy
          generalize cmpI x.time y.time = r at *
          have HT := Lib.hid T; clear T
          go_wp2_with fail
          refine wp_region_below (Below.refl wr.heap.size wr) (by kernel_rfl) (by kernel_rfl) ?_
          repeat (go_big_quiet_step ((go_at_call 87; exact Calls.below_of (Nat.le_refl _) (HT.out _))))
          refine wpQuiet_nil ?_
          intro w2 hw'
          obtain ⟨⟨w3, hb3⟩, rfl⟩ := hw'
          clear A0 A1 A2 A3 A4 B0 B1 B2 B3 B4
          go_wp2_with fail
          go_ret
          exact ⟨ret_bool HE.out, hbel.trans (hb3.mono hbel.size)⟩
        · have hc1 := cmpI_ge hxy
          have HE := Lib.hid (show backF (l.drop (k - 1)) = false by rw [HB.out, decide_eq_false hxy, HR.out]; rfl)
          clear hxy
          generalize cmpI x.time y.time = r at *
          have HT := Lib.hid T; clear T
          go_wp2_with fail
          refine wp_region_below (Below.refl wr.heap.size wr) (by kernel_rfl) (by kernel_rfl) ?_
          repeat (go_big_quiet_step ((go_at_call 87; exact Calls.below_of (Nat.le_refl _) (HT.out _))))
          refine wpQuiet_nil ?_
          intro w2 hw'
          obtain ⟨⟨w3, hb3⟩, rfl⟩ := hw'
          clear A0 A1 A2 A3 A4 B0 B1 B2 B3 B4
          clear hw2 hw3
          go_wp2_with fail
          go_roundw
          case rel => exact ⟨k - 1, by omega, by go_num, hbel.trans (hb3.mono hbel.size), HE⟩
          case measure => simp [intOf]; omega
      · obtain rfl : k = 0 := by omega
        have HE := Lib.hid (show true = !backF l by have := HR.out; rw [List.drop_zero] at this; rw [this]; rfl)
        go_wp2_with fail
        go_ret
        exact ⟨ret_bool HE.out, hbel⟩
/-- What a list of messages must be for the checks' walks: its lengths, and numbers that are ints. -/
def Small (l : List Ms) : Prop := l.length ≤ 100000 ∧ ∀ m ∈ l, m.who.length ≤ 1000000 ∧ m.text.length ≤ 1000000
theorem sizeF_drop {l : List Ms} {k : Nat} (h : k < l.length) : sizeF (l.drop k) = (l[k]).text.length + sizeF (l.drop (k + 1)) := by
  rw [List.drop_eq_getElem_cons h, sizeF]
theorem sizeF_bd : ∀ {l : List Ms}, (∀ m ∈ l, m.text.length ≤ 1000000) → sizeF l ≤ l.length * 1000000
  | [], _ => by simp [sizeF]
  | m :: r, h => by
    have h1 := h m (by simp)
    have h2 := sizeF_bd (l := r) (fun x hx => h x (by simp [hx]))
    rw [sizeF, List.length_cons, Nat.succ_mul]; omega
theorem errM_at {l : List Ms} : errM l = (if 300 < l.length ∨ 65536 < sizeF l then 3 else if anyM wrongM l = true then 1 else if anyM lateM l = true then 2 else if backF l = true then 11 else folF l (fun _ => none)) := rfl
set_option maxHeartbeats 1000000 in
/-- The code's Valid. -/
theorem valid_any (v : Value) (l : List Ms) (w : World) (h : MC v l w) (hs : Small l) :
    Calls Tryz.prog 39 #[v] w fun e w' => e = .returned (.int .i64 (errM l)) ∧ Below w.heap.size w w' := by
  have hz := sizeF_bd (fun m hm => (hs.2 m hm).2)
  have hl := hs.1
  have hsz : sizeF l ≤ 100000000000 := by omega
  have HS := Lib.hid hs; have H := Lib.hid h
  clear hs hz
  have HT := Lib.hid (fun m hm => (HS.out.2 m hm).2)
  have C1 := Lib.hid (fun w h => contains_any 84 wrongM v l w h ⟨enters_of Tryz.func84 (by kernel_rfl) rfl, fun m hm w => wrong_any m w (HS.out.2 m hm).1⟩ (by have := HS.out.1; omega))
  have C2 := Lib.hid (fun w h => contains_any 85 lateM v l w h ⟨enters_of Tryz.func85 (by kernel_rfl) rfl, fun m _ w => late_any m w⟩ (by have := HS.out.1; omega))
  have C3 := Lib.hid (fun w h => sorted_any v l w h (by have := HS.out.1; omega))
  obtain ⟨A, c, rfl, hc, hcell⟩ := h
  have HC := Lib.hid hcell; clear hcell
  go_enter Tryz.func39, Tryz.ntmps39
  go_wp2
  go_loopw [3, 8] (fun s v wr => ∃ (k n : Nat), k ≤ l.length ∧ v = .int .i64 (k : Int) ∧ s = .int .i64 (n : Int) ∧ Below w.heap.size w wr ∧ n ≤ 100000000000 ∧ Hid (n + sizeF (l.drop k) = sizeF l)) (fun _ v _ => l.length - (intOf v).toNat)
  case atStart => exact ⟨0, 0, by omega, rfl, rfl, Below.refl _ _, by omega, by show _ = _; simp⟩
  case round =>
    obtain ⟨k, n, hk, rfl, rfl, hbel, hn, HR⟩ := hrel
    by_cases hlt : k < l.length
    · have hd : decide ((k : Int) < (l.length : Int)) = true := decide_eq_true (by omega)
      have hdn : decide (k < l.length) = true := decide_eq_true hlt
      obtain ⟨g, ff, rfl, hg, hcs⟩ := HC.out.resolve_left (by intro e; rw [e] at hlt; simp at hlt)
      obtain ⟨a0, a1, a2, a3, a4⟩ := (hcs k hlt).later (hbel.block g hg)
      have HD := Lib.hid (sizeF_drop hlt)
      clear hcs
      obtain ⟨m, hm⟩ : ∃ m, l[k] = m := ⟨_, rfl⟩
      rw [hm] at a0 a1 a2 a3 a4 HD
      have htl := HT.out m (by rw [← hm]; exact List.getElem_mem hlt)
      clear hm
      have hbt : (bs m.text).size ≤ 1000000 := by rw [size_bs]; exact htl
      have HE := Lib.hid (show (n + (bs m.text).size) + sizeF (l.drop (k + 1)) = sizeF l by rw [size_bs, ← HR.out, HD.out]; omega)
      have hle : n + (bs m.text).size ≤ 100000000000 := by have := HE.out; omega
      generalize bs m.text = T at *
      go_wp2_with fail
      go_roundw
      case rel => exact ⟨k + 1, n + T.size, by omega, by go_num, by first | rfl | go_num, hbel.alloc hbel.size _, hle, HE⟩
      case measure => simp [intOf]; omega
    · obtain rfl : k = l.length := by omega
      have hd : decide ((l.length : Int) < (l.length : Int)) = false := decide_eq_false (by omega)
      have hdn : decide (l.length < l.length) = false := decide_eq_false (by omega)
      have hnz : n = sizeF l := by have := HR.out; rw [List.drop_length, sizeF] at this; omega
      have HN := Lib.hid hnz; clear hnz
      have HMC := Lib.hid (H.out.later hbel (Nat.le_refl _))
      have HB := Lib.hid hbel; clear hbel
      by_cases h1 : 300 < l.length
      · have d1 : decide ((300 : Int) < (l.length : Int)) = true := decide_eq_true (by omega)
        have d1n : decide (300 < l.length) = true := decide_eq_true h1
        have HE := Lib.hid (show errM l = 3 by rw [errM_at, if_pos (.inl h1)])
        go_wp2_with fail
        go_ret
        exact ⟨ret_int HE.out.symm, HB.out⟩
      have d1 : decide ((300 : Int) < (l.length : Int)) = false := decide_eq_false (by omega)
      have d1n : decide (300 < l.length) = false := decide_eq_false h1
      by_cases h2 : 65536 < n
      · have d2 : decide ((65536 : Int) < (n : Int)) = true := decide_eq_true (by omega)
        have d2n : decide (65536 < n) = true := decide_eq_true h2
        have HE := Lib.hid (show errM l = 3 by rw [errM_at, if_pos (.inr (by have := HN.out; omega))])
        go_wp2_with fail
        go_ret
        exact ⟨ret_int HE.out.symm, HB.out⟩
      have d2 : decide ((65536 : Int) < (n : Int)) = false := decide_eq_false (by omega)
      have d2n : decide (65536 < n) = false := decide_eq_false h2
      have HE1 := Lib.hid (show errM l = _ by rw [errM_at, if_neg (by have := HN.out; omega)])
      have HL1 := Lib.hid (And.intro h1 h2)
      clear h1 h2
      cases ha : anyM wrongM l with
      | true =>
        have HE := Lib.hid (show errM l = 1 by rw [HE1.out, ha]; rfl)
        rw [ha] at C1
        clear ha
        go_wp2_with fail
        refine (C1.out _ HMC.out).mono ?_
        rintro e w1 ⟨rfl, hb1⟩
        go_wp2_with fail
        go_ret
        exact ⟨ret_int HE.out.symm, HB.out.trans (hb1.mono HB.out.size)⟩
      | false =>
        have HA := Lib.hid ha
        rw [ha] at C1
        clear ha
        go_wp2_with fail
        refine (C1.out _ HMC.out).mono ?_
        rintro e w1 ⟨rfl, hb1⟩
        have HMC1 := Lib.hid (HMC.out.later hb1 (Nat.le_refl _))
        have HB1 := Lib.hid (HB.out.trans (hb1.mono HB.out.size))
        clear hb1
        cases hb : anyM lateM l with
        | true =>
          have HE := Lib.hid (show errM l = 2 by rw [HE1.out, HA.out, hb]; rfl)
          rw [hb] at C2
          clear hb
          go_wp2_with fail
          refine (C2.out _ HMC1.out).mono ?_
          rintro e w2 ⟨rfl, hb2⟩
          go_wp2_with fail
          go_ret
          exact ⟨ret_int HE.out.symm, HB1.out.trans (hb2.mono HB1.out.size)⟩
        | false =>
          have HB' := Lib.hid hb
          rw [hb] at C2
          clear hb
          go_wp2_with fail
          refine (C2.out _ HMC1.out).mono ?_
          rintro e w2 ⟨rfl, hb2⟩
          have HMC2 := Lib.hid (HMC1.out.later hb2 (Nat.le_refl _))
          have HB2 := Lib.hid (HB1.out.trans (hb2.mono HB1.out.size))
          clear hb2
          cases hbk : backF l with
          | true =>
            have HE := Lib.hid (show errM l = 11 by rw [HE1.out, HA.out, HB'.out, hbk]; rfl)
            rw [hbk] at C3
            clear hbk
            go_wp2_with fail
            refine (C3.out _ HMC2.out).mono ?_
            rintro e w3 ⟨rfl, hb3⟩
            go_wp2_with fail
            go_ret
            exact ⟨ret_int HE.out.symm, HB2.out.trans (hb3.mono HB2.out.size)⟩
          | false =>
            have HE := Lib.hid (show errM l = folF l (fun _ => none) by rw [HE1.out, HA.out, HB'.out, hbk]; rfl)
            rw [hbk] at C3
            clear hbk
            go_wp2_with fail
            refine (C3.out _ HMC2.out).mono ?_
            rintro e w3 ⟨rfl, hb3⟩
            have HMC3 := Lib.hid (HMC2.out.later hb3 (Nat.le_refl _))
            have HB3 := Lib.hid (HB2.out.trans (hb3.mono HB2.out.size))
            clear hb3
            go_wp2_with fail
            refine (follow_any _ l _ HMC3.out (fun m hm => by have := wrongM_no (anyM_no.1 HA.out m hm); omega) (by omega)).mono ?_
            rintro e w4 ⟨rfl, hb4⟩
            go_wp2_with fail
            go_ret
            exact ⟨ret_int HE.out.symm, HB3.out.trans (hb4.mono HB3.out.size)⟩
end Go.Proofs.YthmpcdjhighhgaaGreatDoor
namespace Go.Proofs.YthmpcdjhighhgaaGreatDoor
set_option linter.unusedVariables false
set_option linter.unusedSimpArgs false
set_option maxRecDepth 100000
open Go.RowKit
open Go.Maps (Keyed)
def formE (l : List Ms) : Int :=
  if 300 < l.length ∨ 65536 < sizeF l then 3 else if anyM wrongM l = true then 1 else if anyM lateM l = true then 2 else if backF l = true then 11 else 0
theorem errM_form (l : List Ms) : errM l = if formE l = 0 then folF l (fun _ => none) else formE l := by
  unfold errM formE
  split
  · rfl
  · split
    · rfl
    · split
      · rfl
      · split <;> rfl
theorem any_drop {p : Ms → Bool} {l : List Ms} {k : Nat} (hk : k < l.length) : anyM p (l.drop k) = (p l[k] || anyM p (l.drop (k + 1))) := by rw [List.drop_eq_getElem_cons hk, anyM]
theorem below_drewN {B : Nat} {a w : World} (h : Below B a w) (n : Nat) : Below B a (w.drewN n) := ⟨h.os, h.tape, h.output, h.size, h.block⟩
set_option maxHeartbeats 8000000 in
theorem form_ref (v : Value) (l : List Ms) (w : World) (h : MC v l w) (hs : Small l) :
    Calls Tryz.prog 15 #[v] w fun e w' => e = .returned (.int .i64 (formE l)) ∧ Below w.heap.size w w' := by
  have hz := sizeF_bd (fun m hm => (hs.2 m hm).2)
  have hl := hs.1
  have hsz : sizeF l ≤ 100000000000 := by omega
  have HS := Lib.hid hs; have H := Lib.hid h
  clear hs hz
  obtain ⟨A, c, rfl, hc, hcell⟩ := h
  have HC := Lib.hid hcell; clear hcell
  go_enter Tryz.func15, Tryz.ntmps15
  go_wp2
  go_loop [3, 4] (fun s v => ∃ (k n : Nat), k ≤ l.length ∧ v = .int .i64 (k : Int) ∧ s = .int .i64 (n : Int) ∧ n ≤ 100000000000 ∧ Hid (n + sizeF (l.drop k) = sizeF l)) (fun _ v => l.length - (intOf v).toNat)
  case atStart => exact ⟨0, 0, by omega, rfl, rfl, by omega, by show _ = _; simp⟩
  case round =>
    obtain ⟨k, n, hk, rfl, rfl, hn, HR⟩ := hrel
    by_cases hlt : k < l.length
    · have hd : decide ((k : Int) < (l.length : Int)) = true := decide_eq_true (by omega)
      have hdn : decide (k < l.length) = true := decide_eq_true hlt
      obtain ⟨g, ff, rfl, hg, hcs⟩ := HC.out.resolve_left (by intro e; rw [e] at hlt; simp at hlt)
      obtain ⟨a0, a1, a2, a3, a4⟩ := hcs k hlt
      have HD := Lib.hid (sizeF_drop hlt)
      clear hcs
      obtain ⟨m, hm⟩ : ∃ m, l[k] = m := ⟨_, rfl⟩
      rw [hm] at a0 a1 a2 a3 a4 HD
      have htl := (HS.out.2 m (by rw [← hm]; exact List.getElem_mem hlt)).2
      clear hm
      have hbt : (bs m.text).size ≤ 1000000 := by rw [size_bs]; exact htl
      have HE := Lib.hid (show (n + (bs m.text).size) + sizeF (l.drop (k + 1)) = sizeF l by rw [size_bs, ← HR.out, HD.out]; omega)
      have hle : n + (bs m.text).size ≤ 100000000000 := by have := HE.out; omega
      generalize bs m.text = T at *
      go_wp2_with fail
      go_round
      case rel => exact ⟨k + 1, n + T.size, by omega, by go_num, by first | rfl | go_num, hle, HE⟩
      case measure => simp [intOf]; omega
    · obtain rfl : k = l.length := by omega
      have hd : decide ((l.length : Int) < (l.length : Int)) = false := decide_eq_false (by omega)
      have hdn : decide (l.length < l.length) = false := decide_eq_false (by omega)
      have hnz : n = sizeF l := by have := HR.out; rw [List.drop_length, sizeF] at this; omega
      have HN := Lib.hid hnz; clear hnz
      by_cases h1 : 300 < l.length
      · have d1 : decide ((300 : Int) < (l.length : Int)) = true := decide_eq_true (by omega)
        have d1n : decide (300 < l.length) = true := decide_eq_true h1
        have HE := Lib.hid (show formE l = 3 by unfold formE; rw [if_pos (.inl h1)])
        go_wp2_with fail
        go_ret
        exact ⟨ret_int HE.out.symm, Below.refl _ _⟩
      have d1 : decide ((300 : Int) < (l.length : Int)) = false := decide_eq_false (by omega)
      have d1n : decide (300 < l.length) = false := decide_eq_false h1
      by_cases h2 : 65536 < n
      · have d2 : decide ((65536 : Int) < (n : Int)) = true := decide_eq_true (by omega)
        have d2n : decide (65536 < n) = true := decide_eq_true h2
        have HE := Lib.hid (show formE l = 3 by unfold formE; rw [if_pos (.inr (by have := HN.out; omega))])
        go_wp2_with fail
        go_ret
        exact ⟨ret_int HE.out.symm, Below.refl _ _⟩
      have d2 : decide ((65536 : Int) < (n : Int)) = false := decide_eq_false (by omega)
      have d2n : decide (65536 < n) = false := decide_eq_false h2
      have HE1 := Lib.hid (show formE l = _ by unfold formE; rw [if_neg (by have := HN.out; omega)])
      clear h1 h2 HR HN
      go_wp2_with fail
      go_loopw [5] (fun v wr => ∃ k : Nat, k ≤ l.length ∧ v = .int .i64 (k : Int) ∧ Below w.heap.size w wr ∧ Hid (anyM wrongM (l.drop k) = anyM wrongM l)) (fun v _ => l.length - (intOf v).toNat)
      case atStart => exact ⟨0, by omega, rfl, Below.refl _ _, rfl⟩
      case round =>
        obtain ⟨k, hk, rfl, hbel, HR⟩ := hrel
        by_cases hlt : k < l.length
        · have hd : decide ((k : Int) < (l.length : Int)) = true := decide_eq_true (by omega)
          have hdn : decide (k < l.length) = true := decide_eq_true hlt
          obtain ⟨g, ff, rfl, hg, hcs⟩ := HC.out.resolve_left (by intro e; rw [e] at hlt; simp at hlt)
          obtain ⟨a0, a1, a2, a3, a4⟩ := (hcs k hlt).later (hbel.block g hg)
          have HD := Lib.hid (show (wrongM l[k] || anyM wrongM (l.drop (k + 1))) = anyM wrongM l by rw [← any_drop hlt]; exact HR.out)
          clear hcs
          obtain ⟨m, hm⟩ : ∃ m, l[k] = m := ⟨_, rfl⟩
          rw [hm] at a0 a1 a2 a3 a4 HD
          have hwl := (HS.out.2 m (by rw [← hm]; exact List.getElem_mem hlt)).1
          clear hm
          obtain ⟨kd, id, who, tm, tx⟩ := m
          dsimp only at a0 a1 a2 a3 a4 hwl
          have hbel1 := hbel.alloc hbel.size (.cells #[.int .i64 kd, .int .i64 id, .string (bs who), .int .i64 tm, .string (bs tx)] 28)
          have AU := fun w => author_ref (bs who) w (by rw [size_bs]; exact hwl)
          rw [bl_bs] at AU
          have HT := Lib.hid (show (bs tx).toList.isEmpty = tx.isEmpty by rw [bl_emp, bl_bs])
          have HY := Lib.hid (show wrongM ⟨kd, id, who, tm, tx⟩ = true → formE l = 1 from fun h => by rw [HE1.out, ← HD.out, h]; rfl)
          have HNo := Lib.hid (show wrongM ⟨kd, id, who, tm, tx⟩ = false → anyM wrongM (l.drop (k + 1)) = anyM wrongM l from fun h => by rw [← HD.out, h]; rfl)
          have HW := Lib.hid (show wrongM ⟨kd, id, who, tm, tx⟩ = (decide (kd < 1) || (decide (3 < kd) || (decide (id < 1) || (decide (1073741824 < id) || (!whoOK who || (kd == 3 && !tx.isEmpty)))))) from rfl)
          clear HD hwl
          generalize bs who = S at *
          generalize bs tx = T at *
          by_cases h1 : kd < 1
          · have e1 : decide (kd < 1) = true := decide_eq_true h1
            have HE := Lib.hid (HY.out (by rw [HW.out, e1]; rfl))
            go_wp2_with fail
            go_ret
            exact ⟨ret_int HE.out.symm, hbel1⟩
          have e1 : decide (kd < 1) = false := decide_eq_false h1
          by_cases h2 : 3 < kd
          · have e2 : decide (3 < kd) = true := decide_eq_true h2
            have HE := Lib.hid (HY.out (by rw [HW.out, e1, e2]; rfl))
            go_wp2_with fail
            go_ret
            exact ⟨ret_int HE.out.symm, hbel1⟩
          have e2 : decide (3 < kd) = false := decide_eq_false h2
          by_cases h3 : id < 1
          · have e3 : decide (id < 1) = true := decide_eq_true h3
            have HE := Lib.hid (HY.out (by rw [HW.out, e1, e2, e3]; rfl))
            go_wp2_with fail
            go_ret
            exact ⟨ret_int HE.out.symm, hbel1⟩
          have e3 : decide (id < 1) = false := decide_eq_false h3
          by_cases h4 : 1073741824 < id
          · have e4 : decide (1073741824 < id) = true := decide_eq_true h4
            have HE := Lib.hid (HY.out (by rw [HW.out, e1, e2, e3, e4]; rfl))
            go_wp2_with fail
            go_ret
            exact ⟨ret_int HE.out.symm, hbel1⟩
          have e4 : decide (1073741824 < id) = false := decide_eq_false h4
          cases hw : whoOK who with
          | false =>
            rw [hw] at AU
            have HE := Lib.hid (HY.out (by rw [HW.out, e1, e2, e3, e4, hw]; rfl))
            clear hw
            go_wp2_with (go_at_call 31; refine (AU _).mono ?_; rintro e w1 ⟨rfl, rfl⟩)
            go_ret
            exact ⟨ret_int HE.out.symm, hbel1⟩
          | true =>
            rw [hw] at AU
            have HW2 := Lib.hid (show wrongM ⟨kd, id, who, tm, tx⟩ = (kd == 3 && !tx.isEmpty) by rw [HW.out, e1, e2, e3, e4, hw]; rfl)
            clear hw
            by_cases h5 : kd = 3
            · have e5 : (kd == 3) = true := by simpa using h5
              cases hte : tx.isEmpty with
              | true =>
                have t0 : T.toList.isEmpty = true := by rw [HT.out, hte]
                have t1 : (!T.toList.isEmpty) = false := by rw [t0]; rfl
                have HE := Lib.hid (HNo.out (by rw [HW2.out, hte]; simp))
                clear hte h5
                go_wp2_with (go_at_call 31; refine (AU _).mono ?_; rintro e w1 ⟨rfl, rfl⟩)
                go_roundw
                case rel => exact ⟨k + 1, by omega, by go_num, hbel1, HE⟩
                case measure => simp [intOf]; omega
              | false =>
                have t0 : T.toList.isEmpty = false := by rw [HT.out, hte]
                have t1 : (!T.toList.isEmpty) = true := by rw [t0]; rfl
                have HE := Lib.hid (HY.out (by rw [HW2.out, hte, e5]; rfl))
                clear hte h5
                go_wp2_with (go_at_call 31; refine (AU _).mono ?_; rintro e w1 ⟨rfl, rfl⟩)
                go_ret
                exact ⟨ret_int HE.out.symm, hbel1⟩
            · have e5 : (kd == 3) = false := by simpa using h5
              have HE := Lib.hid (HNo.out (by rw [HW2.out, e5]; rfl))
              clear h5
              go_wp2_with (go_at_call 31; refine (AU _).mono ?_; rintro e w1 ⟨rfl, rfl⟩)
              go_roundw
              case rel => exact ⟨k + 1, by omega, by go_num, hbel1, HE⟩
              case measure => simp [intOf]; omega
        · obtain rfl : k = l.length := by omega
          have HA := Lib.hid (show anyM wrongM l = false by rw [← HR.out, List.drop_length]; rfl)
          have HE2 := Lib.hid (show formE l = _ by rw [HE1.out, HA.out, if_neg (by decide)])
          have hd : decide ((l.length : Int) < (l.length : Int)) = false := decide_eq_false (by omega)
          have hdn : decide (l.length < l.length) = false := decide_eq_false (by omega)
          have HB := Lib.hid hbel
          clear HR HE1 HA
          obtain ⟨W2, hW2⟩ : ∃ W2 : World, W2 = wr := ⟨_, rfl⟩
          rw [← hW2] at HB hbel ⊢
          clear hW2
          have HC2 := Lib.hid (show ∀ w1, Below W2.heap.size W2 w1 → ∀ g f i (h : i < l.length), A = some ⟨g, f, none⟩ → g < w.heap.size → MCell w g (f + i * 5) l[i] → MCell w1 g (f + i * 5) l[i] from fun w1 hb g f i hi _ hg hm => (hm.later (HB.out.block g hg)).later (hb.block g (Nat.lt_of_lt_of_le hg HB.out.size)))
          go_wp2_with fail
          go_loopw [7] (fun v wr => ∃ k : Nat, k ≤ l.length ∧ v = .int .i64 (k : Int) ∧ wr = W2 ∧ Hid (anyM lateM (l.drop k) = anyM lateM l)) (fun v _ => l.length - (intOf v).toNat)
          case atStart => exact ⟨0, by omega, rfl, rfl, rfl⟩
          case round =>
            obtain ⟨k, hk, rfl, rfl, HR⟩ := hrel
            by_cases hlt : k < l.length
            · have hd : decide ((k : Int) < (l.length : Int)) = true := decide_eq_true (by omega)
              have hdn : decide (k < l.length) = true := decide_eq_true hlt
              obtain ⟨g, ff, rfl, hg, hcs⟩ := HC.out.resolve_left (by intro e; rw [e] at hlt; simp at hlt)
              obtain ⟨a0, a1, a2, a3, a4⟩ := (hcs k hlt).later (hbel.block g hg)
              have HD := Lib.hid (show (lateM l[k] || anyM lateM (l.drop (k + 1))) = anyM lateM l by rw [← any_drop hlt]; exact HR.out)
              clear hcs a0 a1 a2 a4
              obtain ⟨m, hm⟩ : ∃ m, l[k] = m := ⟨_, rfl⟩
              rw [hm] at a3 HD
              clear hm
              obtain ⟨kd, id, who, tm, tx⟩ := m
              dsimp only at a3
              have HW := Lib.hid (show lateM ⟨kd, id, who, tm, tx⟩ = (decide (tm < 0) || decide (1099511627776 < tm)) from rfl)
              by_cases h1 : tm < 0
              · have e1 : decide (tm < 0) = true := decide_eq_true h1
                have HE := Lib.hid (show formE l = 2 by rw [HE2.out, ← HD.out, HW.out, e1]; rfl)
                go_wp2_with fail
                go_ret
                exact ⟨ret_int HE.out.symm, HB.out⟩
              have e1 : decide (tm < 0) = false := decide_eq_false h1
              by_cases h2 : 1099511627776 < tm
              · have e2 : decide (1099511627776 < tm) = true := decide_eq_true h2
                have HE := Lib.hid (show formE l = 2 by rw [HE2.out, ← HD.out, HW.out, e1, e2]; rfl)
                go_wp2_with fail
                go_ret
                exact ⟨ret_int HE.out.symm, HB.out⟩
              have e2 : decide (1099511627776 < tm) = false := decide_eq_false h2
              have HE := Lib.hid (show anyM lateM (l.drop (k + 1)) = anyM lateM l by rw [← HD.out, HW.out, e1, e2]; rfl)
              go_wp2_with fail
              go_roundw
              case rel => exact ⟨k + 1, by omega, by go_num, by first | rfl | trivial, HE⟩
              case measure => simp [intOf]; omega
            · obtain rfl : k = l.length := by omega
              have hd : decide ((l.length : Int) < (l.length : Int)) = false := decide_eq_false (by omega)
              have hdn : decide (l.length < l.length) = false := decide_eq_false (by omega)
              have HL := Lib.hid (show anyM lateM l = false by rw [← HR.out, List.drop_length]; rfl)
              have HE3 := Lib.hid (show formE l = _ by rw [HE2.out, HL.out, if_neg (by decide)])
              clear HR HE2 HL
              go_wp2_with fail
              go_loopw [8] (fun v wr => ∃ k : Nat, k ≤ l.length + 1 ∧ 1 ≤ k ∧ v = .int .i64 (k : Int) ∧ Below w.heap.size w wr ∧ Hid (backF (l.drop (k - 1)) = backF l)) (fun v _ => l.length + 1 - (intOf v).toNat)
              case atStart => exact ⟨1, by omega, by omega, rfl, HB.out, rfl⟩
              case round =>
                obtain ⟨k, hk, hk1, rfl, hbl, HR⟩ := hrel
                by_cases hlt : k < l.length
                · have hd : decide ((k : Int) < (l.length : Int)) = true := decide_eq_true (by omega)
                  have hdn : decide (k < l.length) = true := decide_eq_true hlt
                  obtain ⟨g, ff, rfl, hg, hcs⟩ := HC.out.resolve_left (by intro e; rw [e] at hlt; simp at hlt)
                  obtain ⟨-, -, -, a3, -⟩ := (hcs k hlt).later (hbl.block g hg)
                  obtain ⟨-, -, -, b3, -⟩ := (hcs (k - 1) (by omega)).later (hbl.block g hg)
                  have HBK := Lib.hid (back_at hk1 hlt)
                  clear hcs
                  obtain ⟨x, hx⟩ : ∃ x, (l[k]).time = x := ⟨_, rfl⟩
                  obtain ⟨y, hy⟩ : ∃ y, (l[k - 1]).time = y := ⟨_, rfl⟩
                  rw [hx] at a3 HBK
                  rw [hy] at b3 HBK
                  clear hx hy
                  have hw2 : IntKind.i64.wrap ((k : Int) - 1) = (k : Int) - 1 := IntWalk.i64_in _ (by omega)
                  have hw3 : ((k : Int) - 1).toNat = k - 1 := by omega
                  have hw4 : (0 : Int) ≤ (k : Int) - 1 := by omega
                  have hw5 : k - 1 < l.length := by omega
                  by_cases hxy : x < y
                  · have e1 : decide (x < y) = true := decide_eq_true hxy
                    have HE := Lib.hid (show formE l = 11 by rw [HE3.out, ← HR.out, HBK.out, e1]; rfl)
                    go_wp2_with fail
                    go_quiet (fail)
                    go_wp2_with fail
                    go_ret
                    exact ⟨ret_int HE.out.symm, below_drewN hbl _⟩
                  · have e1 : decide (x < y) = false := decide_eq_false hxy
                    have HE := Lib.hid (show backF (l.drop (k + 1 - 1)) = backF l by rw [← HR.out, HBK.out, e1, Nat.add_sub_cancel]; rfl)
                    go_wp2_with fail
                    go_quiet (fail)
                    clear hw2 hw3
                    go_wp2_with fail
                    go_roundw
                    case rel => exact ⟨k + 1, by omega, by omega, by go_num, below_drewN hbl _, HE⟩
                    case measure => simp [intOf]; omega
                · have hd : decide ((k : Int) < (l.length : Int)) = false := decide_eq_false (by omega)
                  have hdn : decide (k < l.length) = false := decide_eq_false (by omega)
                  have HE := Lib.hid (show formE l = 0 by
                    rw [HE3.out, ← HR.out]
                    have : backF (l.drop (k - 1)) = false := by
                      rcases Nat.lt_or_ge (k - 1) l.length with h | h
                      · rw [List.drop_eq_getElem_cons h, List.drop_eq_nil_of_le (by omega)]; rfl
                      · rw [List.drop_eq_nil_of_le h]; rfl
                    rw [this]; rfl)
                  go_wp2_with fail
                  go_ret
                  exact ⟨ret_int HE.out.symm, hbl⟩
end Go.Proofs.YthmpcdjhighhgaaGreatDoor
namespace Go.Proofs.YthmpcdjhighhgaaGreatDoor
set_option linter.unusedVariables false
set_option linter.unusedSimpArgs false
set_option maxRecDepth 100000
open Go.RowKit
open Go.Maps (Keyed)
theorem cell_lt {w : World} {B j : Nat} {v : Value} (h : w.cell? ⟨B, j, none⟩ = some v) : B < w.heap.size := by
  rcases Nat.lt_or_ge B w.heap.size with h1 | h1
  · exact h1
  · simp [World.cell?, Array.getElem?_eq_none h1] at h
/-- A map of the numbers that were posted; one of those that stand. -/
def SaysP (F : Lit → Option Value) (f : Int → Option Bool) : Prop := ∀ x, F (.int .i64 x) = if (f x).isSome then some (.bool true) else none
theorem SaysP.put {F : Lit → Option Value} {f : Int → Option Bool} (h : SaysP F f) (k : Int) (b : Bool) : SaysP (updV F (.int .i64 k) (some (.bool true))) (upd f k (some b)) := by
  intro x
  unfold updV upd
  by_cases e : x = k
  · subst e; rw [if_pos (by simp [Lit.sameKey]), if_pos rfl]; rfl
  · rw [if_neg (by simp [Lit.sameKey, e]), if_neg e]; exact h x
/-- Two stores into two maps of the call's own, in either order. -/
theorem two_puts {P : Program} {k e t : TypeId} {b1 b2 n : Nat} {F G : Lit → Option Value} {w : World} (K : Keyed P k) (ht : P.underlying t = some (.map k e)) (h1 : MV P k b1 n F w) (h2 : MV P k b2 n G w) (hne : b1 ≠ b2) (hn : n < maxLen) {key : Value} {x : Lit} (hkey : keyOf P k key = some x) (hx : WideAt.IsKeyLit x) (v1 v2 : Value) :
    ∃ u1 u12 u2 u21 : World, (Instr.mapUpdate t (.map (some b1)) key v1).run P w = .ok () u1 ∧ (Instr.mapUpdate t (.map (some b2)) key v2).run P u1 = .ok () u12 ∧ (Instr.mapUpdate t (.map (some b2)) key v2).run P w = .ok () u2 ∧ (Instr.mapUpdate t (.map (some b1)) key v1).run P u2 = .ok () u21 ∧
      w.grownBy u1 (some b1) ∧ w.grownBy u2 (some b2) ∧
      (MV P k b1 (n + 1) (updV F x (some v1)) u12 ∧ MV P k b2 (n + 1) (updV G x (some v2)) u12 ∧ u1.grownBy u12 (some b2)) ∧
      (MV P k b1 (n + 1) (updV F x (some v1)) u21 ∧ MV P k b2 (n + 1) (updV G x (some v2)) u21 ∧ u2.grownBy u21 (some b1)) := by
  obtain ⟨u1, r1, m1, g1⟩ := h1.put K ht hn hkey hx v1
  have h2' : MV P k b2 n G u1 := h2.kept (g1.block b2 h2.lt (by intro e; cases e; exact hne rfl))
  obtain ⟨u12, r12, m12, g12⟩ := h2'.put K ht hn hkey hx v2
  obtain ⟨u2, r2, m2, g2⟩ := h2.put K ht hn hkey hx v2
  have h1' : MV P k b1 n F u2 := h1.kept (g2.block b1 h1.lt (by intro e; cases e; exact hne rfl))
  obtain ⟨u21, r21, m21, g21⟩ := h1'.put K ht hn hkey hx v1
  exact ⟨u1, u12, u2, u21, r1, r12, r2, r21, g1, g2, ⟨m1.kept (g12.block b1 m1.lt (by intro e; cases e; exact hne rfl)), m12, g12⟩, ⟨m21, m2.kept (g21.block b2 m2.lt (by intro e; cases e; exact hne rfl)), g21⟩⟩
set_option maxHeartbeats 8000000 in
theorem valid_ref17 (v : Value) (l : List Ms) (w : World) (h : MC v l w) (hs : Small l) :
    Calls Tryz.prog 8 #[v] w fun e w' => e = .returned (.int .i64 (errM l)) ∧ Below w.heap.size w w' := by
  have K : Keyed Tryz.prog 3 := Maps.int_keyed Tryz.underlying3
  have hz : ∀ w, (zeroValue 4).run Tryz.prog w = .ok (.bool false) w := fun _ => by kernel_rfl
  have FO := form_ref v l w h hs
  have HF := Lib.hid (errM_form l)
  have H := Lib.hid h
  have hmm := @run_makeMap Tryz.prog
  by_cases h0 : formE l = 0
  · rw [h0] at FO
    have HE := Lib.hid (show errM l = folF l (fun _ => none) by rw [HF.out, if_pos h0])
    have HI : ∀ m ∈ l, 1 ≤ m.id ∧ m.id ≤ 1073741824 := by
      have ha : anyM wrongM l = false := by
        unfold formE at h0
        split at h0
        · cases h0
        · split at h0
          · cases h0
          · rename_i hx; simpa using hx
      exact fun m hm => by have := wrongM_no (anyM_no.1 ha m hm); omega
    have HID := Lib.hid HI
    have hl := hs.1
    have HFO := Lib.hid FO
    clear h0 HI FO hs
    obtain ⟨A, c, rfl, hc, hcell⟩ := h
    clear hcell
    go_enter Tryz.func8, Tryz.ntmps8
    go_wp2_with fail
    refine HFO.out.mono ?_
    rintro e w0 ⟨rfl, hb0⟩
    have HMC := Lib.hid (H.out.later hb0 (Nat.le_refl _))
    go_wp2_with fail
    have hM1 : MV Tryz.prog 3 w0.heap.size 0 (fun _ => none) ((w0.alloc (Obj.map #[] 0)).alloc (Obj.map #[] 0)) := (MV.made Tryz.prog 3 w0).kept (Below.heap_alloc _ _ _ (by simp))
    have hM2 : MV Tryz.prog 3 (w0.heap.size + 1) 0 (fun _ => none) ((w0.alloc (Obj.map #[] 0)).alloc (Obj.map #[] 0)) := by
      have := MV.made Tryz.prog 3 (w0.alloc (Obj.map #[] 0)); rw [show (w0.alloc (Obj.map #[] 0)).heap.size = w0.heap.size + 1 by simp] at this; exact this
    have hbb : Below w.heap.size w ((w0.alloc (Obj.map #[] 0)).alloc (Obj.map #[] 0)) := (hb0.alloc hb0.size _).alloc (by have := hb0.size; simp; omega) _
    have hsz := hb0.size
    have HMC2 := Lib.hid (show MC (.slice A l.length c) l ((w0.alloc (Obj.map #[] 0)).alloc (Obj.map #[] 0)) from (HMC.out.later (((Below.refl _ w0).alloc (Nat.le_refl _) _).alloc (by simp) _) (Nat.le_refl _)))
    obtain ⟨A', c', hv, -, hcell⟩ := H.out
    injection hv with hv1 hv2 hv3
    rw [← hv1] at hcell
    have HC := Lib.hid hcell
    generalize (w0.alloc (Obj.map #[] 0)).alloc (Obj.map #[] 0) = W0 at *
    generalize w0.heap.size = b at *
    clear hcell hv1 hv2 hv3 hmm HMC HMC2 hb0
    go_loopw [6] (fun v wr => ∃ (k n : Nat) (f : Int → Option Bool) (F G : Lit → Option Value), k ≤ l.length ∧ v = .int .i64 (k : Int) ∧ MV Tryz.prog 3 b n F wr ∧ MV Tryz.prog 3 (b + 1) n G wr ∧ n ≤ k ∧ Hid (SaysP F f) ∧ Hid (SaysB G f) ∧ Below w.heap.size w wr ∧ Hid (folF (l.drop k) f = folF l (fun _ => none))) (fun v _ => l.length - (intOf v).toNat)
    case atStart => exact ⟨0, 0, fun _ => none, _, _, by omega, rfl, hM1, hM2, by omega, fun _ => rfl, fun _ => rfl, hbb, rfl⟩
    case round =>
      clear hM1 hM2 hbb
      obtain ⟨k, n, f, F, G, hk, rfl, hm1, hm2, hn, HP, HS, hbel, HR⟩ := hrel
      by_cases hlt : k < l.length
      · have hd : decide ((k : Int) < (l.length : Int)) = true := decide_eq_true (by omega)
        have hdn : decide (k < l.length) = true := decide_eq_true hlt
        obtain ⟨g, ff, rfl, hg, hcs⟩ := HC.out.resolve_left (by intro e; rw [e] at hlt; simp at hlt)
        obtain ⟨a0, a1, a2, a3, a4⟩ := (hcs k hlt).later (hbel.block g hg)
        have hii := HID.out l[k] (List.getElem_mem hlt)
        have HDR := Lib.hid (List.drop_eq_getElem_cons hlt)
        clear hcs
        obtain ⟨m, hm⟩ : ∃ m, l[k] = m := ⟨_, rfl⟩
        rw [hm] at a0 a1 a2 a3 a4 hii HDR
        clear hm
        obtain ⟨kd, id, who, tm, tx⟩ := m
        dsimp only at a0 a1 a2 a3 a4 hii
        have HFF := Lib.hid (show folF (⟨kd, id, who, tm, tx⟩ :: l.drop (k + 1)) f = folF l (fun _ => none) by rw [← HDR.out]; exact HR.out)
        obtain ⟨W1, hW1⟩ : ∃ W1, W1 = wr.alloc (Obj.cells #[.int .i64 kd, .int .i64 id, .string (bs who), .int .i64 tm, .string (bs tx)] 28) := ⟨_, rfl⟩
        have hq1 : MV Tryz.prog 3 b n F W1 := by rw [hW1]; exact hm1.kept (Below.heap_alloc _ _ _ hm1.lt)
        have hq2 : MV Tryz.prog 3 (b + 1) n G W1 := by rw [hW1]; exact hm2.kept (Below.heap_alloc _ _ _ hm2.lt)
        have hbel1 : Below w.heap.size w W1 := by rw [hW1]; exact hbel.alloc hbel.size _
        have c0 : W1.cell? ⟨wr.heap.size, 0, none⟩ = some (.int .i64 kd) := by rw [hW1, World.cell?_alloc_mark]; rfl
        have c1 : W1.cell? ⟨wr.heap.size, 1, none⟩ = some (.int .i64 id) := by rw [hW1, World.cell?_alloc_mark]; rfl
        have hkl := key_int (P := Tryz.prog) Tryz.underlying3 id (by omega) (by omega)
        have hnm : n < maxLen := by unfold maxLen; omega
        have hl1 := hq1.look K Tryz.underlying57 hz hkl trivial
        have hl2 := hq2.look K Tryz.underlying57 hz hkl trivial
        rw [HP.out id] at hl1
        rw [HS.out id] at hl2
        have hbl := hm1.lt
        have hbl2 := hm2.lt
        have HWW := Lib.hid hW1
        have HQ := Lib.hid (And.intro hq1 (And.intro hq2 hbel1))
        have HK0 := Lib.hid (And.intro c0 c1)
        clear hq1 hq2 hm1 hm2 hbel1 hbel c0 c1 HDR hW1
        by_cases h1 : kd = 1
        · have d1 : (kd == 1) = true := by simpa using h1
          have d1n : (kd != 1) = false := by simpa using h1
          have d3 : (kd != 3) = true := by simp [h1]
          cases hf : f id with
          | some bb =>
            have HX := Lib.hid (show errM l = 7 by rw [HE.out, ← HFF.out, folF, if_pos ⟨h1, by rw [hf]; simp⟩])
            rw [hf] at hl1
            simp only [Option.isSome_some, if_true, Option.getD_some] at hl1
            have HBL := Lib.hid (show Below w.heap.size w (wr.alloc (Obj.cells #[.int .i64 kd, .int .i64 id, .string (bs who), .int .i64 tm, .string (bs tx)] 28)) by rw [← HWW.out]; exact HQ.out.2.2)
            rw [HWW.out] at hl1
            clear hl2 hf h1 HQ HK0
            go_wp2_with fail
            go_ret
            exact ⟨ret_int HX.out.symm, HBL.out⟩
          | none =>
            have HE2 := Lib.hid (show folF (l.drop (k + 1)) (upd f id (some true)) = folF l (fun _ => none) by rw [← HFF.out, folF_cons _ _ _ (fun h => h.2 hf) (fun h => h.1 h1) true (by simp [h1])])
            rw [hf] at hl1
            simp only [Option.isSome_none, Option.getD_none] at hl1
            rw [if_neg (by decide), Option.getD_none] at hl1
            rw [HWW.out] at hl1
            clear hl2 hf h1
            have hl2 : True := trivial
            go_wp2_with fail
            rw [← HWW.out]
            obtain ⟨u1, u12, u2, u21, r1, r12, r2, r21, gr1, gr2, ⟨p1, p2, p3⟩, ⟨s1, s2, s3⟩⟩ := two_puts (w := W1.drew) K Tryz.underlying57 (HQ.out.1.kept rfl) (HQ.out.2.1.kept rfl) (by omega) hnm hkl trivial (.bool true) (.bool true)
            obtain ⟨c0, c1⟩ := HK0.out
            have hRl : wr.heap.size < W1.drew.heap.size := cell_lt c0
            have e0 : u1.cell? ⟨wr.heap.size, 0, none⟩ = some (.int .i64 kd) := (World.cell?_of_block (gr1.block wr.heap.size hRl (by intro e; injection e with e; omega))).trans c0
            have e1 : u1.cell? ⟨wr.heap.size, 1, none⟩ = some (.int .i64 id) := (World.cell?_of_block (gr1.block wr.heap.size hRl (by intro e; injection e with e; omega))).trans c1
            have f0 : u2.cell? ⟨wr.heap.size, 0, none⟩ = some (.int .i64 kd) := (World.cell?_of_block (gr2.block wr.heap.size hRl (by intro e; injection e with e; omega))).trans c0
            have f1 : u2.cell? ⟨wr.heap.size, 1, none⟩ = some (.int .i64 id) := (World.cell?_of_block (gr2.block wr.heap.size hRl (by intro e; injection e with e; omega))).trans c1
            have hbd := HQ.out.2.2.drew
            have hbA : Below w.heap.size w u12 := (hbd.grown gr1 hbd.size (by intro r hr; cases hr; omega)).grown p3 (Nat.le_trans hbd.size gr1.size) (by intro r hr; cases hr; omega)
            have hbB : Below w.heap.size w u21 := (hbd.grown gr2 hbd.size (by intro r hr; cases hr; omega)).grown s3 (Nat.le_trans hbd.size gr2.size) (by intro r hr; cases hr; omega)
            have HA := Lib.hid (And.intro p1 (And.intro p2 hbA))
            have HB := Lib.hid (And.intro s1 (And.intro s2 hbB))
            clear p1 p2 p3 s1 s2 s3 gr1 gr2 hbA hbB hbd hl1 hl2 HQ HK0 HWW
            go_region
            all_goals
              go_wp2_with fail
              go_roundw
              · first
                  | exact ⟨k + 1, n + 1, _, _, _, by omega, by go_num, HA.out.1, HA.out.2.1, by omega, HP.out.put id true, HS.out.put id true, HA.out.2.2, HE2⟩
                  | exact ⟨k + 1, n + 1, _, _, _, by omega, by go_num, HB.out.1, HB.out.2.1, by omega, HP.out.put id true, HS.out.put id true, HB.out.2.2, HE2⟩
              · simp [intOf]; omega
        · have d1 : (kd == 1) = false := by simpa using h1
          have d1n : (kd != 1) = true := by simpa using h1
          by_cases hf : f id = some true
          · rw [hf] at hl2
            simp only [Option.map_some, Option.getD_some] at hl2
            rw [HWW.out] at hl2
            have GG := Lib.hid (fun b (hb : b = decide (kd ≠ 3)) => (folF_cons ⟨kd, id, who, tm, tx⟩ (l.drop (k + 1)) f (fun h => h1 h.1) (fun h => h.2 hf) b hb).symm.trans HFF.out)
            clear hl1 hf h1
            have hl1 : True := trivial
            by_cases h3 : kd = 3
            · have d3 : (kd != 3) = false := by simpa using h3
              have HE2 := Lib.hid (GG.out false (by simp [h3]))
              clear h3
              go_wp2_with fail
              rw [← HWW.out]
              obtain ⟨u1, u12, u2, u21, r1, r12, r2, r21, gr1, gr2, ⟨p1, p2, p3⟩, ⟨s1, s2, s3⟩⟩ := two_puts (w := W1.drew) K Tryz.underlying57 (HQ.out.1.kept rfl) (HQ.out.2.1.kept rfl) (by omega) hnm hkl trivial (.bool true) (.bool false)
              obtain ⟨c0, c1⟩ := HK0.out
              have hRl : wr.heap.size < W1.drew.heap.size := cell_lt c0
              have e0 : u1.cell? ⟨wr.heap.size, 0, none⟩ = some (.int .i64 kd) := (World.cell?_of_block (gr1.block wr.heap.size hRl (by intro e; injection e with e; omega))).trans c0
              have e1 : u1.cell? ⟨wr.heap.size, 1, none⟩ = some (.int .i64 id) := (World.cell?_of_block (gr1.block wr.heap.size hRl (by intro e; injection e with e; omega))).trans c1
              have f0 : u2.cell? ⟨wr.heap.size, 0, none⟩ = some (.int .i64 kd) := (World.cell?_of_block (gr2.block wr.heap.size hRl (by intro e; injection e with e; omega))).trans c0
              have f1 : u2.cell? ⟨wr.heap.size, 1, none⟩ = some (.int .i64 id) := (World.cell?_of_block (gr2.block wr.heap.size hRl (by intro e; injection e with e; omega))).trans c1
              have hbd := HQ.out.2.2.drew
              have hbA : Below w.heap.size w u12 := (hbd.grown gr1 hbd.size (by intro r hr; cases hr; omega)).grown p3 (Nat.le_trans hbd.size gr1.size) (by intro r hr; cases hr; omega)
              have hbB : Below w.heap.size w u21 := (hbd.grown gr2 hbd.size (by intro r hr; cases hr; omega)).grown s3 (Nat.le_trans hbd.size gr2.size) (by intro r hr; cases hr; omega)
              have HA := Lib.hid (And.intro p1 (And.intro p2 hbA))
              have HB := Lib.hid (And.intro s1 (And.intro s2 hbB))
              clear p1 p2 p3 s1 s2 s3 gr1 gr2 hbA hbB hbd hl1 hl2 HQ HK0 HWW
              go_region
              all_goals
                go_wp2_with fail
                go_roundw
                · first
                    | exact ⟨k + 1, n + 1, _, _, _, by omega, by go_num, HA.out.1, HA.out.2.1, by omega, HP.out.put id false, HS.out.put id false, HA.out.2.2, HE2⟩
                    | exact ⟨k + 1, n + 1, _, _, _, by omega, by go_num, HB.out.1, HB.out.2.1, by omega, HP.out.put id false, HS.out.put id false, HB.out.2.2, HE2⟩
                · simp [intOf]; omega
            · have d3 : (kd != 3) = true := by simpa using h3
              have HE2 := Lib.hid (GG.out true (by simp [h3]))
              clear h3
              go_wp2_with fail
              rw [← HWW.out]
              obtain ⟨u1, u12, u2, u21, r1, r12, r2, r21, gr1, gr2, ⟨p1, p2, p3⟩, ⟨s1, s2, s3⟩⟩ := two_puts (w := W1.drew) K Tryz.underlying57 (HQ.out.1.kept rfl) (HQ.out.2.1.kept rfl) (by omega) hnm hkl trivial (.bool true) (.bool true)
              obtain ⟨c0, c1⟩ := HK0.out
              have hRl : wr.heap.size < W1.drew.heap.size := cell_lt c0
              have e0 : u1.cell? ⟨wr.heap.size, 0, none⟩ = some (.int .i64 kd) := (World.cell?_of_block (gr1.block wr.heap.size hRl (by intro e; injection e with e; omega))).trans c0
              have e1 : u1.cell? ⟨wr.heap.size, 1, none⟩ = some (.int .i64 id) := (World.cell?_of_block (gr1.block wr.heap.size hRl (by intro e; injection e with e; omega))).trans c1
              have f0 : u2.cell? ⟨wr.heap.size, 0, none⟩ = some (.int .i64 kd) := (World.cell?_of_block (gr2.block wr.heap.size hRl (by intro e; injection e with e; omega))).trans c0
              have f1 : u2.cell? ⟨wr.heap.size, 1, none⟩ = some (.int .i64 id) := (World.cell?_of_block (gr2.block wr.heap.size hRl (by intro e; injection e with e; omega))).trans c1
              have hbd := HQ.out.2.2.drew
              have hbA : Below w.heap.size w u12 := (hbd.grown gr1 hbd.size (by intro r hr; cases hr; omega)).grown p3 (Nat.le_trans hbd.size gr1.size) (by intro r hr; cases hr; omega)
              have hbB : Below w.heap.size w u21 := (hbd.grown gr2 hbd.size (by intro r hr; cases hr; omega)).grown s3 (Nat.le_trans hbd.size gr2.size) (by intro r hr; cases hr; omega)
              have HA := Lib.hid (And.intro p1 (And.intro p2 hbA))
              have HB := Lib.hid (And.intro s1 (And.intro s2 hbB))
              clear p1 p2 p3 s1 s2 s3 gr1 gr2 hbA hbB hbd hl1 hl2 HQ HK0 HWW
              go_region
              all_goals
                go_wp2_with fail
                go_roundw
                · first
                    | exact ⟨k + 1, n + 1, _, _, _, by omega, by go_num, HA.out.1, HA.out.2.1, by omega, HP.out.put id true, HS.out.put id true, HA.out.2.2, HE2⟩
                    | exact ⟨k + 1, n + 1, _, _, _, by omega, by go_num, HB.out.1, HB.out.2.1, by omega, HP.out.put id true, HS.out.put id true, HB.out.2.2, HE2⟩
                · simp [intOf]; omega
          · have HX := Lib.hid (show errM l = 6 by rw [HE.out, ← HFF.out, folF, if_neg (fun h => h1 h.1), if_pos ⟨h1, hf⟩])
            have hl3 : (Instr.lookup 57 (.map (some (b + 1))) (.int .i64 id) false).run Tryz.prog W1 = .ok (.bool false) W1 := by
              rw [hl2]
              cases hg : f id with
              | none => rfl
              | some x => cases x with
                | true => exact absurd hg hf
                | false => rfl
            rw [HWW.out] at hl3
            have HBL := Lib.hid (show Below w.heap.size w (wr.alloc (Obj.cells #[.int .i64 kd, .int .i64 id, .string (bs who), .int .i64 tm, .string (bs tx)] 28)) by rw [← HWW.out]; exact HQ.out.2.2)
            clear hl1 hl2 hf h1 HQ HK0
            go_wp2_with fail
            go_ret
            exact ⟨ret_int HX.out.symm, HBL.out⟩
      · obtain rfl : k = l.length := by omega
        have hd : decide ((l.length : Int) < (l.length : Int)) = false := decide_eq_false (by omega)
        have hdn : decide (l.length < l.length) = false := decide_eq_false (by omega)
        have HX := Lib.hid (show errM l = 0 by rw [HE.out, ← HR.out, List.drop_length]; rfl)
        go_wp2_with fail
        go_ret
        exact ⟨ret_int HX.out.symm, hbel⟩
  · obtain ⟨x, hx⟩ : ∃ x, formE l = x := ⟨_, rfl⟩
    have HE := Lib.hid (show errM l = x by rw [HF.out, if_neg h0, hx])
    have hne : (x != 0) = true := by rw [hx] at h0; simpa using h0
    rw [hx] at FO
    have HFO := Lib.hid FO
    clear h0 hx FO
    go_enter Tryz.func8, Tryz.ntmps8
    go_wp2_with fail
    refine HFO.out.mono ?_
    rintro e w1 ⟨rfl, hb1⟩
    go_wp2_with fail
    go_ret
    exact ⟨ret_int HE.out.symm, hb1⟩
end Go.Proofs.YthmpcdjhighhgaaGreatDoor
namespace Go.Proofs.YthmpcdjhighhgaaGreatDoor
set_option linter.unusedVariables false
set_option linter.unusedSimpArgs false
set_option maxRecDepth 100000
open Go.RowKit
end Go.Proofs.YthmpcdjhighhgaaGreatDoor
namespace Go.Proofs.YthmpcdjhighhgaaGreatDoor
set_option linter.unusedVariables false
set_option linter.unusedSimpArgs false
set_option maxRecDepth 100000
open Go.RowKit
/-- A byte of a name: a small letter, a digit, '-'. -/
def srcC (c : Int) : Bool := (decide (97 ≤ c) && decide (c ≤ 122)) || ((decide (48 ≤ c) && decide (c ≤ 57)) || c == 45)
def srcF : List UInt8 → Bool
  | [] => true
  | c :: r => srcC (c.toNat : Int) && srcF r
def srcOK (l : List UInt8) : Bool := srcF l && (decide (1 ≤ l.length) && decide (l.length ≤ 40))
theorem srcF_cons {u : UInt8} {c : Int} {r : List UInt8} (hc : c = u.toNat) : srcF (u :: r) = (srcC c && srcF r) := by subst hc; rfl
theorem src_eq (s : ByteArray) (h : srcF (bl s) = true) (b c : Bool) (hb : b = decide (1 ≤ s.size)) (hc : c = decide (s.size ≤ 40)) : (b && c) = srcOK (bl s) := by unfold srcOK; rw [h, hb, hc, size_list]; rfl
theorem src_no (s : ByteArray) (h : srcF (bl s) = false) : false = srcOK (bl s) := by unfold srcOK; rw [h]; rfl
set_option maxHeartbeats 1000000 in
theorem srcNamed_any (s : ByteArray) (w : World) (hs : s.size ≤ 1000000) : Calls Tryz.prog 19 #[.string s] w fun e w' => e = .returned (.bool (srcOK (bl s))) ∧ Below w.heap.size w w' := by
  have hcv := fun w => Lib.run_convert_string_bytes (P := Tryz.prog) w 9 30 5 s Tryz.underlying9 Tryz.underlying30 Tryz.underlying5
  obtain ⟨W, C, B, hW, hC, hB, hcell, hbel, -⟩ := conv_names w 5 s
  go_enter Tryz.func19, Tryz.ntmps19
  go_wp2
  rw [← hW, ← hC, ← hB]
  clear hcv hW hC
  have hBw := Lib.hid hB; clear hB
  go_loop [4, 8] (fun _ i => ∃ k : Nat, k ≤ s.size ∧ i = .int .i64 (k : Int) ∧ Hid (srcF ((bl s).drop k) = srcF (bl s))) (fun _ i => s.size - (intOf i).toNat)
  case atStart => exact ⟨0, Nat.zero_le _, rfl, rfl⟩
  case round =>
    obtain ⟨k, hk, rfl, HR⟩ := hrel
    by_cases hlt : k < s.size
    · obtain ⟨u, c, hcu, hc0, hc1, hc, hdr⟩ := byte_of hcell k hlt
      have HD := Lib.hid (show srcF (bl s) = (srcC c && srcF ((bl s).drop (k + 1))) by rw [← HR.out, hdr.out, srcF_cons hcu.out])
      cases hn : srcC c with
      | true =>
        have HN := Lib.hid (show srcF ((bl s).drop (k + 1)) = srcF (bl s) by rw [HD.out, hn]; rfl)
        have hcase : (97 ≤ c ∧ c ≤ 122) ∨ (48 ≤ c ∧ c ≤ 57) ∨ c = 45 := by unfold srcC at hn; simp at hn; omega
        clear hn HD
        rcases hcase with ⟨h1, h2⟩ | ⟨h1, h2⟩ | rfl
        · have d1 : decide (c < 97) = false := decide_eq_false (by omega)
          have d2 : decide (122 < c) = false := decide_eq_false (by omega)
          go_wp2
          go_round
          case rel => exact ⟨k + 1, by omega, by go_num, HN⟩
          case measure => simp [intOf]; omega
        · have d1 : decide (c < 97) = true := decide_eq_true (by omega)
          have d3 : decide (c < 48) = false := decide_eq_false (by omega)
          have d4 : decide (57 < c) = false := decide_eq_false (by omega)
          go_wp2
          go_round
          case rel => exact ⟨k + 1, by omega, by go_num, HN⟩
          case measure => simp [intOf]; omega
        · go_wp2
          go_round
          case rel => exact ⟨k + 1, by omega, by go_num, HN⟩
          case measure => simp [intOf]; omega
      | false =>
        have HN := Lib.hid (show srcF (bl s) = false by rw [HD.out, hn]; rfl)
        have hcase : ¬ (97 ≤ c ∧ c ≤ 122) ∧ ¬ (48 ≤ c ∧ c ≤ 57) ∧ ¬ c = 45 := by unfold srcC at hn; simp at hn; omega
        obtain ⟨g1, g2, g3⟩ := hcase
        clear hn HD
        have d5 : (c == 45) = false := by simpa using g3
        have d6 : (c != 45) = true := by simpa using g3
        by_cases h1 : c < 48
        · have d1 : decide (c < 97) = true := decide_eq_true (by omega)
          have d3 : decide (c < 48) = true := decide_eq_true h1
          clear g1 g2 g3
          go_wp2
          go_ret
          exact ⟨ret_bool (src_no s HN.out), hBw.out ▸ hbel⟩
        · have d3 : decide (c < 48) = false := decide_eq_false h1
          have d4 : decide (57 < c) = true := decide_eq_true (by omega)
          by_cases h2 : c < 97
          · have d1 : decide (c < 97) = true := decide_eq_true h2
            clear g1 g2 g3
            go_wp2
            go_ret
            exact ⟨ret_bool (src_no s HN.out), hBw.out ▸ hbel⟩
          · have d1 : decide (c < 97) = false := decide_eq_false h2
            have d2 : decide (122 < c) = true := decide_eq_true (by omega)
            clear g1 g2 g3
            go_wp2
            go_ret
            exact ⟨ret_bool (src_no s HN.out), hBw.out ▸ hbel⟩
    · obtain rfl : k = s.size := by omega
      have HN := Lib.hid (show srcF (bl s) = true by rw [← HR.out, drop_all]; rfl)
      by_cases h1 : 1 ≤ s.size
      · have e1 : decide (1 ≤ (s.size : Int)) = true := decide_eq_true (by omega)
        have e1n : decide (1 ≤ s.size) = true := decide_eq_true h1
        have H1 := Lib.hid e1n
        go_wp2
        go_ret
        exact ⟨ret_bool (by rw [← src_eq s HN.out true _ H1.out.symm rfl, Bool.true_and]; first | rfl | (rw [decide_eq_decide]; omega)), hBw.out ▸ hbel⟩
      · have e1 : decide (1 ≤ (s.size : Int)) = false := decide_eq_false (by omega)
        have e1n : decide (1 ≤ s.size) = false := decide_eq_false h1
        have H1 := Lib.hid e1n
        go_wp2
        go_ret
        exact ⟨ret_bool (by rw [← src_eq s HN.out false _ H1.out.symm rfl, Bool.false_and]), hBw.out ▸ hbel⟩
/-- A source without a pack and references, of one of the other kinds. -/
theorem srcRight_any (s : ByteArray) (k : Int) (A : Option Addr) (n c : Nat) (w : World) (h1 : 1 < k) (h2 : k ≤ 4) : Calls Tryz.prog 20 #[.agg #[.string s, .int .i64 k, .slice none 0 0, .slice none 0 0, .slice A n c]] w fun e w' => e = .returned (.bool true) ∧ Below w.heap.size w w' := by
  have d0 : (k == 1) = false := by simp; omega
  have d1 : decide (1 < k) = true := decide_eq_true h1
  have d2 : decide (k ≤ 4) = true := decide_eq_true h2
  go_enter Tryz.func20, Tryz.ntmps20
  go_wp2
  go_ret
  exact ⟨rfl, (Below.refl _ _).alloc (Nat.le_refl _) _⟩
end Go.Proofs.YthmpcdjhighhgaaGreatDoor
