/- Walks of the reference's kinds of bytes, of cut and of same. -/
import Derived.Test.YtpfldcfnbgdceaaDoorRunC
import Derived.Test.YtpfldcfnbgdceaaDoorCodK
namespace Go.Proofs.YtpfldcfnbgdceaaDoor
set_option linter.unusedVariables false
set_option linter.unusedSimpArgs false
set_option maxRecDepth 100000
open Go.RowKit
def belP (c : Nat) : Int → Bool := if c = 1 then hexP else if c = 2 then sgnP else visP
def cutR (c : Nat) (l : List UInt8) (f t : Nat) : Nat := if c = 1 then cut1 f t else if c = 2 then cut2 l f t else t
theorem belongs_any (c : Nat) (hc : vldC c = true) (x : Int) (w : World) (h0 : 0 ≤ x) (h1 : x < 256) : Calls Tryd.prog 67 #[.int .i64 (c : Int), .int .u8 x] w fun e w' => e = .returned (.bool (belP c x)) ∧ w = w' := by
  have hc4 : c = 1 ∨ c = 2 ∨ c = 3 ∨ c = 4 := by unfold vldC at hc; simp at hc; omega
  clear hc
  rcases hc4 with rfl | rfl | hc4
  · obtain ⟨v, hv⟩ : ∃ v, hexv x = v := ⟨_, rfl⟩
    have A := fun w => cdigit_ref x w h0 h1
    rw [hv] at A
    have HV := Lib.hid hv; clear hv
    go_enter Tryd.func67, Tryd.ntmps67
    go_wp2_with (go_at_call 73; refine (A _).mono ?_; rintro e w1 ⟨rfl, rfl⟩)
    go_ret
    exact ⟨ret_bool (by unfold belP hexP; rw [if_pos rfl, HV.out]), rfl⟩
  · obtain ⟨v, hv⟩ : ∃ v, sgnV x = v := ⟨_, rfl⟩
    have A := fun w => csign_ref x w h0 h1
    rw [hv] at A
    have HV := Lib.hid hv; clear hv
    go_enter Tryd.func67, Tryd.ntmps67
    go_wp2_with (go_at_call 74; refine (A _).mono ?_; rintro e w1 ⟨rfl, rfl⟩)
    go_ret
    exact ⟨ret_bool (by unfold belP sgnP; rw [if_neg (by decide), if_pos rfl, HV.out]), rfl⟩
  · have hb1 : ((c : Int) == 1) = false := beq_eq_false_iff_ne.2 (by omega)
    have hb2 : ((c : Int) == 2) = false := beq_eq_false_iff_ne.2 (by omega)
    have hc1 : ¬ (c : Int) = 1 := by omega
    have hc2 : ¬ (c : Int) = 2 := by omega
    have HB := Lib.hid (show belP c x = visP x by unfold belP; rw [if_neg (by omega), if_neg (by omega)])
    clear hc4
    by_cases h : 33 ≤ x
    · have hd : decide (33 ≤ x) = true := decide_eq_true h
      go_enter Tryd.func67, Tryd.ntmps67
      go_wp2
      go_ret
      exact ⟨ret_bool (by rw [HB.out]; unfold visP; rw [hd]; rfl), rfl⟩
    · have hd : decide (33 ≤ x) = false := decide_eq_false h
      go_enter Tryd.func67, Tryd.ntmps67
      go_wp2
      go_ret
      exact ⟨ret_bool (by rw [HB.out]; unfold visP; rw [hd]; rfl), rfl⟩
theorem same_any (v u : Value) (x y : List UInt8) (w : World) (hx : (convert 23 9 v).run Tryd.prog w = .ok (.string (bs x)) w) (hy : (convert 23 9 u).run Tryd.prog w = .ok (.string (bs y)) w) :
    Calls Tryd.prog 69 #[v, u] w fun e w' => e = .returned (.bool (x == y)) ∧ w = w' := by
  go_enter Tryd.func69, Tryd.ntmps69
  go_wp2
  go_ret
  exact ⟨ret_bool (by rw [toList_bs, toList_bs]), rfl⟩
theorem drop_take2 {l : List UInt8} {t : Nat} (h : t + 1 < l.length) : (l.drop t).take 2 = [l[t], l[t + 1]] := by
  rw [List.drop_eq_getElem_cons (show t < l.length by omega), List.drop_eq_getElem_cons h]; rfl
theorem drop_take1 {l : List UInt8} {t : Nat} (h : t < l.length) : (l.drop t).take 1 = [l[t]] := by
  rw [List.drop_eq_getElem_cons h]; rfl
theorem u8_61 {u : UInt8} {c : Int} (hc : (u.toNat : Int) = c) : u = 61 ↔ c = 61 := by
  constructor
  · rintro rfl; rw [← hc]; rfl
  · intro h; apply UInt8.toNat_inj.1; rw [h] at hc; show u.toNat = 61; omega
set_option maxHeartbeats 1000000 in
theorem cut_any (c : Nat) (hc : vldC c = true) (ad : Addr) (l : List UInt8) (cc : Nat) (f t : Nat) (hft : f ≤ t) (htl : t ≤ l.length) (hl : l.length ≤ 65536) (w : World) (hcs : ∀ j (h : j < l.length), w.cell? (ad.add j) = some (.int .u8 l[j].toNat)) :
    Calls Tryd.prog 68 #[.int .i64 (c : Int), .slice (some ad) l.length cc, .int .i64 (f : Int), .int .i64 (t : Int)] w fun e w' => e = .returned (.int .i64 (cutR c l f t : Nat)) ∧ w = w' := by
  have hc4 : c = 1 ∨ c = 2 ∨ c = 3 ∨ c = 4 := by unfold vldC at hc; simp at hc; omega
  clear hc
  rcases hc4 with rfl | rfl | hc4
  · have HC := Lib.hid (show cutR 1 l f t = t - (t - f) % 2 from rfl)
    clear hcs
    go_enter Tryd.func68, Tryd.ntmps68
    go_wp2
    go_ret
    exact ⟨ret_int (by rw [HC.out]; omega), rfl⟩
  · have HC := Lib.hid (show cutR 2 l f t = cut2 l f t from rfl)
    obtain ⟨r, hr⟩ : ∃ r, (t - f) % 4 = r := ⟨_, rfl⟩
    have hri : ((t : Int) - f) % 4 = (r : Int) := by omega
    rcases (show r = 0 ∨ r = 1 ∨ r = 2 ∨ r = 3 by omega) with rfl | rfl | rfl | rfl
    · have HE := Lib.hid (cut2_lo (l := l) hr (by decide))
      clear hcs hr
      go_enter Tryd.func68, Tryd.ntmps68
      go_wp2
      go_ret
      exact ⟨ret_int (by rw [HC.out, HE.out]; omega), rfl⟩
    · have HE := Lib.hid (cut2_lo (l := l) hr (by decide))
      clear hcs hr
      go_enter Tryd.func68, Tryd.ntmps68
      go_wp2
      go_ret
      exact ⟨ret_int (by rw [HC.out, HE.out]; omega), rfl⟩
    · by_cases h1 : t + 1 < l.length
      · have hd : decide ((t : Int) + 1 < l.length) = true := decide_eq_true (by omega)
        have h1i : (t : Int) + 1 < l.length := by omega
        have ht0 : t < l.length := by omega
        have c1 := hcs t (by omega)
        have c2 := hcs (t + 1) h1
        have hdt := drop_take2 h1
        clear hcs
        obtain ⟨x, hx, hx0, hx1⟩ := (⟨_, rfl, by omega, byte_lt _⟩ : ∃ c : Int, ((l[t]'(by omega)).toNat : Int) = c ∧ 0 ≤ c ∧ c < 256)
        obtain ⟨y, hy, hy0, hy1⟩ := (⟨_, rfl, by omega, byte_lt _⟩ : ∃ c : Int, (l[t + 1].toNat : Int) = c ∧ 0 ≤ c ∧ c < 256)
        have ex := u8_61 hx
        have ey := u8_61 hy
        rw [hx] at c1
        rw [hy] at c2
        have c2' : w.cell? { block := ad.block, off := ad.off + (t + 1) } = some (.int .u8 y) := c2
        clear c2 hx hy
        by_cases q1 : x = 61
        · by_cases q2 : y = 61
          · have HE := Lib.hid (cut2_eq2 hr (by rw [hdt, ex.2 q1, ey.2 q2]; rfl))
            clear hr hdt ex ey
            subst q1 q2
            go_enter Tryd.func68, Tryd.ntmps68
            go_wp2
            go_ret
            exact ⟨ret_int (by rw [HC.out, HE.out]; omega), rfl⟩
          · have HE := Lib.hid (cut2_no2 hr (by rw [hdt, beq_eq_false_iff_ne]; intro e; simp at e; exact q2 (ey.1 e.2)))
            clear hr hdt ex ey
            subst q1
            go_enter Tryd.func68, Tryd.ntmps68
            go_wp2
            go_ret
            exact ⟨ret_int (by rw [HC.out, HE.out]; omega), rfl⟩
        · have HE := Lib.hid (cut2_no2 hr (by rw [hdt, beq_eq_false_iff_ne]; intro e; simp at e; exact q1 (ex.1 e.1)))
          clear hr hdt ex ey
          go_enter Tryd.func68, Tryd.ntmps68
          go_wp2
          go_ret
          exact ⟨ret_int (by rw [HC.out, HE.out]; omega), rfl⟩
      · have hd : decide ((t : Int) + 1 < l.length) = false := decide_eq_false (by omega)
        have HE := Lib.hid (cut2_no2 (l := l) hr (by rw [beq_eq_false_iff_ne]; intro e; have := congrArg List.length e; simp at this; omega))
        clear hcs hr
        go_enter Tryd.func68, Tryd.ntmps68
        go_wp2
        go_ret
        exact ⟨ret_int (by rw [HC.out, HE.out]; omega), rfl⟩
    · by_cases h1 : t < l.length
      · have hd : decide ((t : Int) < l.length) = true := decide_eq_true (by omega)
        have hdn : decide (t < l.length) = true := decide_eq_true h1
        have c1 := hcs t h1
        have hdt := drop_take1 h1
        clear hcs
        obtain ⟨x, hx, hx0, hx1⟩ := (⟨_, rfl, by omega, byte_lt _⟩ : ∃ c : Int, (l[t].toNat : Int) = c ∧ 0 ≤ c ∧ c < 256)
        have ex := u8_61 hx
        rw [hx] at c1
        clear hx
        by_cases q1 : x = 61
        · have HE := Lib.hid (cut2_eq3 hr (by rw [hdt, ex.2 q1]; rfl))
          clear hr hdt ex
          subst q1
          go_enter Tryd.func68, Tryd.ntmps68
          go_wp2
          go_ret
          exact ⟨ret_int (by rw [HC.out, HE.out]; omega), rfl⟩
        · have HE := Lib.hid (cut2_no3 hr (by rw [hdt, beq_eq_false_iff_ne]; intro e; simp at e; exact q1 (ex.1 e)))
          clear hr hdt ex
          go_enter Tryd.func68, Tryd.ntmps68
          go_wp2
          go_ret
          exact ⟨ret_int (by rw [HC.out, HE.out]; omega), rfl⟩
      · have hd : decide ((t : Int) < l.length) = false := decide_eq_false (by omega)
        have hdn : decide (t < l.length) = false := decide_eq_false h1
        have HE := Lib.hid (cut2_no3 (l := l) hr (by rw [beq_eq_false_iff_ne]; intro e; have := congrArg List.length e; simp at this; omega))
        clear hcs hr
        go_enter Tryd.func68, Tryd.ntmps68
        go_wp2
        go_ret
        exact ⟨ret_int (by rw [HC.out, HE.out]; omega), rfl⟩
  · have hb1 : ((c : Int) == 1) = false := beq_eq_false_iff_ne.2 (by omega)
    have hb2 : ((c : Int) == 2) = false := beq_eq_false_iff_ne.2 (by omega)
    have hc1 : ¬ (c : Int) = 1 := by omega
    have hc2 : ¬ (c : Int) = 2 := by omega
    have HC := Lib.hid (show cutR c l f t = t by unfold cutR; rw [if_neg (by omega), if_neg (by omega)])
    clear hcs hc4
    go_enter Tryd.func68, Tryd.ntmps68
    go_wp2
    go_ret
    exact ⟨ret_int (by rw [HC.out]), rfl⟩
theorem Decoded_sub (c : Int) (hc : vldC c = true) (ad : Addr) (l : List UInt8) (f t n cc : Nat) (hn : n = t - f) (ht : t ≤ l.length) (hl : l.length ≤ 65536) (w : World) (had : ad.block < w.heap.size) (hcs : ∀ j (h : j < l.length), w.cell? (ad.add j) = some (.int .u8 l[j].toNat)) :
    Calls Tryd.prog 33 #[.int .i64 c, .slice (some (ad.add f)) n cc] w (DecPost (decd c (sub l f t)) w) := by
  have hsl := sub_len l f t ht
  have h := Decoded_ref c hc (ad.add f) cc (bs (sub l f t)) w (by rw [size_bs]; omega) ⟨by rw [Reads_block]; exact had, fun k hk => by
    have hk' : k < t - f := by rw [size_bs, hsl] at hk; exact hk
    rw [Addr.add_add, hcs (f + k) (by omega)]
    have e : (bs (sub l f t))[k] = (sub l f t)[k]'(by rw [hsl]; exact hk') := rfl
    rw [e]; simp [sub]⟩
  rw [size_bs, hsl, ← hn, bl_bs] at h
  exact h
end Go.Proofs.YtpfldcfnbgdceaaDoor
