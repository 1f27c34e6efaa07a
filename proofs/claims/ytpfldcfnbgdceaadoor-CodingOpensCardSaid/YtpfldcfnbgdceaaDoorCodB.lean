/- Walks of 'two' and of the decoders of hexadecimal digits. -/
import Derived.Test.YtpfldcfnbgdceaaDoorCodA
namespace Go.Proofs.YtpfldcfnbgdceaaDoor
set_option linter.unusedVariables false
set_option linter.unusedSimpArgs false
set_option maxRecDepth 100000
open Go.RowKit
theorem quiet_sym {P : Program} {f : FuncId} {args : Array Value} {w : World} {n : Nat} {v : Value}
    (h : Calls P f args (w.drewN n) fun e w' => e = .returned v ∧ w.drewN n = w') : Calls P f args (w.drewN n) fun e w'' => e = .returned v ∧ ∃ m, w'' = w.drewN m :=
  h.mono fun _ _ ⟨he, hm⟩ => ⟨he, n, hm.symm⟩
def twoAt : List UInt8 → Option UInt8
  | a :: b :: _ => twoB a b
  | _ => none
def TwoPost (l : List UInt8) (w : World) (e : Ending) (w' : World) : Prop := ∃ (u : UInt8) (r : Int), e = .returned (.tuple #[.int .u8 r, .bool (twoAt l).isSome]) ∧ Hid (r = u.toNat) ∧ Hid (∀ x, twoAt l = some x → u = x) ∧ ∃ m, w' = w.drewN m
theorem drew0 (w : World) : w = w.drewN 0 := rfl
theorem or16_fin : ∀ a b : Fin 16, bits .or .i64 ((a.val : Int) * 16) (b.val : Int) = (a.val : Int) * 16 + b.val := by decide +kernel
theorem or16 (a b : Int) (ha : 0 ≤ a) (ha2 : a ≤ 15) (hb : 0 ≤ b) (hb2 : b ≤ 15) : bits .or .i64 (a * 16) b = a * 16 + b := by
  have h := or16_fin ⟨a.toNat, by omega⟩ ⟨b.toNat, by omega⟩
  simp only [Int.toNat_of_nonneg ha, Int.toNat_of_nonneg hb] at h
  exact h
theorem two_drop (s : ByteArray) (k : Nat) (h : k + 2 ≤ s.size) : twoAt ((bl s).drop k) = twoB s[k] s[k + 1] := by
  rw [drop_byte s k (by omega), drop_byte s (k + 1) (by omega)]; rfl
theorem two_close (s : ByteArray) (k : Nat) (h : k + 2 ≤ s.size) (u u2 : UInt8) (c c2 x1 x2 r : Int) (b : Bool) (hu : Hid (u = s[k])) (hu2 : Hid (u2 = s[k + 1])) (hc : Hid (c = u.toNat)) (hc2 : Hid (c2 = u2.toNat))
    (h1 : Hid (hexv c = x1)) (h2 : Hid (hexv c2 = x2)) (hr : r = bits .or .i64 (x1 * 16) x2 % 256) (hb : b = (decide (0 ≤ x1) && decide (0 ≤ x2))) (w : World) (m : Nat) :
    TwoPost ((bl s).drop k) w (.returned (.tuple #[.int .u8 r, .bool b])) (w.drewN m) := by
  have hu := hu.out; have hu2 := hu2.out; have hc := hc.out; have hc2 := hc2.out; have h1 := h1.out; have h2 := h2.out
  have hb1 := hexv_bd c; have hb2 := hexv_bd c2
  have hr0 : 0 ≤ r ∧ r < 256 := by rw [hr]; omega
  have e : twoAt ((bl s).drop k) = if 0 ≤ x1 ∧ 0 ≤ x2 then some (UInt8.ofNat (x1 * 16 + x2).toNat) else none := by
    rw [two_drop s k h, ← hu, ← hu2]; unfold twoB; rw [← hc, ← hc2, h1, h2]
  have hru : r = (UInt8.ofNat r.toNat).toNat := by
    rw [UInt8.toNat_ofNat']; omega
  refine ⟨UInt8.ofNat r.toNat, r, ?_, hru, ?_, m, rfl⟩
  · rw [e, hb]
    by_cases q1 : 0 ≤ x1 <;> by_cases q2 : 0 ≤ x2 <;> simp [q1, q2]
  · intro x hx
    rw [e] at hx
    split at hx
    · rename_i q
      injection hx with hx
      rw [← hx, hr, or16 x1 x2 (by omega) (by omega) (by omega) (by omega)]
      congr 1
      omega
    · simp at hx
theorem twoAt_short (s : ByteArray) (k : Nat) (h : ¬ k + 2 ≤ s.size) : twoAt ((bl s).drop k) = none := by
  have h1 : ((bl s).drop k).length < 2 := by rw [List.length_drop, size_list]; omega
  match hh : (bl s).drop k, h1 with
  | [], _ => rfl
  | [_], _ => rfl
  | _ :: _ :: _, h1 => simp at h1; omega
theorem two_any (s : ByteArray) (at_ : Int) (k : Nat) (hk : at_ = k) (w : World) (hs : s.size ≤ 1000000) (hk2 : k ≤ 1000000) :
    Calls Tryd.prog 57 #[.string s, .int .i64 at_] w (TwoPost ((bl s).drop k) w) := by
  subst hk
  by_cases hlt : k + 2 ≤ s.size
  · obtain ⟨u, c, hus, hcu, hc0, hc1, hix⟩ := idx_str Tryd.underlying9 s k (by omega) .i64 (k : Int) rfl
    obtain ⟨u2, c2, hus2, hcu2, hc20, hc21, hix2⟩ := idx_str Tryd.underlying9 s (k + 1) (by omega) .i64 ((k : Int) + 1) (by omega)
    have hb1 := hexv_bd c
    have hb2 := hexv_bd c2
    obtain ⟨x1, hx1⟩ : ∃ x, hexv c = x := ⟨_, rfl⟩
    obtain ⟨x2, hx2⟩ : ∃ x, hexv c2 = x := ⟨_, rfl⟩
    have A1 := fun w => chex_any c w hc0 hc1
    have A2 := fun w => chex_any c2 w hc20 hc21
    rw [hx1] at hb1 A1
    rw [hx2] at hb2 A2
    have X1 := Lib.hid hx1; have X2 := Lib.hid hx2; clear hx1 hx2
    go_enter Tryd.func57, Tryd.ntmps57
    go_wp2_with fail
    go_quiet ((go_at_call 38; first | (with_reducible show Calls _ _ #[Value.int IntKind.u8 c] _ _; exact quiet_sym (A1 _)) | (with_reducible show Calls _ _ #[Value.int IntKind.u8 c2] _ _; exact quiet_sym (A2 _))))
    go_wp2
    all_goals
      go_ret2
      refine two_close s k hlt u u2 c c2 x1 x2 _ _ hus hus2 hcu hcu2 X1 X2 rfl ?_ w _
    · rw [decide_eq_true (show 0 ≤ x1 by omega)]; rfl
    · rw [decide_eq_false (show ¬ 0 ≤ x1 by omega)]; rfl
  · go_enter Tryd.func57, Tryd.ntmps57
    go_wp2
    go_ret2
    refine ⟨0, 0, ?_, rfl, ?_, 0, drew0 w⟩
    · rw [twoAt_short s k hlt]; rfl
    · intro x hx; rw [twoAt_short s k hlt] at hx; simp at hx
def DecPost (r : Option (List UInt8)) (w : World) (e : Ending) (w' : World) : Prop := ∃ v, e = .returned (.tuple #[v, .bool r.isSome]) ∧ OB 5 w.heap.size v (r.getD []) w' ∧ Below w.heap.size w w'
theorem DecPost.none_ {w w' : World} {r : Option (List UInt8)} (h : r = none) (hb : Below w.heap.size w w') : DecPost r w (.returned (.tuple #[.slice none 0 0, .bool false])) w' := by
  subst h; exact ⟨_, rfl, OB.nil_ _ _ _, hb⟩
theorem DecPost.some_ {w w' : World} {r : Option (List UInt8)} {o : List UInt8} {v : Value} (h : r = some o) (hv : OB 5 w.heap.size v o w') (hb : Below w.heap.size w w') : DecPost r w (.returned (.tuple #[v, .bool true])) w' := by
  subst h; exact ⟨_, rfl, hv, hb⟩
theorem decHex_two (l o : List UInt8) (a b : UInt8) (r : List UInt8) (h : l = a :: b :: r) : decHex l o = match twoAt l with | none => none | some c => decHex r (o ++ [c]) := by
  subst h; rfl
theorem Below.drewN' {B : Nat} {a w : World} (h : Below B a w) (m : Nat) : Below B a (w.drewN m) := ⟨h.os, h.tape, h.output, h.size, h.block⟩
theorem OB.drew {e : TypeId} {B : Nat} {v : Value} {l : List UInt8} {w : World} (h : OB e B v l w) (m : Nat) : OB e B v l (w.drewN m) := h
theorem decHex_odd (l : List UInt8) : ∀ (o : List UInt8), l.length % 2 = 1 → decHex l o = none := by
  intro o h
  match l, h with
  | [], h => simp at h
  | [_], _ => rfl
  | a :: b :: r, h =>
    show (match twoB a b with | none => none | some c => decHex r (o ++ [c])) = none
    split
    · rfl
    · exact decHex_odd r _ (by simp at h; omega)
theorem drop_two (s : ByteArray) (k : Nat) (h : k + 2 ≤ s.size) : ∃ a b, (bl s).drop k = a :: b :: (bl s).drop (k + 2) :=
  ⟨s[k], s[k + 1], by rw [drop_byte s k (by omega), drop_byte s (k + 1) (by omega)]⟩
set_option maxHeartbeats 1000000 in
theorem decodeHex_any (s : ByteArray) (w : World) (hs : s.size ≤ 1000000) : Calls Tryd.prog 29 #[.string s] w (DecPost (decHex (bl s) []) w) := by
  obtain ⟨i0, hi, hz0, hz1, hz2⟩ := info_parts info_u8
  by_cases hodd : s.size % 2 = 1
  · have hn := decHex_odd (bl s) [] (by rw [size_list]; exact hodd)
    have hr : (s.size : Int).tmod 2 = 1 := by rw [Int.tmod_eq_emod_of_nonneg (by omega)]; omega
    have HO := Lib.hid hodd; clear hodd
    go_enter Tryd.func29, Tryd.ntmps29
    go_wp2
    go_ret2
    exact DecPost.none_ hn (Below.refl _ _)
  · obtain ⟨n, hn⟩ : ∃ n, s.size = 2 * n := ⟨s.size / 2, by omega⟩
    have hr : (s.size : Int).tmod 2 = 0 := by rw [Int.tmod_eq_emod_of_nonneg (by omega)]; omega
    have HN := Lib.hid hn; clear hodd hn
    go_enter Tryd.func29, Tryd.ntmps29
    go_wp2
    go_loopw [4, 5] (fun v i wr => ∃ (m : Nat) (l : List UInt8), m ≤ n ∧ i = .int .i64 (2 * (m : Int)) ∧ l.length ≤ m ∧ OB 5 w.heap.size v l wr ∧ Below w.heap.size w wr ∧ decHex ((bl s).drop (2 * m)) l = decHex (bl s) []) (fun _ i _ => s.size - (intOf i).toNat)
    case atStart => exact ⟨0, [], by omega, rfl, by simp, OB.nil_ _ _ _, Below.refl _ _, rfl⟩
    case round =>
      obtain ⟨m, l, hm, rfl, hl, hown, hbel, hrel⟩ := hrel
      have HR := Lib.hid hrel; clear hrel
      by_cases hlt : m < n
      · have h2 : 2 * m + 2 ≤ s.size := by have := HN.out; omega
        have hd : decide (2 * (m : Int) < s.size) = true := decide_eq_true (by omega)
        obtain ⟨a, b, hab⟩ := drop_two s (2 * m) h2
        have hst := decHex_two _ l a b _ hab
        rw [HR.out] at hst
        have HS := Lib.hid hst; clear hst
        have HAB := Lib.hid hab; clear hab
        cases hx : twoAt ((bl s).drop (2 * m)) with
        | none =>
          have T := two_any s (2 * (m : Int)) (2 * m) (by omega) wr hs (by omega)
          have HX := Lib.hid hx
          go_wp2_with (go_at_call 57; refine T.mono ?_; rintro e w1 ⟨u, r, rfl, -, -, q, rfl⟩; rw [HX.out]; simp only [Option.isSome])
          go_ret2
          have hs2 := HS.out
          rw [HX.out] at hs2
          exact DecPost.none_ hs2 (Below.drewN' hbel q)
        | some x =>
          have T := two_any s (2 * (m : Int)) (2 * m) (by omega) wr hs (by omega)
          have HX := Lib.hid hx
          go_wp2_with fail
          refine T.mono ?_
          rintro e w1 ⟨u, r, rfl, hu, hxx, q, rfl⟩
          rw [HX.out]; simp only [Option.isSome]
          obtain rfl := hxx.out x HX.out
          have hown1 := OB.drew hown q
          have hbel1 := Below.drewN' hbel q
          go_wp2_with (at_builtin; refine app_u8 Tryd.underlying23 hi hz0 hz1 hz2 _ _ _ _ _ u _ rfl rfl rfl rfl hown1 hu.out (by omega) hbel1.size ?_; intro v1 w3 hown3 hb3 _ _)
          go_roundw
          case rel =>
            have hs2 := HS.out
            rw [HX.out] at hs2
            exact ⟨m + 1, _, by omega, by go_num, by simp; omega, hown3, hbel1.trans hb3, hs2.symm⟩
          case measure => simp [intOf]; omega
      · obtain rfl : m = n := by omega
        have h2 : s.size ≤ 2 * m := by have := HN.out; omega
        have hd : decide (2 * (m : Int) < s.size) = false := decide_eq_false (by omega)
        have hz : (bl s).drop (2 * m) = [] := List.drop_eq_nil_of_le (by rw [size_list]; exact h2)
        have hfin : decHex (bl s) [] = some l := by rw [← HR.out, hz]; rfl
        go_wp2
        go_ret2
        exact DecPost.some_ hfin hown hbel
end Go.Proofs.YtpfldcfnbgdceaaDoor
