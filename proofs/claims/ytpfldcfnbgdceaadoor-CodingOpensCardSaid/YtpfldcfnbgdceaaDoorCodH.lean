/- Walks of the code's decoder of the second coding, joined. -/
import Derived.Test.YtpfldcfnbgdceaaDoorCodG
namespace Go.Proofs.YtpfldcfnbgdceaaDoor
set_option linter.unusedVariables false
set_option linter.unusedSimpArgs false
set_option maxRecDepth 100000
open Go.RowKit
theorem grpF_bad2 (a c d : UInt8) : grpF 2 [a, 61, c, d] 0 0 = none := by
  unfold grpF
  rw [if_neg (by decide)]
  split
  · rfl
  · unfold grpF
    rw [if_neg (by decide), if_pos (by decide)]
theorem group_any (t : ByteArray) (ht : t.size = 4) (w : World) (a b c d : UInt8) (hl : bl t = [a, b, c, d]) (last : Bool) : Calls Tryd.prog 58 #[.string t, .bool last] w (GrpPost (grp last [a, b, c, d]) w) := by
  cases last with
  | false => exact group_f t ht w a b c d hl
  | true =>
    have e : grp true [a, b, c, d] = grpF (if d == 61 then (if c == 61 then 2 else 1) else 0) [a, b, c, d] 0 0 := rfl
    rw [e]
    by_cases hd : d = 61
    · subst hd
      by_cases hc : c = 61
      · subst hc
        by_cases hb : b = 61
        · subst hb
          refine group_t3 t ht w _ rfl ?_ _ (grpF_bad2 a 61 61)
          rw [hl]
          by_cases ha : a = 61
          · subst ha; decide
          · simp [Lib.trimRightB, List.dropWhile, (show (a == 61) = false by simpa using ha)]
        · exact group_t2 t ht w a b 61 61 hl (by rw [hl]; simp [Lib.trimRightB, List.dropWhile, (show (b == 61) = false by simpa using hb)])
      · rw [if_pos (by decide), if_neg (by simpa using hc)]
        exact group_t1 t ht w a b c 61 hl (by rw [hl]; simp [Lib.trimRightB, List.dropWhile, (show (c == 61) = false by simpa using hc)])
    · rw [if_neg (by simpa using hd)]
      exact group_t0 t ht w a b c d hl (by rw [hl]; simp [Lib.trimRightB, List.dropWhile, (show (d == 61) = false by simpa using hd)])
theorem decB64_four (l o : List UInt8) (a b c d : UInt8) (r : List UInt8) (h : l = a :: b :: c :: d :: r) : decB64 l o = match grp r.isEmpty [a, b, c, d] with | none => none | some x => decB64 r (o ++ x) := by
  subst h; rfl
theorem decB64_odd (l : List UInt8) : ∀ (o : List UInt8), l.length % 4 ≠ 0 → decB64 l o = none := by
  intro o h
  match l, h with
  | [], h => simp at h
  | [_], _ => rfl
  | [_, _], _ => rfl
  | [_, _, _], _ => rfl
  | a :: b :: c :: d :: r, h =>
    show (match grp r.isEmpty [a, b, c, d] with | none => none | some x => decB64 r (o ++ x)) = none
    split
    · rfl
    · exact decB64_odd r _ (by simp at h; omega)
theorem drop_four (s : ByteArray) (k : Nat) (h : k + 4 ≤ s.size) : (bl s).drop k = s[k] :: s[k + 1] :: s[k + 2] :: s[k + 3] :: (bl s).drop (k + 4) := by
  rw [drop_byte s k (by omega), drop_byte s (k + 1) (by omega), drop_byte s (k + 2) (by omega), drop_byte s (k + 3) (by omega)]
theorem OB.below {e : TypeId} {B : Nat} {v : Value} {l : List UInt8} {w w1 : World} (h : OB e B v l w) (hb : Below w.heap.size w w1) : OB e B v l w1 := by
  refine ⟨h.1, ?_⟩
  rcases h.2 with h1 | ⟨g, cap, cur, h1, h2, hg, rest⟩
  · exact .inl h1
  · exact .inr ⟨g, cap, cur, h1, h2, (hb.block g (Array.getElem?_eq_some_iff.1 hg).1).trans hg, rest⟩
theorem bl_extract (s : ByteArray) (k n : Nat) (l : List UInt8) (h : ((bl s).drop k).take n = l) : bl (s.extract k (k + n)) = l := by
  rw [← h]
  unfold bl
  rw [ByteArray.data_extract, Array.toList_extract, List.extract_eq_take_drop]
  congr 1
  omega
theorem grpF_len (p : Nat) (l : List UInt8) : ∀ (k : Nat) (B : Int) (x : List UInt8), grpF p l k B = some x → x.length ≤ 3 := by
  induction l with
  | nil =>
    intro k B x h
    unfold grpF fin64 at h
    split at h
    · injection h with h
      rw [← h]; simp
    · cases h
  | cons c r ih =>
    intro k B x h
    unfold grpF at h
    split at h
    · exact ih _ _ _ h
    · split at h
      · cases h
      · exact ih _ _ _ h
theorem grp_len (last : Bool) (a b c d : UInt8) (x : List UInt8) (h : grp last [a, b, c, d] = some x) : x.length ≤ 3 := grpF_len _ _ _ _ _ h
/-- 'out = append(out, row...)' of bytes that lie anywhere. -/
theorem app_row {P : Program} {T e : TypeId} {i0 : TypeInfo} (ht : P.underlying T = some (.slice e)) (hi : P.info? e = some i0) (hz0 : i0.zero = some (.int .u8 0)) (hz1 : i0.size = 1) (hz2 : i0.bytes = 1)
    {w : World} {ops : Array Oper} {rest : List Oper} {o : Oper} {a : Act} {Q : Exit → Act → World → Prop} (s x : Operand) (v : Value) (l r : List UInt8) (g cap : Nat) (B : Nat)
    (hgd : o.guard = none) (ho : o.op = .call { callee := .builtin .append, args := #[s, x], argTypes := #[T, T] })
    (hs : a.eval s = v) (hx : a.eval x = .slice (some ⟨g, 0, none⟩) r.length cap) (hown : OB e B v l w) (hc : ∀ j (h : j < r.length), w.cell? ⟨g, j, none⟩ = some (.int .u8 r[j].toNat)) (hl : l.length + r.length < 1000000000) (hB : B ≤ w.heap.size)
    (h : ∀ v' w1, OB e B v' (l ++ r) w1 → Below B w w1 → wpList P ops Q rest (a.put o.dst v') w1) :
    wpList P ops Q (o :: rest) a w := by
  refine wpList_append_own _ hgd s x T ho B e i0 (.int .u8 0) 1 1 ht hi hz0 hz1 hz2 rfl (by decide) v l.length _ hs hown ⟨g, 0, none⟩ r.length cap (r.map fun c => Value.int .u8 c.toNat) hx (by simp) ?_ (oneCell_bytes r) ?_ ?_ hB ?_
  · intro j u hj
    rw [Addr.add_lit, Nat.zero_add]
    rw [List.getElem?_map] at hj
    obtain ⟨y, hy, rfl⟩ := Option.map_eq_some_iff.1 hj
    obtain ⟨hjl, rfl⟩ := List.getElem?_eq_some_iff.1 hy
    exact hc j hjl
  · unfold maxLen; omega
  · omega
  · intro v' w1 hown1 hg _
    exact h v' w1 (by simpa [OB] using hown1) ((Below.refl B w).grown hg hB (fun k hk => (hown.lt k hk).1))
theorem isEmpty_drop (s : ByteArray) (m : Nat) : (4 * (m : Int) + 4 == (s.size : Int)) = ((bl s).drop (4 * m + 4)).isEmpty ∨ s.size < 4 * m + 4 := by
  by_cases h : s.size < 4 * m + 4
  · exact .inr h
  · left
    rw [Bool.eq_iff_iff, beq_iff_eq, List.isEmpty_iff, List.drop_eq_nil_iff, size_list]
    omega
set_option maxHeartbeats 1000000 in
theorem decodeBase64_any (s : ByteArray) (w : World) (hs : s.size ≤ 1000000) : Calls Tryd.prog 30 #[.string s] w (DecPost (decB64 (bl s) []) w) := by
  obtain ⟨i0, hi, hz0, hz1, hz2⟩ := info_parts info_u8
  by_cases hodd : s.size % 4 = 0
  · obtain ⟨n, hn⟩ : ∃ n, s.size = 4 * n := ⟨s.size / 4, by omega⟩
    have hr : (s.size : Int).tmod 4 = 0 := by rw [Int.tmod_eq_emod_of_nonneg (by omega)]; omega
    have HN := Lib.hid hn; clear hodd hn
    go_enter Tryd.func30, Tryd.ntmps30
    go_wp2
    go_loopw [4, 5] (fun v i wr => ∃ (m : Nat) (l : List UInt8), m ≤ n ∧ i = .int .i64 (4 * (m : Int)) ∧ l.length ≤ 3 * m ∧ OB 5 w.heap.size v l wr ∧ Below w.heap.size w wr ∧ decB64 ((bl s).drop (4 * m)) l = decB64 (bl s) []) (fun _ i _ => s.size - (intOf i).toNat)
    case atStart => exact ⟨0, [], by omega, rfl, by simp, OB.nil_ _ _ _, Below.refl _ _, rfl⟩
    case round =>
      obtain ⟨m, l, hm, rfl, hl, hown, hbel, hrel⟩ := hrel
      have HR := Lib.hid hrel; clear hrel
      by_cases hlt : m < n
      · have h2 : 4 * m + 4 ≤ s.size := by have := HN.out; omega
        have hd : decide (4 * (m : Int) < s.size) = true := decide_eq_true (by omega)
        have hst := decB64_four _ l _ _ _ _ _ (drop_four s (4 * m) h2)
        rw [HR.out] at hst
        have HS := Lib.hid hst; clear hst
        go_wp2_with fail
        have hlast := (isEmpty_drop s m).resolve_right (by omega)
        rw [hlast]
        have hext := bl_extract s (4 * m) 4 _ (by rw [drop_four s (4 * m) h2]; first | done | rfl)
        have hes : (s.extract (4 * m) (4 * m + 4)).size = 4 := by rw [← size_list, hext]; rfl
        refine (group_any _ hes _ _ _ _ _ hext _).mono ?_
        cases hx : grp ((bl s).drop (4 * m + 4)).isEmpty [s[4 * m], s[4 * m + 1], s[4 * m + 2], s[4 * m + 3]] with
        | none =>
          have hs2 := HS.out
          rw [hx] at hs2
          have HF := Lib.hid hs2; clear hs2 hx hext hes hlast
          rintro e w1 ⟨rfl, rfl⟩
          go_wp2
          go_ret2
          exact DecPost.none_ HF.out hbel
        | some x =>
          have hs2 := HS.out
          rw [hx] at hs2
          have hx3 := grp_len _ _ _ _ _ _ hx
          have HF := Lib.hid hs2; clear hs2 hx hext hes hlast
          rintro e w1 ⟨rfl, hcells, hb1, hsz⟩
          have hown1 := hown.below hb1
          have hbel1 := hbel.trans (hb1.mono hbel.size)
          go_wp2_with (at_builtin; refine app_row Tryd.underlying23 hi hz0 hz1 hz2 _ _ _ _ x _ _ _ rfl rfl rfl rfl hown1 hcells (by omega) hbel1.size ?_; intro v1 w3 hown3 hb3)
          go_roundw
          case rel => exact ⟨m + 1, _, by omega, by go_num, by simp; omega, hown3, hbel1.trans hb3, HF.out.symm⟩
          case measure => simp [intOf]; omega
      · obtain rfl : m = n := by omega
        have h2 : s.size ≤ 4 * m := by have := HN.out; omega
        have hd : decide (4 * (m : Int) < s.size) = false := decide_eq_false (by omega)
        have hz : (bl s).drop (4 * m) = [] := List.drop_eq_nil_of_le (by rw [size_list]; exact h2)
        have hfin : decB64 (bl s) [] = some l := by rw [← HR.out, hz]; rfl
        go_wp2
        go_ret2
        exact DecPost.some_ hfin hown hbel
  · have hn := Lib.hid (decB64_odd (bl s) [] (by rw [size_list]; exact hodd))
    have hr3 : (s.size : Int).tmod 4 = 1 ∨ (s.size : Int).tmod 4 = 2 ∨ (s.size : Int).tmod 4 = 3 := by rw [Int.tmod_eq_emod_of_nonneg (by omega)]; omega
    have HO := Lib.hid hodd; clear hodd
    rcases hr3 with hr | hr | hr
    all_goals
      go_enter Tryd.func30, Tryd.ntmps30
      go_wp2
      go_ret2
      exact DecPost.none_ hn.out (Below.refl _ _)
end Go.Proofs.YtpfldcfnbgdceaaDoor
