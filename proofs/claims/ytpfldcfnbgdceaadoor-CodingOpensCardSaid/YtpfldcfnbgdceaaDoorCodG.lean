/- Walks of the code's decoder of the second coding. -/
import Derived.Test.YtpfldcfnbgdceaaDoorCodF
namespace Go.Proofs.YtpfldcfnbgdceaaDoor
set_option linter.unusedVariables false
set_option linter.unusedSimpArgs false
set_option maxRecDepth 100000
open Go.RowKit
theorem trimR (t : ByteArray) (q : Nat) (hq : (Lib.trimRightB (bl t) 61).length = q) (ht : t.size ≤ 1000000) (w : World) : Calls Tryd.prog 72 #[.string t, .string ⟨#[61]⟩] w fun e w' => (∃ x : ByteArray, e = .returned (.string x) ∧ x.size = q) ∧ w = w' := by
  refine (Tryd.strings_TrimRight_one t 61 (by decide) w (by omega)).mono ?_
  rintro e w' ⟨rfl, rfl⟩
  exact ⟨⟨_, rfl, by rw [← hq]; simp [bl, ByteArray.size]⟩, rfl⟩
def GrpPost (r : Option (List UInt8)) (w : World) (e : Ending) (w' : World) : Prop := match r with
  | none => e = .returned (.tuple #[.slice none 0 0, .bool false]) ∧ w = w'
  | some x => e = .returned (.tuple #[.slice (some ⟨w.heap.size, 0, none⟩) x.length 3, .bool true]) ∧ (∀ j (h : j < x.length), w'.cell? ⟨w.heap.size, j, none⟩ = some (.int .u8 x[j].toNat)) ∧ Below w.heap.size w w' ∧ w'.heap.size = w.heap.size + 1
theorem GrpPost.none_ {r : Option (List UInt8)} (h : r = none) (w : World) : GrpPost r w (.returned (.tuple #[.slice none 0 0, .bool false])) w := by
  subst h; exact ⟨rfl, rfl⟩
theorem GrpPost.some_ {r : Option (List UInt8)} {x : List UInt8} (h : r = some x) (w : World) (n : Nat) (hn : n = x.length) (cs : List Value) (e : TypeId) (hcs : ∀ j (h : j < x.length), cs[j]? = some (.int .u8 x[j].toNat)) :
    GrpPost r w (.returned (.tuple #[.slice (some ⟨w.heap.size, 0, none⟩) n 3, .bool true])) (w.alloc (.cells cs.toArray e)) := by
  subst h hn
  refine ⟨rfl, fun j hj => ?_, (Below.refl _ w).alloc (Nat.le_refl _) _, by simp⟩
  rw [World.cell?_alloc_mark]
  simpa using hcs j hj
theorem byte_names (u : UInt8) : ∃ c : Int, Hid (c = u.toNat) ∧ 0 ≤ c ∧ c < 256 := ⟨u.toNat, rfl, by omega, byte_lt _⟩
theorem grpF_pad (p : Nat) (c : UInt8) (r : List UInt8) (k : Nat) (B : Int) (R : Option (List UInt8)) (h : Hid (grpF p (c :: r) k B = R)) (hk : 4 - p ≤ k) : Hid (grpF p r (k + 1) (B * 64) = R) := by
  have := h.out; rw [grpF, if_pos hk] at this; exact this
theorem grpF_bad (p : Nat) (u : UInt8) (c x : Int) (r : List UInt8) (k : Nat) (B : Int) (R : Option (List UInt8)) (h : Hid (grpF p (u :: r) k B = R)) (hc : Hid (c = u.toNat)) (hx : Hid (sgnV c = x)) (hk : ¬ 4 - p ≤ k) (hn : x < 0) : R = none := by
  have := h.out; rw [grpF, if_neg hk, ← hc.out, hx.out, if_pos hn] at this; exact this.symm
theorem grpF_own (p : Nat) (u : UInt8) (c x : Int) (r : List UInt8) (k : Nat) (B : Int) (R : Option (List UInt8)) (h : Hid (grpF p (u :: r) k B = R)) (hc : Hid (c = u.toNat)) (hx : Hid (sgnV c = x)) (hk : ¬ 4 - p ≤ k) (hn : ¬ x < 0) : Hid (grpF p r (k + 1) (B * 64 + x) = R) := by
  have := h.out; rw [grpF, if_neg hk, ← hc.out, hx.out, if_neg hn] at this; exact this
theorem three_cells (B : Int) (h0 : 0 ≤ B) (h1 : B < 16777216) (n : Nat) (hn : n ≤ 3) : ∀ j (h : j < ([UInt8.ofNat (B / 65536).toNat, UInt8.ofNat (B / 256 % 256).toNat, UInt8.ofNat (B % 256).toNat].take n).length),
    [Value.int .u8 (B / 65536), .int .u8 (B / 256 % 256), .int .u8 (B % 256)][j]? = some (.int .u8 ([UInt8.ofNat (B / 65536).toNat, UInt8.ofNat (B / 256 % 256).toNat, UInt8.ofNat (B % 256).toNat].take n)[j].toNat) := by
  intro j hj
  rw [List.getElem_take]
  have hj3 : j < 3 := by simp at hj; omega
  match j, hj3 with
  | 0, _ => simp; omega
  | 1, _ => simp; omega
  | 2, _ => simp; omega
set_option maxHeartbeats 2000000 in
theorem group_f (t : ByteArray) (ht : t.size = 4) (w : World) (a b c d : UInt8) (hl : bl t = [a, b, c, d]) : Calls Tryd.prog 58 #[.string t, .bool false] w (GrpPost (grpF 0 [a, b, c, d] 0 0) w) := by
  obtain ⟨a', ha, ha0, ha1⟩ := byte_names a
  obtain ⟨b', hb, hb0, hb1⟩ := byte_names b
  obtain ⟨c', hc, hc0, hc1⟩ := byte_names c
  obtain ⟨d', hd, hd0, hd1⟩ := byte_names d
  have ia := idx_bl (P := Tryd.prog) Tryd.underlying9 t 0 a (by rw [hl]; rfl) .i64 0 rfl a' ha.out
  have ib := idx_bl (P := Tryd.prog) Tryd.underlying9 t 1 b (by rw [hl]; rfl) .i64 1 rfl b' hb.out
  have ic := idx_bl (P := Tryd.prog) Tryd.underlying9 t 2 c (by rw [hl]; rfl) .i64 2 rfl c' hc.out
  have id := idx_bl (P := Tryd.prog) Tryd.underlying9 t 3 d (by rw [hl]; rfl) .i64 3 rfl d' hd.out
  clear hl
  go_enter Tryd.func58, Tryd.ntmps58
  go_wp2
  go_loopw [7, 19] (fun v i wr => ∃ (k : Nat) (B : Int), k ≤ 4 ∧ i = .int .i64 (k : Int) ∧ v = .int .i64 B ∧ 0 ≤ B ∧ B < 64 ^ k ∧ w = wr ∧ Hid (grpF 0 ([a, b, c, d].drop k) k B = grpF 0 [a, b, c, d] 0 0)) (fun _ i _ => 4 - (intOf i).toNat)
  case atStart => exact ⟨0, 0, by omega, rfl, rfl, by omega, by decide, rfl, rfl⟩
  case round =>
    obtain ⟨k, B, hk, rfl, rfl, hB0, hB1, rfl, HR⟩ := hrel
    rcases (show k = 0 ∨ k = 1 ∨ k = 2 ∨ k = 3 ∨ k = 4 by omega) with rfl | rfl | rfl | rfl | rfl
    · obtain ⟨x, hx⟩ : ∃ x, sgnV a' = x := ⟨_, rfl⟩
      have hxb := sgnV_bd a'
      have IX := fun w => indexB signs a' x ((idx_signs a' a ha).trans hx) w
      rw [hx] at hxb
      have HX := Lib.hid hx; clear hx
      unfold signs at IX
      (try simp only [Int.reducePow] at *)
      have hor : bits .or .i64 (B * 64) x = B * 64 + x ∨ x < 0 := by
        by_cases q : x < 0
        · exact .inr q
        · exact .inl (or_sum B x 64 6 (by decide) hB0 (by omega) (by omega) (by omega))
      by_cases q : x < 0
      · have HF := Lib.hid (grpF_bad 0 a a' x _ 0 B _ HR ha HX (by decide) q)
        go_wp2_with fail
        refine (IX _).mono ?_
        rintro e w1 ⟨rfl, rfl⟩
        go_wp2
        go_ret2
        exact GrpPost.none_ HF.out w
      · have HF := grpF_own 0 a a' x _ 0 B _ HR ha HX (by decide) q
        have hor' : bits .or .i64 (B * 64) x = B * 64 + x := hor.resolve_right q
        clear hor
        go_wp2_with fail
        refine (IX _).mono ?_
        rintro e w1 ⟨rfl, rfl⟩
        go_wp2
        go_roundw
        case rel => exact ⟨1, B * 64 + x, by omega, by go_num, by go_num, by omega, by (try simp only [Int.reducePow] at *); omega, (by first | trivial | rfl), HF⟩
        case measure => simp [intOf]
    · obtain ⟨x, hx⟩ : ∃ x, sgnV b' = x := ⟨_, rfl⟩
      have hxb := sgnV_bd b'
      have IX := fun w => indexB signs b' x ((idx_signs b' b hb).trans hx) w
      rw [hx] at hxb
      have HX := Lib.hid hx; clear hx
      unfold signs at IX
      (try simp only [Int.reducePow] at *)
      have hor : bits .or .i64 (B * 64) x = B * 64 + x ∨ x < 0 := by
        by_cases q : x < 0
        · exact .inr q
        · exact .inl (or_sum B x 64 6 (by decide) hB0 (by omega) (by omega) (by omega))
      by_cases q : x < 0
      · have HF := Lib.hid (grpF_bad 0 b b' x _ 1 B _ HR hb HX (by decide) q)
        go_wp2_with fail
        refine (IX _).mono ?_
        rintro e w1 ⟨rfl, rfl⟩
        go_wp2
        go_ret2
        exact GrpPost.none_ HF.out w
      · have HF := grpF_own 0 b b' x _ 1 B _ HR hb HX (by decide) q
        have hor' : bits .or .i64 (B * 64) x = B * 64 + x := hor.resolve_right q
        clear hor
        go_wp2_with fail
        refine (IX _).mono ?_
        rintro e w1 ⟨rfl, rfl⟩
        go_wp2
        go_roundw
        case rel => exact ⟨2, B * 64 + x, by omega, by go_num, by go_num, by omega, by (try simp only [Int.reducePow] at *); omega, (by first | trivial | rfl), HF⟩
        case measure => simp [intOf]
    · obtain ⟨x, hx⟩ : ∃ x, sgnV c' = x := ⟨_, rfl⟩
      have hxb := sgnV_bd c'
      have IX := fun w => indexB signs c' x ((idx_signs c' c hc).trans hx) w
      rw [hx] at hxb
      have HX := Lib.hid hx; clear hx
      unfold signs at IX
      (try simp only [Int.reducePow] at *)
      have hor : bits .or .i64 (B * 64) x = B * 64 + x ∨ x < 0 := by
        by_cases q : x < 0
        · exact .inr q
        · exact .inl (or_sum B x 64 6 (by decide) hB0 (by omega) (by omega) (by omega))
      by_cases q : x < 0
      · have HF := Lib.hid (grpF_bad 0 c c' x _ 2 B _ HR hc HX (by decide) q)
        go_wp2_with fail
        refine (IX _).mono ?_
        rintro e w1 ⟨rfl, rfl⟩
        go_wp2
        go_ret2
        exact GrpPost.none_ HF.out w
      · have HF := grpF_own 0 c c' x _ 2 B _ HR hc HX (by decide) q
        have hor' : bits .or .i64 (B * 64) x = B * 64 + x := hor.resolve_right q
        clear hor
        go_wp2_with fail
        refine (IX _).mono ?_
        rintro e w1 ⟨rfl, rfl⟩
        go_wp2
        go_roundw
        case rel => exact ⟨3, B * 64 + x, by omega, by go_num, by go_num, by omega, by (try simp only [Int.reducePow] at *); omega, (by first | trivial | rfl), HF⟩
        case measure => simp [intOf]
    · obtain ⟨x, hx⟩ : ∃ x, sgnV d' = x := ⟨_, rfl⟩
      have hxb := sgnV_bd d'
      have IX := fun w => indexB signs d' x ((idx_signs d' d hd).trans hx) w
      rw [hx] at hxb
      have HX := Lib.hid hx; clear hx
      unfold signs at IX
      (try simp only [Int.reducePow] at *)
      have hor : bits .or .i64 (B * 64) x = B * 64 + x ∨ x < 0 := by
        by_cases q : x < 0
        · exact .inr q
        · exact .inl (or_sum B x 64 6 (by decide) hB0 (by omega) (by omega) (by omega))
      by_cases q : x < 0
      · have HF := Lib.hid (grpF_bad 0 d d' x _ 3 B _ HR hd HX (by decide) q)
        go_wp2_with fail
        refine (IX _).mono ?_
        rintro e w1 ⟨rfl, rfl⟩
        go_wp2
        go_ret2
        exact GrpPost.none_ HF.out w
      · have HF := grpF_own 0 d d' x _ 3 B _ HR hd HX (by decide) q
        have hor' : bits .or .i64 (B * 64) x = B * 64 + x := hor.resolve_right q
        clear hor
        go_wp2_with fail
        refine (IX _).mono ?_
        rintro e w1 ⟨rfl, rfl⟩
        go_wp2
        go_roundw
        case rel => exact ⟨4, B * 64 + x, by omega, by go_num, by go_num, by omega, by (try simp only [Int.reducePow] at *); omega, (by first | trivial | rfl), HF⟩
        case measure => simp [intOf]
    · (try simp only [Int.reducePow] at *)
      have hm : bits .and .i64 B 0 = 0 := by rw [and_rem B 0 1 0 (by decide) (by decide) (by decide) hB0 (by omega)]; omega
      have hfin : grpF 0 [a, b, c, d] 0 0 = some [UInt8.ofNat (B / 65536).toNat, UInt8.ofNat (B / 256 % 256).toNat, UInt8.ofNat (B % 256).toNat] := by
        rw [← HR.out]; show fin64 0 B = _; unfold fin64; rw [if_pos (by omega)]; rfl
      have HF := Lib.hid hfin; clear hfin
      go_wp2
      go_ret2
      refine GrpPost.some_ HF.out w 3 rfl [.int .u8 (B / 65536), .int .u8 (B / 256 % 256), .int .u8 (B % 256)] 5 ?_
      exact three_cells B hB0 (by omega) 3 (by omega)
set_option maxHeartbeats 2000000 in
theorem group_t0 (t : ByteArray) (ht : t.size = 4) (w : World) (a b c d : UInt8) (hl : bl t = [a, b, c, d]) (hq : (Lib.trimRightB (bl t) 61).length = 4) : Calls Tryd.prog 58 #[.string t, .bool true] w (GrpPost (grpF 0 [a, b, c, d] 0 0) w) := by
  obtain ⟨a', ha, ha0, ha1⟩ := byte_names a
  obtain ⟨b', hb, hb0, hb1⟩ := byte_names b
  obtain ⟨c', hc, hc0, hc1⟩ := byte_names c
  obtain ⟨d', hd, hd0, hd1⟩ := byte_names d
  have ia := idx_bl (P := Tryd.prog) Tryd.underlying9 t 0 a (by rw [hl]; rfl) .i64 0 rfl a' ha.out
  have ib := idx_bl (P := Tryd.prog) Tryd.underlying9 t 1 b (by rw [hl]; rfl) .i64 1 rfl b' hb.out
  have ic := idx_bl (P := Tryd.prog) Tryd.underlying9 t 2 c (by rw [hl]; rfl) .i64 2 rfl c' hc.out
  have id := idx_bl (P := Tryd.prog) Tryd.underlying9 t 3 d (by rw [hl]; rfl) .i64 3 rfl d' hd.out
  have TR := trimR t 4 hq (by omega)
  clear hl hq
  go_enter Tryd.func58, Tryd.ntmps58
  go_wp2_with fail
  refine (TR _).mono ?_
  rintro e w1 ⟨⟨y, rfl, hy⟩, rfl⟩
  go_wp2
  go_loopw [7, 19] (fun v i wr => ∃ (k : Nat) (B : Int), k ≤ 4 ∧ i = .int .i64 (k : Int) ∧ v = .int .i64 B ∧ 0 ≤ B ∧ B < 64 ^ k ∧ w = wr ∧ Hid (grpF 0 ([a, b, c, d].drop k) k B = grpF 0 [a, b, c, d] 0 0)) (fun _ i _ => 4 - (intOf i).toNat)
  case atStart => exact ⟨0, 0, by omega, rfl, rfl, by omega, by decide, rfl, rfl⟩
  case round =>
    obtain ⟨k, B, hk, rfl, rfl, hB0, hB1, rfl, HR⟩ := hrel
    rcases (show k = 0 ∨ k = 1 ∨ k = 2 ∨ k = 3 ∨ k = 4 by omega) with rfl | rfl | rfl | rfl | rfl
    · obtain ⟨x, hx⟩ : ∃ x, sgnV a' = x := ⟨_, rfl⟩
      have hxb := sgnV_bd a'
      have IX := fun w => indexB signs a' x ((idx_signs a' a ha).trans hx) w
      rw [hx] at hxb
      have HX := Lib.hid hx; clear hx
      unfold signs at IX
      (try simp only [Int.reducePow] at *)
      have hor : bits .or .i64 (B * 64) x = B * 64 + x ∨ x < 0 := by
        by_cases q : x < 0
        · exact .inr q
        · exact .inl (or_sum B x 64 6 (by decide) hB0 (by omega) (by omega) (by omega))
      by_cases q : x < 0
      · have HF := Lib.hid (grpF_bad 0 a a' x _ 0 B _ HR ha HX (by decide) q)
        go_wp2_with fail
        refine (IX _).mono ?_
        rintro e w1 ⟨rfl, rfl⟩
        go_wp2
        go_ret2
        exact GrpPost.none_ HF.out w
      · have HF := grpF_own 0 a a' x _ 0 B _ HR ha HX (by decide) q
        have hor' : bits .or .i64 (B * 64) x = B * 64 + x := hor.resolve_right q
        clear hor
        go_wp2_with fail
        refine (IX _).mono ?_
        rintro e w1 ⟨rfl, rfl⟩
        go_wp2
        go_roundw
        case rel => exact ⟨1, B * 64 + x, by omega, by go_num, by go_num, by omega, by (try simp only [Int.reducePow] at *); omega, (by first | trivial | rfl), HF⟩
        case measure => simp [intOf]
    · obtain ⟨x, hx⟩ : ∃ x, sgnV b' = x := ⟨_, rfl⟩
      have hxb := sgnV_bd b'
      have IX := fun w => indexB signs b' x ((idx_signs b' b hb).trans hx) w
      rw [hx] at hxb
      have HX := Lib.hid hx; clear hx
      unfold signs at IX
      (try simp only [Int.reducePow] at *)
      have hor : bits .or .i64 (B * 64) x = B * 64 + x ∨ x < 0 := by
        by_cases q : x < 0
        · exact .inr q
        · exact .inl (or_sum B x 64 6 (by decide) hB0 (by omega) (by omega) (by omega))
      by_cases q : x < 0
      · have HF := Lib.hid (grpF_bad 0 b b' x _ 1 B _ HR hb HX (by decide) q)
        go_wp2_with fail
        refine (IX _).mono ?_
        rintro e w1 ⟨rfl, rfl⟩
        go_wp2
        go_ret2
        exact GrpPost.none_ HF.out w
      · have HF := grpF_own 0 b b' x _ 1 B _ HR hb HX (by decide) q
        have hor' : bits .or .i64 (B * 64) x = B * 64 + x := hor.resolve_right q
        clear hor
        go_wp2_with fail
        refine (IX _).mono ?_
        rintro e w1 ⟨rfl, rfl⟩
        go_wp2
        go_roundw
        case rel => exact ⟨2, B * 64 + x, by omega, by go_num, by go_num, by omega, by (try simp only [Int.reducePow] at *); omega, (by first | trivial | rfl), HF⟩
        case measure => simp [intOf]
    · obtain ⟨x, hx⟩ : ∃ x, sgnV c' = x := ⟨_, rfl⟩
      have hxb := sgnV_bd c'
      have IX := fun w => indexB signs c' x ((idx_signs c' c hc).trans hx) w
      rw [hx] at hxb
      have HX := Lib.hid hx; clear hx
      unfold signs at IX
      (try simp only [Int.reducePow] at *)
      have hor : bits .or .i64 (B * 64) x = B * 64 + x ∨ x < 0 := by
        by_cases q : x < 0
        · exact .inr q
        · exact .inl (or_sum B x 64 6 (by decide) hB0 (by omega) (by omega) (by omega))
      by_cases q : x < 0
      · have HF := Lib.hid (grpF_bad 0 c c' x _ 2 B _ HR hc HX (by decide) q)
        go_wp2_with fail
        refine (IX _).mono ?_
        rintro e w1 ⟨rfl, rfl⟩
        go_wp2
        go_ret2
        exact GrpPost.none_ HF.out w
      · have HF := grpF_own 0 c c' x _ 2 B _ HR hc HX (by decide) q
        have hor' : bits .or .i64 (B * 64) x = B * 64 + x := hor.resolve_right q
        clear hor
        go_wp2_with fail
        refine (IX _).mono ?_
        rintro e w1 ⟨rfl, rfl⟩
        go_wp2
        go_roundw
        case rel => exact ⟨3, B * 64 + x, by omega, by go_num, by go_num, by omega, by (try simp only [Int.reducePow] at *); omega, (by first | trivial | rfl), HF⟩
        case measure => simp [intOf]
    · obtain ⟨x, hx⟩ : ∃ x, sgnV d' = x := ⟨_, rfl⟩
      have hxb := sgnV_bd d'
      have IX := fun w => indexB signs d' x ((idx_signs d' d hd).trans hx) w
      rw [hx] at hxb
      have HX := Lib.hid hx; clear hx
      unfold signs at IX
      (try simp only [Int.reducePow] at *)
      have hor : bits .or .i64 (B * 64) x = B * 64 + x ∨ x < 0 := by
        by_cases q : x < 0
        · exact .inr q
        · exact .inl (or_sum B x 64 6 (by decide) hB0 (by omega) (by omega) (by omega))
      by_cases q : x < 0
      · have HF := Lib.hid (grpF_bad 0 d d' x _ 3 B _ HR hd HX (by decide) q)
        go_wp2_with fail
        refine (IX _).mono ?_
        rintro e w1 ⟨rfl, rfl⟩
        go_wp2
        go_ret2
        exact GrpPost.none_ HF.out w
      · have HF := grpF_own 0 d d' x _ 3 B _ HR hd HX (by decide) q
        have hor' : bits .or .i64 (B * 64) x = B * 64 + x := hor.resolve_right q
        clear hor
        go_wp2_with fail
        refine (IX _).mono ?_
        rintro e w1 ⟨rfl, rfl⟩
        go_wp2
        go_roundw
        case rel => exact ⟨4, B * 64 + x, by omega, by go_num, by go_num, by omega, by (try simp only [Int.reducePow] at *); omega, (by first | trivial | rfl), HF⟩
        case measure => simp [intOf]
    · (try simp only [Int.reducePow] at *)
      have hm : bits .and .i64 B 0 = 0 := by rw [and_rem B 0 1 0 (by decide) (by decide) (by decide) hB0 (by omega)]; omega
      have hfin : grpF 0 [a, b, c, d] 0 0 = some [UInt8.ofNat (B / 65536).toNat, UInt8.ofNat (B / 256 % 256).toNat, UInt8.ofNat (B % 256).toNat] := by
        rw [← HR.out]; show fin64 0 B = _; unfold fin64; rw [if_pos (by omega)]; rfl
      have HF := Lib.hid hfin; clear hfin
      go_wp2
      go_ret2
      refine GrpPost.some_ HF.out w 3 rfl [.int .u8 (B / 65536), .int .u8 (B / 256 % 256), .int .u8 (B % 256)] 5 ?_
      exact three_cells B hB0 (by omega) 3 (by omega)
set_option maxHeartbeats 2000000 in
theorem group_t1 (t : ByteArray) (ht : t.size = 4) (w : World) (a b c d : UInt8) (hl : bl t = [a, b, c, d]) (hq : (Lib.trimRightB (bl t) 61).length = 3) : Calls Tryd.prog 58 #[.string t, .bool true] w (GrpPost (grpF 1 [a, b, c, d] 0 0) w) := by
  obtain ⟨a', ha, ha0, ha1⟩ := byte_names a
  obtain ⟨b', hb, hb0, hb1⟩ := byte_names b
  obtain ⟨c', hc, hc0, hc1⟩ := byte_names c
  obtain ⟨d', hd, hd0, hd1⟩ := byte_names d
  have ia := idx_bl (P := Tryd.prog) Tryd.underlying9 t 0 a (by rw [hl]; rfl) .i64 0 rfl a' ha.out
  have ib := idx_bl (P := Tryd.prog) Tryd.underlying9 t 1 b (by rw [hl]; rfl) .i64 1 rfl b' hb.out
  have ic := idx_bl (P := Tryd.prog) Tryd.underlying9 t 2 c (by rw [hl]; rfl) .i64 2 rfl c' hc.out
  have id := idx_bl (P := Tryd.prog) Tryd.underlying9 t 3 d (by rw [hl]; rfl) .i64 3 rfl d' hd.out
  have TR := trimR t 3 hq (by omega)
  clear hl hq
  go_enter Tryd.func58, Tryd.ntmps58
  go_wp2_with fail
  refine (TR _).mono ?_
  rintro e w1 ⟨⟨y, rfl, hy⟩, rfl⟩
  go_wp2
  go_loopw [7, 19] (fun v i wr => ∃ (k : Nat) (B : Int), k ≤ 4 ∧ i = .int .i64 (k : Int) ∧ v = .int .i64 B ∧ 0 ≤ B ∧ B < 64 ^ k ∧ w = wr ∧ Hid (grpF 1 ([a, b, c, d].drop k) k B = grpF 1 [a, b, c, d] 0 0)) (fun _ i _ => 4 - (intOf i).toNat)
  case atStart => exact ⟨0, 0, by omega, rfl, rfl, by omega, by decide, rfl, rfl⟩
  case round =>
    obtain ⟨k, B, hk, rfl, rfl, hB0, hB1, rfl, HR⟩ := hrel
    rcases (show k = 0 ∨ k = 1 ∨ k = 2 ∨ k = 3 ∨ k = 4 by omega) with rfl | rfl | rfl | rfl | rfl
    · obtain ⟨x, hx⟩ : ∃ x, sgnV a' = x := ⟨_, rfl⟩
      have hxb := sgnV_bd a'
      have IX := fun w => indexB signs a' x ((idx_signs a' a ha).trans hx) w
      rw [hx] at hxb
      have HX := Lib.hid hx; clear hx
      unfold signs at IX
      (try simp only [Int.reducePow] at *)
      have hor : bits .or .i64 (B * 64) x = B * 64 + x ∨ x < 0 := by
        by_cases q : x < 0
        · exact .inr q
        · exact .inl (or_sum B x 64 6 (by decide) hB0 (by omega) (by omega) (by omega))
      by_cases q : x < 0
      · have HF := Lib.hid (grpF_bad 1 a a' x _ 0 B _ HR ha HX (by decide) q)
        go_wp2_with fail
        refine (IX _).mono ?_
        rintro e w1 ⟨rfl, rfl⟩
        go_wp2
        go_ret2
        exact GrpPost.none_ HF.out w
      · have HF := grpF_own 1 a a' x _ 0 B _ HR ha HX (by decide) q
        have hor' : bits .or .i64 (B * 64) x = B * 64 + x := hor.resolve_right q
        clear hor
        go_wp2_with fail
        refine (IX _).mono ?_
        rintro e w1 ⟨rfl, rfl⟩
        go_wp2
        go_roundw
        case rel => exact ⟨1, B * 64 + x, by omega, by go_num, by go_num, by omega, by (try simp only [Int.reducePow] at *); omega, (by first | trivial | rfl), HF⟩
        case measure => simp [intOf]
    · obtain ⟨x, hx⟩ : ∃ x, sgnV b' = x := ⟨_, rfl⟩
      have hxb := sgnV_bd b'
      have IX := fun w => indexB signs b' x ((idx_signs b' b hb).trans hx) w
      rw [hx] at hxb
      have HX := Lib.hid hx; clear hx
      unfold signs at IX
      (try simp only [Int.reducePow] at *)
      have hor : bits .or .i64 (B * 64) x = B * 64 + x ∨ x < 0 := by
        by_cases q : x < 0
        · exact .inr q
        · exact .inl (or_sum B x 64 6 (by decide) hB0 (by omega) (by omega) (by omega))
      by_cases q : x < 0
      · have HF := Lib.hid (grpF_bad 1 b b' x _ 1 B _ HR hb HX (by decide) q)
        go_wp2_with fail
        refine (IX _).mono ?_
        rintro e w1 ⟨rfl, rfl⟩
        go_wp2
        go_ret2
        exact GrpPost.none_ HF.out w
      · have HF := grpF_own 1 b b' x _ 1 B _ HR hb HX (by decide) q
        have hor' : bits .or .i64 (B * 64) x = B * 64 + x := hor.resolve_right q
        clear hor
        go_wp2_with fail
        refine (IX _).mono ?_
        rintro e w1 ⟨rfl, rfl⟩
        go_wp2
        go_roundw
        case rel => exact ⟨2, B * 64 + x, by omega, by go_num, by go_num, by omega, by (try simp only [Int.reducePow] at *); omega, (by first | trivial | rfl), HF⟩
        case measure => simp [intOf]
    · obtain ⟨x, hx⟩ : ∃ x, sgnV c' = x := ⟨_, rfl⟩
      have hxb := sgnV_bd c'
      have IX := fun w => indexB signs c' x ((idx_signs c' c hc).trans hx) w
      rw [hx] at hxb
      have HX := Lib.hid hx; clear hx
      unfold signs at IX
      (try simp only [Int.reducePow] at *)
      have hor : bits .or .i64 (B * 64) x = B * 64 + x ∨ x < 0 := by
        by_cases q : x < 0
        · exact .inr q
        · exact .inl (or_sum B x 64 6 (by decide) hB0 (by omega) (by omega) (by omega))
      by_cases q : x < 0
      · have HF := Lib.hid (grpF_bad 1 c c' x _ 2 B _ HR hc HX (by decide) q)
        go_wp2_with fail
        refine (IX _).mono ?_
        rintro e w1 ⟨rfl, rfl⟩
        go_wp2
        go_ret2
        exact GrpPost.none_ HF.out w
      · have HF := grpF_own 1 c c' x _ 2 B _ HR hc HX (by decide) q
        have hor' : bits .or .i64 (B * 64) x = B * 64 + x := hor.resolve_right q
        clear hor
        go_wp2_with fail
        refine (IX _).mono ?_
        rintro e w1 ⟨rfl, rfl⟩
        go_wp2
        go_roundw
        case rel => exact ⟨3, B * 64 + x, by omega, by go_num, by go_num, by omega, by (try simp only [Int.reducePow] at *); omega, (by first | trivial | rfl), HF⟩
        case measure => simp [intOf]
    · have HF := grpF_pad 1 d _ 3 B _ HR (by decide)
      (try simp only [Int.reducePow] at *)
      go_wp2
      go_roundw
      case rel => exact ⟨4, B * 64, by omega, by go_num, by go_num, by omega, by (try simp only [Int.reducePow] at *); omega, (by first | trivial | rfl), HF⟩
      case measure => simp [intOf]
    · (try simp only [Int.reducePow] at *)
      have hm : bits .and .i64 B 255 = B % 256 := and_rem B 255 256 8 (by decide) (by decide) (by decide) hB0 (by omega)
      by_cases hz : B % 256 = 0
      · have hm0 : bits .and .i64 B 255 = 0 := hm.trans hz
        have hfin : grpF 1 [a, b, c, d] 0 0 = some ([UInt8.ofNat (B / 65536).toNat, UInt8.ofNat (B / 256 % 256).toNat, UInt8.ofNat (B % 256).toNat].take 2) := by
          rw [← HR.out]; show fin64 1 B = _; unfold fin64; rw [if_pos (show B % 256 ^ 1 = 0 from hz)]
        have HF := Lib.hid hfin; clear hfin hm hz
        go_wp2
        go_ret2
        refine GrpPost.some_ HF.out w 2 rfl [.int .u8 (B / 65536), .int .u8 (B / 256 % 256), .int .u8 (B % 256)] 5 ?_
        exact three_cells B hB0 (by omega) 2 (by omega)
      · have hm0 : ¬ bits .and .i64 B 255 = 0 := by rw [hm]; exact hz
        have hfin : grpF 1 [a, b, c, d] 0 0 = none := by
          rw [← HR.out]; show fin64 1 B = _; unfold fin64; rw [if_neg (show ¬ B % 256 ^ 1 = 0 from hz)]
        have HF := Lib.hid hfin; clear hfin hm hz
        go_wp2
        go_ret2
        exact GrpPost.none_ HF.out w
set_option maxHeartbeats 2000000 in
theorem group_t2 (t : ByteArray) (ht : t.size = 4) (w : World) (a b c d : UInt8) (hl : bl t = [a, b, c, d]) (hq : (Lib.trimRightB (bl t) 61).length = 2) : Calls Tryd.prog 58 #[.string t, .bool true] w (GrpPost (grpF 2 [a, b, c, d] 0 0) w) := by
  obtain ⟨a', ha, ha0, ha1⟩ := byte_names a
  obtain ⟨b', hb, hb0, hb1⟩ := byte_names b
  obtain ⟨c', hc, hc0, hc1⟩ := byte_names c
  obtain ⟨d', hd, hd0, hd1⟩ := byte_names d
  have ia := idx_bl (P := Tryd.prog) Tryd.underlying9 t 0 a (by rw [hl]; rfl) .i64 0 rfl a' ha.out
  have ib := idx_bl (P := Tryd.prog) Tryd.underlying9 t 1 b (by rw [hl]; rfl) .i64 1 rfl b' hb.out
  have ic := idx_bl (P := Tryd.prog) Tryd.underlying9 t 2 c (by rw [hl]; rfl) .i64 2 rfl c' hc.out
  have id := idx_bl (P := Tryd.prog) Tryd.underlying9 t 3 d (by rw [hl]; rfl) .i64 3 rfl d' hd.out
  have TR := trimR t 2 hq (by omega)
  clear hl hq
  go_enter Tryd.func58, Tryd.ntmps58
  go_wp2_with fail
  refine (TR _).mono ?_
  rintro e w1 ⟨⟨y, rfl, hy⟩, rfl⟩
  go_wp2
  go_loopw [7, 19] (fun v i wr => ∃ (k : Nat) (B : Int), k ≤ 4 ∧ i = .int .i64 (k : Int) ∧ v = .int .i64 B ∧ 0 ≤ B ∧ B < 64 ^ k ∧ w = wr ∧ Hid (grpF 2 ([a, b, c, d].drop k) k B = grpF 2 [a, b, c, d] 0 0)) (fun _ i _ => 4 - (intOf i).toNat)
  case atStart => exact ⟨0, 0, by omega, rfl, rfl, by omega, by decide, rfl, rfl⟩
  case round =>
    obtain ⟨k, B, hk, rfl, rfl, hB0, hB1, rfl, HR⟩ := hrel
    rcases (show k = 0 ∨ k = 1 ∨ k = 2 ∨ k = 3 ∨ k = 4 by omega) with rfl | rfl | rfl | rfl | rfl
    · obtain ⟨x, hx⟩ : ∃ x, sgnV a' = x := ⟨_, rfl⟩
      have hxb := sgnV_bd a'
      have IX := fun w => indexB signs a' x ((idx_signs a' a ha).trans hx) w
      rw [hx] at hxb
      have HX := Lib.hid hx; clear hx
      unfold signs at IX
      (try simp only [Int.reducePow] at *)
      have hor : bits .or .i64 (B * 64) x = B * 64 + x ∨ x < 0 := by
        by_cases q : x < 0
        · exact .inr q
        · exact .inl (or_sum B x 64 6 (by decide) hB0 (by omega) (by omega) (by omega))
      by_cases q : x < 0
      · have HF := Lib.hid (grpF_bad 2 a a' x _ 0 B _ HR ha HX (by decide) q)
        go_wp2_with fail
        refine (IX _).mono ?_
        rintro e w1 ⟨rfl, rfl⟩
        go_wp2
        go_ret2
        exact GrpPost.none_ HF.out w
      · have HF := grpF_own 2 a a' x _ 0 B _ HR ha HX (by decide) q
        have hor' : bits .or .i64 (B * 64) x = B * 64 + x := hor.resolve_right q
        clear hor
        go_wp2_with fail
        refine (IX _).mono ?_
        rintro e w1 ⟨rfl, rfl⟩
        go_wp2
        go_roundw
        case rel => exact ⟨1, B * 64 + x, by omega, by go_num, by go_num, by omega, by (try simp only [Int.reducePow] at *); omega, (by first | trivial | rfl), HF⟩
        case measure => simp [intOf]
    · obtain ⟨x, hx⟩ : ∃ x, sgnV b' = x := ⟨_, rfl⟩
      have hxb := sgnV_bd b'
      have IX := fun w => indexB signs b' x ((idx_signs b' b hb).trans hx) w
      rw [hx] at hxb
      have HX := Lib.hid hx; clear hx
      unfold signs at IX
      (try simp only [Int.reducePow] at *)
      have hor : bits .or .i64 (B * 64) x = B * 64 + x ∨ x < 0 := by
        by_cases q : x < 0
        · exact .inr q
        · exact .inl (or_sum B x 64 6 (by decide) hB0 (by omega) (by omega) (by omega))
      by_cases q : x < 0
      · have HF := Lib.hid (grpF_bad 2 b b' x _ 1 B _ HR hb HX (by decide) q)
        go_wp2_with fail
        refine (IX _).mono ?_
        rintro e w1 ⟨rfl, rfl⟩
        go_wp2
        go_ret2
        exact GrpPost.none_ HF.out w
      · have HF := grpF_own 2 b b' x _ 1 B _ HR hb HX (by decide) q
        have hor' : bits .or .i64 (B * 64) x = B * 64 + x := hor.resolve_right q
        clear hor
        go_wp2_with fail
        refine (IX _).mono ?_
        rintro e w1 ⟨rfl, rfl⟩
        go_wp2
        go_roundw
        case rel => exact ⟨2, B * 64 + x, by omega, by go_num, by go_num, by omega, by (try simp only [Int.reducePow] at *); omega, (by first | trivial | rfl), HF⟩
        case measure => simp [intOf]
    · have HF := grpF_pad 2 c _ 2 B _ HR (by decide)
      (try simp only [Int.reducePow] at *)
      go_wp2
      go_roundw
      case rel => exact ⟨3, B * 64, by omega, by go_num, by go_num, by omega, by (try simp only [Int.reducePow] at *); omega, (by first | trivial | rfl), HF⟩
      case measure => simp [intOf]
    · have HF := grpF_pad 2 d _ 3 B _ HR (by decide)
      (try simp only [Int.reducePow] at *)
      go_wp2
      go_roundw
      case rel => exact ⟨4, B * 64, by omega, by go_num, by go_num, by omega, by (try simp only [Int.reducePow] at *); omega, (by first | trivial | rfl), HF⟩
      case measure => simp [intOf]
    · (try simp only [Int.reducePow] at *)
      have hm : bits .and .i64 B 65535 = B % 65536 := and_rem B 65535 65536 16 (by decide) (by decide) (by decide) hB0 (by omega)
      by_cases hz : B % 65536 = 0
      · have hm0 : bits .and .i64 B 65535 = 0 := hm.trans hz
        have hfin : grpF 2 [a, b, c, d] 0 0 = some ([UInt8.ofNat (B / 65536).toNat, UInt8.ofNat (B / 256 % 256).toNat, UInt8.ofNat (B % 256).toNat].take 1) := by
          rw [← HR.out]; show fin64 2 B = _; unfold fin64; rw [if_pos (show B % 256 ^ 2 = 0 from hz)]
        have HF := Lib.hid hfin; clear hfin hm hz
        go_wp2
        go_ret2
        refine GrpPost.some_ HF.out w 1 rfl [.int .u8 (B / 65536), .int .u8 (B / 256 % 256), .int .u8 (B % 256)] 5 ?_
        exact three_cells B hB0 (by omega) 1 (by omega)
      · have hm0 : ¬ bits .and .i64 B 65535 = 0 := by rw [hm]; exact hz
        have hfin : grpF 2 [a, b, c, d] 0 0 = none := by
          rw [← HR.out]; show fin64 2 B = _; unfold fin64; rw [if_neg (show ¬ B % 256 ^ 2 = 0 from hz)]
        have HF := Lib.hid hfin; clear hfin hm hz
        go_wp2
        go_ret2
        exact GrpPost.none_ HF.out w
theorem group_t3 (t : ByteArray) (ht : t.size = 4) (w : World) (q : Nat) (hq : (Lib.trimRightB (bl t) 61).length = q) (hq1 : q ≤ 1) (r : Option (List UInt8)) (hr : r = none) : Calls Tryd.prog 58 #[.string t, .bool true] w (GrpPost r w) := by
  have TR := trimR t q hq (by omega)
  clear hq
  go_enter Tryd.func58, Tryd.ntmps58
  go_wp2_with fail
  refine (TR _).mono ?_
  rintro e w1 ⟨⟨y, rfl, hy⟩, rfl⟩
  go_wp2
  go_ret2
  exact GrpPost.none_ hr w
end Go.Proofs.YtpfldcfnbgdceaaDoor
