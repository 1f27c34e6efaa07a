/- Walk of the reference's decoder of the second coding. -/
import Derived.Test.YtpfldcfnbgdceaaDoorCodH
import Derived.Test.YtpfldcfnbgdceaaDoorCodE
namespace Go.Proofs.YtpfldcfnbgdceaaDoor
set_option linter.unusedVariables false
set_option linter.unusedSimpArgs false
set_option maxRecDepth 100000
open Go.RowKit
set_option maxHeartbeats 8000000 in
theorem unbase64_ref (ad : Addr) (c : Nat) (s : ByteArray) (w : World) (hs : s.size ≤ 1000000) (hrb : BI ad s w) : Calls Tryd.prog 60 #[.slice (some ad) s.size c] w (DecPost (decB64 (bl s) []) w) := by
  obtain ⟨i0, hi, hz0, hz1, hz2⟩ := info_parts info_u8
  by_cases hodd : s.size % 4 = 0
  · obtain ⟨n, hn⟩ : ∃ n, s.size = 4 * n := ⟨s.size / 4, by omega⟩
    have hr : (s.size : Int).tmod 4 = 0 := by rw [Int.tmod_eq_emod_of_nonneg (by omega)]; omega
    have HN := Lib.hid hn; clear hodd hn
    go_enter Tryd.func60, Tryd.ntmps60
    go_wp2
    go_loopw [4, 5] (fun v i wr => ∃ (m : Nat) (l : List UInt8), m ≤ n ∧ i = .int .i64 (4 * (m : Int)) ∧ l.length ≤ 3 * m ∧ OB 5 w.heap.size v l wr ∧ Below w.heap.size w wr ∧ decB64 ((bl s).drop (4 * m)) l = decB64 (bl s) []) (fun _ i _ => s.size - (intOf i).toNat)
    case atStart => exact ⟨0, [], by omega, rfl, by simp, OB.nil_ _ _ _, Below.refl _ _, rfl⟩
    case round =>
      obtain ⟨m, l, hm, rfl, hl, hown, hbel, hrel⟩ := hrel
      have HR := Lib.hid hrel; clear hrel
      by_cases hlt : m < n
      · have h2 : 4 * m + 4 ≤ s.size := by have := HN.out; omega
        have hd : decide (4 * (m : Int) < s.size) = true := decide_eq_true (by omega)
        have hst := decB64_four _ l _ _ _ _ _ (drop_four s (4 * m) h2)
        rw [HR.out] at hst
        have hlast := (isEmpty_drop s m).resolve_right (by omega)
        have hrw := hrb.later hbel
        obtain ⟨a, a', hau, ha, ha0, ha1, hca⟩ := hrw.byte (4 * m) (by omega)
        obtain ⟨b, b', hbu, hb, hb0, hb1, hcb⟩ := hrw.byteS (4 * m) (by omega)
        obtain ⟨c0, c', hcu, hc, hc0, hc1, hcc⟩ := hrw.byteS (4 * m + 1) (by omega)
        obtain ⟨d, d', hdu, hd', hd0, hd1, hcd⟩ := hrw.byteS (4 * m + 2) (by omega)
        rw [hlast.symm, ← hau.out, ← hbu.out, ← hcu.out, ← hdu.out] at hst
        have HS := Lib.hid hst; clear hst hlast
        have n3 : (4 * (m : Int) + 3).toNat = 4 * m + 3 := by omega
        have n2 : (4 * (m : Int) + 2).toNat = 4 * m + 2 := by omega
        have n1 : (4 * (m : Int) + 1).toNat = 4 * m + 1 := by omega
        have l3 : 4 * (m : Int) + 3 < s.size := by omega
        have l2 : 4 * (m : Int) + 2 < s.size := by omega
        have l1 : 4 * (m : Int) + 1 < s.size := by omega
        by_cases hla : 4 * m + 4 = s.size
        · have hd1 : (4 * (m : Int) + 4 == s.size) = true := beq_iff_eq.2 (by omega)
          clear hla
          by_cases q1 : d' = 61
          · by_cases q2 : c' = 61
            · skip
              have hgr : grp true [a, b, c0, d] = grpF 2 [a, b, c0, d] 0 0 := by
                rw [u8_of (n := 61) hd' (by decide) q1, u8_of (n := 61) hc (by decide) q2]; rfl
              have hst2 := HS.out
              rw [hd1, hgr] at hst2
              have HG := Lib.hid hst2; clear hst2 hgr HS
              have hq1 := Lib.hid q1
              obtain ⟨W2, rfl⟩ : ∃ W2 : World, W2 = wr := ⟨_, rfl⟩
              go_wp2
              go_loopw [7, 8] (fun v i wr => ∃ (k : Nat) (B : Int), k ≤ 4 ∧ i = .int .i64 (k : Int) ∧ v = .int .i64 B ∧ 0 ≤ B ∧ B < 64 ^ k ∧ W2 = wr ∧ Hid (grpF 2 ([a, b, c0, d].drop k) k B = grpF 2 [a, b, c0, d] 0 0)) (fun _ i _ => 4 - (intOf i).toNat)
              case atStart => exact ⟨0, 0, by omega, rfl, rfl, by omega, by decide, rfl, rfl⟩
              case round =>
                obtain ⟨k, B, hk, rfl, rfl, hB0, hB1, rfl, HK⟩ := hrel
                rcases (show k = 0 ∨ k = 1 ∨ k = 2 ∨ k = 3 ∨ k = 4 by omega) with rfl | rfl | rfl | rfl | rfl
                · obtain ⟨x, hx⟩ : ∃ x, sgnV a' = x := ⟨_, rfl⟩
                  have hxb := sgnV_bd a'
                  have A1 := fun w => csign_ref a' w (by omega) (by omega)
                  rw [hx] at hxb A1
                  have HX := Lib.hid hx; clear hx
                  (try simp only [Int.reducePow] at *)
                  by_cases q : x < 0
                  · have HF := Lib.hid (grpF_bad 2 a a' x _ 0 B _ HK ha HX (by decide) q)
                    go_wp2_with (go_at_call 74; refine (A1 _).mono ?_; rintro e w1 ⟨rfl, rfl⟩)
                    go_ret2
                    exact DecPost.none_ (by rw [HG.out, HF.out]) hbel
                  · have HF := grpF_own 2 a a' x _ 0 B _ HK ha HX (by decide) q
                    have hor : bits .or .i64 (B * 64) x = B * 64 + x := or_sum B x 64 6 (by decide) hB0 (by omega) (by omega) (by omega)
                    go_wp2_with (go_at_call 74; refine (A1 _).mono ?_; rintro e w1 ⟨rfl, rfl⟩)
                    go_roundw
                    case rel => first | exact ⟨1, B * 64 + x, by omega, by go_num, by go_num, by omega, by (try simp only [Int.reducePow] at *); omega, (by first | trivial | rfl), HF⟩ | ((repeat apply Exists.intro); exact ⟨⟨1, B * 64 + x, by omega, by go_num, by go_num, by omega, by (try simp only [Int.reducePow] at *); omega, (by first | trivial | rfl), HF⟩, rfl⟩)
                    case measure => simp [intOf]
                · obtain ⟨x, hx⟩ : ∃ x, sgnV b' = x := ⟨_, rfl⟩
                  have hxb := sgnV_bd b'
                  have A1 := fun w => csign_ref b' w (by omega) (by omega)
                  rw [hx] at hxb A1
                  have HX := Lib.hid hx; clear hx
                  (try simp only [Int.reducePow] at *)
                  by_cases q : x < 0
                  · have HF := Lib.hid (grpF_bad 2 b b' x _ 1 B _ HK hb HX (by decide) q)
                    go_wp2_with (go_at_call 74; refine (A1 _).mono ?_; rintro e w1 ⟨rfl, rfl⟩)
                    go_ret2
                    exact DecPost.none_ (by rw [HG.out, HF.out]) hbel
                  · have HF := grpF_own 2 b b' x _ 1 B _ HK hb HX (by decide) q
                    have hor : bits .or .i64 (B * 64) x = B * 64 + x := or_sum B x 64 6 (by decide) hB0 (by omega) (by omega) (by omega)
                    go_wp2_with (go_at_call 74; refine (A1 _).mono ?_; rintro e w1 ⟨rfl, rfl⟩)
                    go_roundw
                    case rel => first | exact ⟨2, B * 64 + x, by omega, by go_num, by go_num, by omega, by (try simp only [Int.reducePow] at *); omega, (by first | trivial | rfl), HF⟩ | ((repeat apply Exists.intro); exact ⟨⟨2, B * 64 + x, by omega, by go_num, by go_num, by omega, by (try simp only [Int.reducePow] at *); omega, (by first | trivial | rfl), HF⟩, rfl⟩)
                    case measure => simp [intOf]
                · have HF := grpF_pad 2 c0 _ 2 B _ HK (by decide)
                  (try simp only [Int.reducePow] at *)
                  have hor : bits .or .i64 (B * 64) 0 = B * 64 := by rw [or_sum B 0 64 6 (by decide) hB0 (by omega) (by omega) (by omega)]; omega
                  go_wp2
                  go_roundw
                  case rel => first | exact ⟨3, B * 64, by omega, by go_num, by go_num, by omega, by (try simp only [Int.reducePow] at *); omega, (by first | trivial | rfl), HF⟩ | ((repeat apply Exists.intro); exact ⟨⟨3, B * 64, by omega, by go_num, by go_num, by omega, by (try simp only [Int.reducePow] at *); omega, (by first | trivial | rfl), HF⟩, rfl⟩)
                  case measure => simp [intOf]
                · have HF := grpF_pad 2 d _ 3 B _ HK (by decide)
                  (try simp only [Int.reducePow] at *)
                  have hor : bits .or .i64 (B * 64) 0 = B * 64 := by rw [or_sum B 0 64 6 (by decide) hB0 (by omega) (by omega) (by omega)]; omega
                  go_wp2
                  go_roundw
                  case rel => first | exact ⟨4, B * 64, by omega, by go_num, by go_num, by omega, by (try simp only [Int.reducePow] at *); omega, (by first | trivial | rfl), HF⟩ | ((repeat apply Exists.intro); exact ⟨⟨4, B * 64, by omega, by go_num, by go_num, by omega, by (try simp only [Int.reducePow] at *); omega, (by first | trivial | rfl), HF⟩, rfl⟩)
                  case measure => simp [intOf]
                · (try simp only [Int.reducePow] at *)
                  have hm : bits .and .i64 B 65535 = B % 65536 := and_rem B 65535 65536 16 (by decide) (by decide) (by decide) hB0 (by omega)
                  by_cases hz : B % 65536 = 0
                  · have hm0 : bits .and .i64 B 65535 = 0 := hm.trans hz
                    have hfin : grpF 2 [a, b, c0, d] 0 0 = some ([UInt8.ofNat (B / 65536).toNat, UInt8.ofNat (B / 256 % 256).toNat, UInt8.ofNat (B % 256).toNat].take 1) := by
                      rw [← HK.out]; show fin64 2 B = _; unfold fin64; rw [if_pos (show B % 256 ^ 2 = 0 from hz)]
                    have HF := Lib.hid hfin; clear hfin hm hz
                    have hcell := three_cells B hB0 (by omega) 1 (by omega)
                    have HC := Lib.hid hcell; clear hcell
                    have hbelA := (Below.refl W2.heap.size W2).alloc (Nat.le_refl _) (.cells #[.int .u8 (B / 65536), .int .u8 (B / 256 % 256), .int .u8 (B % 256)] 5)
                    have hownA := hown.below hbelA
                    have hbel1 := hbel.trans (hbelA.mono hbel.size)
                    go_wp2_with (at_builtin; refine app_row Tryd.underlying23 hi hz0 hz1 hz2 _ _ _ _ ([UInt8.ofNat (B / 65536).toNat, UInt8.ofNat (B / 256 % 256).toNat, UInt8.ofNat (B % 256).toNat].take 1) _ _ _ rfl rfl rfl (by rfl) hownA (fun j hj => by rw [World.cell?_alloc_mark]; simpa using HC.out j hj) (by simp; omega) hbel1.size ?_; intro v1 w3 hown3 hb3)
                    go_roundw
                    case rel =>
                      have hs2 := HG.out
                      rw [HF.out] at hs2
                      exact ⟨m + 1, _, by omega, by go_num, by simp; omega, hown3, hbel1.trans hb3, hs2.symm⟩
                    case measure => simp [intOf]; omega
                  · have hm0 : ¬ bits .and .i64 B 65535 = 0 := by rw [hm]; exact hz
                    have hfin : grpF 2 [a, b, c0, d] 0 0 = none := by
                      rw [← HK.out]; show fin64 2 B = _; unfold fin64; rw [if_neg (show ¬ B % 256 ^ 2 = 0 from hz)]
                    have HF := Lib.hid hfin; clear hfin hm hz
                    go_wp2
                    go_ret2
                    exact DecPost.none_ (by rw [HG.out, HF.out]) hbel
            · skip
              have hb2 : (c' == 61) = false := by rw [beq_eq_false_iff_ne]; exact q2
              have hgr : grp true [a, b, c0, d] = grpF 1 [a, b, c0, d] 0 0 := by
                show grpF (padsOf c0 d true) _ 0 0 = _; unfold padsOf; rw [u8_of (n := 61) hd' (by decide) q1, if_pos (by decide), if_neg (by simpa using u8_ne (n := 61) hc (by decide) q2)]
              have hst2 := HS.out
              rw [hd1, hgr] at hst2
              have HG := Lib.hid hst2; clear hst2 hgr HS
              have hq1 := Lib.hid q1
              obtain ⟨W2, rfl⟩ : ∃ W2 : World, W2 = wr := ⟨_, rfl⟩
              go_wp2
              go_loopw [7, 8] (fun v i wr => ∃ (k : Nat) (B : Int), k ≤ 4 ∧ i = .int .i64 (k : Int) ∧ v = .int .i64 B ∧ 0 ≤ B ∧ B < 64 ^ k ∧ W2 = wr ∧ Hid (grpF 1 ([a, b, c0, d].drop k) k B = grpF 1 [a, b, c0, d] 0 0)) (fun _ i _ => 4 - (intOf i).toNat)
              case atStart => exact ⟨0, 0, by omega, rfl, rfl, by omega, by decide, rfl, rfl⟩
              case round =>
                obtain ⟨k, B, hk, rfl, rfl, hB0, hB1, rfl, HK⟩ := hrel
                rcases (show k = 0 ∨ k = 1 ∨ k = 2 ∨ k = 3 ∨ k = 4 by omega) with rfl | rfl | rfl | rfl | rfl
                · obtain ⟨x, hx⟩ : ∃ x, sgnV a' = x := ⟨_, rfl⟩
                  have hxb := sgnV_bd a'
                  have A1 := fun w => csign_ref a' w (by omega) (by omega)
                  rw [hx] at hxb A1
                  have HX := Lib.hid hx; clear hx
                  (try simp only [Int.reducePow] at *)
                  by_cases q : x < 0
                  · have HF := Lib.hid (grpF_bad 1 a a' x _ 0 B _ HK ha HX (by decide) q)
                    go_wp2_with (go_at_call 74; refine (A1 _).mono ?_; rintro e w1 ⟨rfl, rfl⟩)
                    go_ret2
                    exact DecPost.none_ (by rw [HG.out, HF.out]) hbel
                  · have HF := grpF_own 1 a a' x _ 0 B _ HK ha HX (by decide) q
                    have hor : bits .or .i64 (B * 64) x = B * 64 + x := or_sum B x 64 6 (by decide) hB0 (by omega) (by omega) (by omega)
                    go_wp2_with (go_at_call 74; refine (A1 _).mono ?_; rintro e w1 ⟨rfl, rfl⟩)
                    go_roundw
                    case rel => first | exact ⟨1, B * 64 + x, by omega, by go_num, by go_num, by omega, by (try simp only [Int.reducePow] at *); omega, (by first | trivial | rfl), HF⟩ | ((repeat apply Exists.intro); exact ⟨⟨1, B * 64 + x, by omega, by go_num, by go_num, by omega, by (try simp only [Int.reducePow] at *); omega, (by first | trivial | rfl), HF⟩, rfl⟩)
                    case measure => simp [intOf]
                · obtain ⟨x, hx⟩ : ∃ x, sgnV b' = x := ⟨_, rfl⟩
                  have hxb := sgnV_bd b'
                  have A1 := fun w => csign_ref b' w (by omega) (by omega)
                  rw [hx] at hxb A1
                  have HX := Lib.hid hx; clear hx
                  (try simp only [Int.reducePow] at *)
                  by_cases q : x < 0
                  · have HF := Lib.hid (grpF_bad 1 b b' x _ 1 B _ HK hb HX (by decide) q)
                    go_wp2_with (go_at_call 74; refine (A1 _).mono ?_; rintro e w1 ⟨rfl, rfl⟩)
                    go_ret2
                    exact DecPost.none_ (by rw [HG.out, HF.out]) hbel
                  · have HF := grpF_own 1 b b' x _ 1 B _ HK hb HX (by decide) q
                    have hor : bits .or .i64 (B * 64) x = B * 64 + x := or_sum B x 64 6 (by decide) hB0 (by omega) (by omega) (by omega)
                    go_wp2_with (go_at_call 74; refine (A1 _).mono ?_; rintro e w1 ⟨rfl, rfl⟩)
                    go_roundw
                    case rel => first | exact ⟨2, B * 64 + x, by omega, by go_num, by go_num, by omega, by (try simp only [Int.reducePow] at *); omega, (by first | trivial | rfl), HF⟩ | ((repeat apply Exists.intro); exact ⟨⟨2, B * 64 + x, by omega, by go_num, by go_num, by omega, by (try simp only [Int.reducePow] at *); omega, (by first | trivial | rfl), HF⟩, rfl⟩)
                    case measure => simp [intOf]
                · obtain ⟨x, hx⟩ : ∃ x, sgnV c' = x := ⟨_, rfl⟩
                  have hxb := sgnV_bd c'
                  have A1 := fun w => csign_ref c' w (by omega) (by omega)
                  rw [hx] at hxb A1
                  have HX := Lib.hid hx; clear hx
                  (try simp only [Int.reducePow] at *)
                  by_cases q : x < 0
                  · have HF := Lib.hid (grpF_bad 1 c0 c' x _ 2 B _ HK hc HX (by decide) q)
                    go_wp2_with (go_at_call 74; refine (A1 _).mono ?_; rintro e w1 ⟨rfl, rfl⟩)
                    go_ret2
                    exact DecPost.none_ (by rw [HG.out, HF.out]) hbel
                  · have HF := grpF_own 1 c0 c' x _ 2 B _ HK hc HX (by decide) q
                    have hor : bits .or .i64 (B * 64) x = B * 64 + x := or_sum B x 64 6 (by decide) hB0 (by omega) (by omega) (by omega)
                    go_wp2_with (go_at_call 74; refine (A1 _).mono ?_; rintro e w1 ⟨rfl, rfl⟩)
                    go_roundw
                    case rel => first | exact ⟨3, B * 64 + x, by omega, by go_num, by go_num, by omega, by (try simp only [Int.reducePow] at *); omega, (by first | trivial | rfl), HF⟩ | ((repeat apply Exists.intro); exact ⟨⟨3, B * 64 + x, by omega, by go_num, by go_num, by omega, by (try simp only [Int.reducePow] at *); omega, (by first | trivial | rfl), HF⟩, rfl⟩)
                    case measure => simp [intOf]
                · have HF := grpF_pad 1 d _ 3 B _ HK (by decide)
                  (try simp only [Int.reducePow] at *)
                  have hor : bits .or .i64 (B * 64) 0 = B * 64 := by rw [or_sum B 0 64 6 (by decide) hB0 (by omega) (by omega) (by omega)]; omega
                  go_wp2
                  go_roundw
                  case rel => first | exact ⟨4, B * 64, by omega, by go_num, by go_num, by omega, by (try simp only [Int.reducePow] at *); omega, (by first | trivial | rfl), HF⟩ | ((repeat apply Exists.intro); exact ⟨⟨4, B * 64, by omega, by go_num, by go_num, by omega, by (try simp only [Int.reducePow] at *); omega, (by first | trivial | rfl), HF⟩, rfl⟩)
                  case measure => simp [intOf]
                · (try simp only [Int.reducePow] at *)
                  have hm : bits .and .i64 B 255 = B % 256 := and_rem B 255 256 8 (by decide) (by decide) (by decide) hB0 (by omega)
                  by_cases hz : B % 256 = 0
                  · have hm0 : bits .and .i64 B 255 = 0 := hm.trans hz
                    have hfin : grpF 1 [a, b, c0, d] 0 0 = some ([UInt8.ofNat (B / 65536).toNat, UInt8.ofNat (B / 256 % 256).toNat, UInt8.ofNat (B % 256).toNat].take 2) := by
                      rw [← HK.out]; show fin64 1 B = _; unfold fin64; rw [if_pos (show B % 256 ^ 1 = 0 from hz)]
                    have HF := Lib.hid hfin; clear hfin hm hz
                    have hcell := three_cells B hB0 (by omega) 2 (by omega)
                    have HC := Lib.hid hcell; clear hcell
                    have hbelA := (Below.refl W2.heap.size W2).alloc (Nat.le_refl _) (.cells #[.int .u8 (B / 65536), .int .u8 (B / 256 % 256), .int .u8 (B % 256)] 5)
                    have hownA := hown.below hbelA
                    have hbel1 := hbel.trans (hbelA.mono hbel.size)
                    go_wp2_with (at_builtin; refine app_row Tryd.underlying23 hi hz0 hz1 hz2 _ _ _ _ ([UInt8.ofNat (B / 65536).toNat, UInt8.ofNat (B / 256 % 256).toNat, UInt8.ofNat (B % 256).toNat].take 2) _ _ _ rfl rfl rfl (by rfl) hownA (fun j hj => by rw [World.cell?_alloc_mark]; simpa using HC.out j hj) (by simp; omega) hbel1.size ?_; intro v1 w3 hown3 hb3)
                    go_roundw
                    case rel =>
                      have hs2 := HG.out
                      rw [HF.out] at hs2
                      exact ⟨m + 1, _, by omega, by go_num, by simp; omega, hown3, hbel1.trans hb3, hs2.symm⟩
                    case measure => simp [intOf]; omega
                  · have hm0 : ¬ bits .and .i64 B 255 = 0 := by rw [hm]; exact hz
                    have hfin : grpF 1 [a, b, c0, d] 0 0 = none := by
                      rw [← HK.out]; show fin64 1 B = _; unfold fin64; rw [if_neg (show ¬ B % 256 ^ 1 = 0 from hz)]
                    have HF := Lib.hid hfin; clear hfin hm hz
                    go_wp2
                    go_ret2
                    exact DecPost.none_ (by rw [HG.out, HF.out]) hbel
          · skip
            have hb2 : (d' == 61) = false := by rw [beq_eq_false_iff_ne]; exact q1
            have hgr : grp true [a, b, c0, d] = grpF 0 [a, b, c0, d] 0 0 := by
              show grpF (padsOf c0 d true) _ 0 0 = _; unfold padsOf; rw [if_neg (by simpa using u8_ne (n := 61) hd' (by decide) q1)]
            have hst2 := HS.out
            rw [hd1, hgr] at hst2
            have HG := Lib.hid hst2; clear hst2 hgr HS
            obtain ⟨W2, rfl⟩ : ∃ W2 : World, W2 = wr := ⟨_, rfl⟩
            go_wp2
            go_loopw [7, 8] (fun v i wr => ∃ (k : Nat) (B : Int), k ≤ 4 ∧ i = .int .i64 (k : Int) ∧ v = .int .i64 B ∧ 0 ≤ B ∧ B < 64 ^ k ∧ W2 = wr ∧ Hid (grpF 0 ([a, b, c0, d].drop k) k B = grpF 0 [a, b, c0, d] 0 0)) (fun _ i _ => 4 - (intOf i).toNat)
            case atStart => exact ⟨0, 0, by omega, rfl, rfl, by omega, by decide, rfl, rfl⟩
            case round =>
              obtain ⟨k, B, hk, rfl, rfl, hB0, hB1, rfl, HK⟩ := hrel
              rcases (show k = 0 ∨ k = 1 ∨ k = 2 ∨ k = 3 ∨ k = 4 by omega) with rfl | rfl | rfl | rfl | rfl
              · obtain ⟨x, hx⟩ : ∃ x, sgnV a' = x := ⟨_, rfl⟩
                have hxb := sgnV_bd a'
                have A1 := fun w => csign_ref a' w (by omega) (by omega)
                rw [hx] at hxb A1
                have HX := Lib.hid hx; clear hx
                (try simp only [Int.reducePow] at *)
                by_cases q : x < 0
                · have HF := Lib.hid (grpF_bad 0 a a' x _ 0 B _ HK ha HX (by decide) q)
                  go_wp2_with (go_at_call 74; refine (A1 _).mono ?_; rintro e w1 ⟨rfl, rfl⟩)
                  go_ret2
                  exact DecPost.none_ (by rw [HG.out, HF.out]) hbel
                · have HF := grpF_own 0 a a' x _ 0 B _ HK ha HX (by decide) q
                  have hor : bits .or .i64 (B * 64) x = B * 64 + x := or_sum B x 64 6 (by decide) hB0 (by omega) (by omega) (by omega)
                  go_wp2_with (go_at_call 74; refine (A1 _).mono ?_; rintro e w1 ⟨rfl, rfl⟩)
                  go_roundw
                  case rel => first | exact ⟨1, B * 64 + x, by omega, by go_num, by go_num, by omega, by (try simp only [Int.reducePow] at *); omega, (by first | trivial | rfl), HF⟩ | ((repeat apply Exists.intro); exact ⟨⟨1, B * 64 + x, by omega, by go_num, by go_num, by omega, by (try simp only [Int.reducePow] at *); omega, (by first | trivial | rfl), HF⟩, rfl⟩)
                  case measure => simp [intOf]
              · obtain ⟨x, hx⟩ : ∃ x, sgnV b' = x := ⟨_, rfl⟩
                have hxb := sgnV_bd b'
                have A1 := fun w => csign_ref b' w (by omega) (by omega)
                rw [hx] at hxb A1
                have HX := Lib.hid hx; clear hx
                (try simp only [Int.reducePow] at *)
                by_cases q : x < 0
                · have HF := Lib.hid (grpF_bad 0 b b' x _ 1 B _ HK hb HX (by decide) q)
                  go_wp2_with (go_at_call 74; refine (A1 _).mono ?_; rintro e w1 ⟨rfl, rfl⟩)
                  go_ret2
                  exact DecPost.none_ (by rw [HG.out, HF.out]) hbel
                · have HF := grpF_own 0 b b' x _ 1 B _ HK hb HX (by decide) q
                  have hor : bits .or .i64 (B * 64) x = B * 64 + x := or_sum B x 64 6 (by decide) hB0 (by omega) (by omega) (by omega)
                  go_wp2_with (go_at_call 74; refine (A1 _).mono ?_; rintro e w1 ⟨rfl, rfl⟩)
                  go_roundw
                  case rel => first | exact ⟨2, B * 64 + x, by omega, by go_num, by go_num, by omega, by (try simp only [Int.reducePow] at *); omega, (by first | trivial | rfl), HF⟩ | ((repeat apply Exists.intro); exact ⟨⟨2, B * 64 + x, by omega, by go_num, by go_num, by omega, by (try simp only [Int.reducePow] at *); omega, (by first | trivial | rfl), HF⟩, rfl⟩)
                  case measure => simp [intOf]
              · obtain ⟨x, hx⟩ : ∃ x, sgnV c' = x := ⟨_, rfl⟩
                have hxb := sgnV_bd c'
                have A1 := fun w => csign_ref c' w (by omega) (by omega)
                rw [hx] at hxb A1
                have HX := Lib.hid hx; clear hx
                (try simp only [Int.reducePow] at *)
                by_cases q : x < 0
                · have HF := Lib.hid (grpF_bad 0 c0 c' x _ 2 B _ HK hc HX (by decide) q)
                  go_wp2_with (go_at_call 74; refine (A1 _).mono ?_; rintro e w1 ⟨rfl, rfl⟩)
                  go_ret2
                  exact DecPost.none_ (by rw [HG.out, HF.out]) hbel
                · have HF := grpF_own 0 c0 c' x _ 2 B _ HK hc HX (by decide) q
                  have hor : bits .or .i64 (B * 64) x = B * 64 + x := or_sum B x 64 6 (by decide) hB0 (by omega) (by omega) (by omega)
                  go_wp2_with (go_at_call 74; refine (A1 _).mono ?_; rintro e w1 ⟨rfl, rfl⟩)
                  go_roundw
                  case rel => first | exact ⟨3, B * 64 + x, by omega, by go_num, by go_num, by omega, by (try simp only [Int.reducePow] at *); omega, (by first | trivial | rfl), HF⟩ | ((repeat apply Exists.intro); exact ⟨⟨3, B * 64 + x, by omega, by go_num, by go_num, by omega, by (try simp only [Int.reducePow] at *); omega, (by first | trivial | rfl), HF⟩, rfl⟩)
                  case measure => simp [intOf]
              · obtain ⟨x, hx⟩ : ∃ x, sgnV d' = x := ⟨_, rfl⟩
                have hxb := sgnV_bd d'
                have A1 := fun w => csign_ref d' w (by omega) (by omega)
                rw [hx] at hxb A1
                have HX := Lib.hid hx; clear hx
                (try simp only [Int.reducePow] at *)
                by_cases q : x < 0
                · have HF := Lib.hid (grpF_bad 0 d d' x _ 3 B _ HK hd' HX (by decide) q)
                  go_wp2_with (go_at_call 74; refine (A1 _).mono ?_; rintro e w1 ⟨rfl, rfl⟩)
                  go_ret2
                  exact DecPost.none_ (by rw [HG.out, HF.out]) hbel
                · have HF := grpF_own 0 d d' x _ 3 B _ HK hd' HX (by decide) q
                  have hor : bits .or .i64 (B * 64) x = B * 64 + x := or_sum B x 64 6 (by decide) hB0 (by omega) (by omega) (by omega)
                  go_wp2_with (go_at_call 74; refine (A1 _).mono ?_; rintro e w1 ⟨rfl, rfl⟩)
                  go_roundw
                  case rel => first | exact ⟨4, B * 64 + x, by omega, by go_num, by go_num, by omega, by (try simp only [Int.reducePow] at *); omega, (by first | trivial | rfl), HF⟩ | ((repeat apply Exists.intro); exact ⟨⟨4, B * 64 + x, by omega, by go_num, by go_num, by omega, by (try simp only [Int.reducePow] at *); omega, (by first | trivial | rfl), HF⟩, rfl⟩)
                  case measure => simp [intOf]
              · (try simp only [Int.reducePow] at *)
                have hfin : grpF 0 [a, b, c0, d] 0 0 = some ([UInt8.ofNat (B / 65536).toNat, UInt8.ofNat (B / 256 % 256).toNat, UInt8.ofNat (B % 256).toNat].take 3) := by
                  rw [← HK.out]; show fin64 0 B = _; unfold fin64; rw [if_pos (by omega)]
                have HF := Lib.hid hfin; clear hfin
                have hcell := three_cells B hB0 (by omega) 3 (by omega)
                have HC := Lib.hid hcell; clear hcell
                have hbelA := (Below.refl W2.heap.size W2).alloc (Nat.le_refl _) (.cells #[.int .u8 (B / 65536), .int .u8 (B / 256 % 256), .int .u8 (B % 256)] 5)
                have hownA := hown.below hbelA
                have hbel1 := hbel.trans (hbelA.mono hbel.size)
                go_wp2_with (at_builtin; refine app_row Tryd.underlying23 hi hz0 hz1 hz2 _ _ _ _ ([UInt8.ofNat (B / 65536).toNat, UInt8.ofNat (B / 256 % 256).toNat, UInt8.ofNat (B % 256).toNat].take 3) _ _ _ rfl rfl rfl (by rfl) hownA (fun j hj => by rw [World.cell?_alloc_mark]; simpa using HC.out j hj) (by simp; omega) hbel1.size ?_; intro v1 w3 hown3 hb3)
                go_roundw
                case rel =>
                  have hs2 := HG.out
                  rw [HF.out] at hs2
                  exact ⟨m + 1, _, by omega, by go_num, by simp; omega, hown3, hbel1.trans hb3, hs2.symm⟩
                case measure => simp [intOf]; omega
        · have hd1 : (4 * (m : Int) + 4 == s.size) = false := by rw [beq_eq_false_iff_ne]; omega
          have hgr : grp false [a, b, c0, d] = grpF 0 [a, b, c0, d] 0 0 := by
            rfl
          have hst2 := HS.out
          rw [hd1, hgr] at hst2
          have HG := Lib.hid hst2; clear hst2 hgr HS
          obtain ⟨W2, rfl⟩ : ∃ W2 : World, W2 = wr := ⟨_, rfl⟩
          go_wp2
          go_loopw [7, 8] (fun v i wr => ∃ (k : Nat) (B : Int), k ≤ 4 ∧ i = .int .i64 (k : Int) ∧ v = .int .i64 B ∧ 0 ≤ B ∧ B < 64 ^ k ∧ W2 = wr ∧ Hid (grpF 0 ([a, b, c0, d].drop k) k B = grpF 0 [a, b, c0, d] 0 0)) (fun _ i _ => 4 - (intOf i).toNat)
          case atStart => exact ⟨0, 0, by omega, rfl, rfl, by omega, by decide, rfl, rfl⟩
          case round =>
            obtain ⟨k, B, hk, rfl, rfl, hB0, hB1, rfl, HK⟩ := hrel
            rcases (show k = 0 ∨ k = 1 ∨ k = 2 ∨ k = 3 ∨ k = 4 by omega) with rfl | rfl | rfl | rfl | rfl
            · obtain ⟨x, hx⟩ : ∃ x, sgnV a' = x := ⟨_, rfl⟩
              have hxb := sgnV_bd a'
              have A1 := fun w => csign_ref a' w (by omega) (by omega)
              rw [hx] at hxb A1
              have HX := Lib.hid hx; clear hx
              (try simp only [Int.reducePow] at *)
              by_cases q : x < 0
              · have HF := Lib.hid (grpF_bad 0 a a' x _ 0 B _ HK ha HX (by decide) q)
                go_wp2_with (go_at_call 74; refine (A1 _).mono ?_; rintro e w1 ⟨rfl, rfl⟩)
                go_ret2
                exact DecPost.none_ (by rw [HG.out, HF.out]) hbel
              · have HF := grpF_own 0 a a' x _ 0 B _ HK ha HX (by decide) q
                have hor : bits .or .i64 (B * 64) x = B * 64 + x := or_sum B x 64 6 (by decide) hB0 (by omega) (by omega) (by omega)
                go_wp2_with (go_at_call 74; refine (A1 _).mono ?_; rintro e w1 ⟨rfl, rfl⟩)
                go_roundw
                case rel => first | exact ⟨1, B * 64 + x, by omega, by go_num, by go_num, by omega, by (try simp only [Int.reducePow] at *); omega, (by first | trivial | rfl), HF⟩ | ((repeat apply Exists.intro); exact ⟨⟨1, B * 64 + x, by omega, by go_num, by go_num, by omega, by (try simp only [Int.reducePow] at *); omega, (by first | trivial | rfl), HF⟩, rfl⟩)
                case measure => simp [intOf]
            · obtain ⟨x, hx⟩ : ∃ x, sgnV b' = x := ⟨_, rfl⟩
              have hxb := sgnV_bd b'
              have A1 := fun w => csign_ref b' w (by omega) (by omega)
              rw [hx] at hxb A1
              have HX := Lib.hid hx; clear hx
              (try simp only [Int.reducePow] at *)
              by_cases q : x < 0
              · have HF := Lib.hid (grpF_bad 0 b b' x _ 1 B _ HK hb HX (by decide) q)
                go_wp2_with (go_at_call 74; refine (A1 _).mono ?_; rintro e w1 ⟨rfl, rfl⟩)
                go_ret2
                exact DecPost.none_ (by rw [HG.out, HF.out]) hbel
              · have HF := grpF_own 0 b b' x _ 1 B _ HK hb HX (by decide) q
                have hor : bits .or .i64 (B * 64) x = B * 64 + x := or_sum B x 64 6 (by decide) hB0 (by omega) (by omega) (by omega)
                go_wp2_with (go_at_call 74; refine (A1 _).mono ?_; rintro e w1 ⟨rfl, rfl⟩)
                go_roundw
                case rel => first | exact ⟨2, B * 64 + x, by omega, by go_num, by go_num, by omega, by (try simp only [Int.reducePow] at *); omega, (by first | trivial | rfl), HF⟩ | ((repeat apply Exists.intro); exact ⟨⟨2, B * 64 + x, by omega, by go_num, by go_num, by omega, by (try simp only [Int.reducePow] at *); omega, (by first | trivial | rfl), HF⟩, rfl⟩)
                case measure => simp [intOf]
            · obtain ⟨x, hx⟩ : ∃ x, sgnV c' = x := ⟨_, rfl⟩
              have hxb := sgnV_bd c'
              have A1 := fun w => csign_ref c' w (by omega) (by omega)
              rw [hx] at hxb A1
              have HX := Lib.hid hx; clear hx
              (try simp only [Int.reducePow] at *)
              by_cases q : x < 0
              · have HF := Lib.hid (grpF_bad 0 c0 c' x _ 2 B _ HK hc HX (by decide) q)
                go_wp2_with (go_at_call 74; refine (A1 _).mono ?_; rintro e w1 ⟨rfl, rfl⟩)
                go_ret2
                exact DecPost.none_ (by rw [HG.out, HF.out]) hbel
              · have HF := grpF_own 0 c0 c' x _ 2 B _ HK hc HX (by decide) q
                have hor : bits .or .i64 (B * 64) x = B * 64 + x := or_sum B x 64 6 (by decide) hB0 (by omega) (by omega) (by omega)
                go_wp2_with (go_at_call 74; refine (A1 _).mono ?_; rintro e w1 ⟨rfl, rfl⟩)
                go_roundw
                case rel => first | exact ⟨3, B * 64 + x, by omega, by go_num, by go_num, by omega, by (try simp only [Int.reducePow] at *); omega, (by first | trivial | rfl), HF⟩ | ((repeat apply Exists.intro); exact ⟨⟨3, B * 64 + x, by omega, by go_num, by go_num, by omega, by (try simp only [Int.reducePow] at *); omega, (by first | trivial | rfl), HF⟩, rfl⟩)
                case measure => simp [intOf]
            · obtain ⟨x, hx⟩ : ∃ x, sgnV d' = x := ⟨_, rfl⟩
              have hxb := sgnV_bd d'
              have A1 := fun w => csign_ref d' w (by omega) (by omega)
              rw [hx] at hxb A1
              have HX := Lib.hid hx; clear hx
              (try simp only [Int.reducePow] at *)
              by_cases q : x < 0
              · have HF := Lib.hid (grpF_bad 0 d d' x _ 3 B _ HK hd' HX (by decide) q)
                go_wp2_with (go_at_call 74; refine (A1 _).mono ?_; rintro e w1 ⟨rfl, rfl⟩)
                go_ret2
                exact DecPost.none_ (by rw [HG.out, HF.out]) hbel
              · have HF := grpF_own 0 d d' x _ 3 B _ HK hd' HX (by decide) q
                have hor : bits .or .i64 (B * 64) x = B * 64 + x := or_sum B x 64 6 (by decide) hB0 (by omega) (by omega) (by omega)
                go_wp2_with (go_at_call 74; refine (A1 _).mono ?_; rintro e w1 ⟨rfl, rfl⟩)
                go_roundw
                case rel => first | exact ⟨4, B * 64 + x, by omega, by go_num, by go_num, by omega, by (try simp only [Int.reducePow] at *); omega, (by first | trivial | rfl), HF⟩ | ((repeat apply Exists.intro); exact ⟨⟨4, B * 64 + x, by omega, by go_num, by go_num, by omega, by (try simp only [Int.reducePow] at *); omega, (by first | trivial | rfl), HF⟩, rfl⟩)
                case measure => simp [intOf]
            · (try simp only [Int.reducePow] at *)
              have hfin : grpF 0 [a, b, c0, d] 0 0 = some ([UInt8.ofNat (B / 65536).toNat, UInt8.ofNat (B / 256 % 256).toNat, UInt8.ofNat (B % 256).toNat].take 3) := by
                rw [← HK.out]; show fin64 0 B = _; unfold fin64; rw [if_pos (by omega)]
              have HF := Lib.hid hfin; clear hfin
              have hcell := three_cells B hB0 (by omega) 3 (by omega)
              have HC := Lib.hid hcell; clear hcell
              have hbelA := (Below.refl W2.heap.size W2).alloc (Nat.le_refl _) (.cells #[.int .u8 (B / 65536), .int .u8 (B / 256 % 256), .int .u8 (B % 256)] 5)
              have hownA := hown.below hbelA
              have hbel1 := hbel.trans (hbelA.mono hbel.size)
              go_wp2_with (at_builtin; refine app_row Tryd.underlying23 hi hz0 hz1 hz2 _ _ _ _ ([UInt8.ofNat (B / 65536).toNat, UInt8.ofNat (B / 256 % 256).toNat, UInt8.ofNat (B % 256).toNat].take 3) _ _ _ rfl rfl rfl (by rfl) hownA (fun j hj => by rw [World.cell?_alloc_mark]; simpa using HC.out j hj) (by simp; omega) hbel1.size ?_; intro v1 w3 hown3 hb3)
              go_roundw
              case rel =>
                have hs2 := HG.out
                rw [HF.out] at hs2
                exact ⟨m + 1, _, by omega, by go_num, by simp; omega, hown3, hbel1.trans hb3, hs2.symm⟩
              case measure => simp [intOf]; omega
      · obtain rfl : m = n := by omega
        have h2 : s.size ≤ 4 * m := by have := HN.out; omega
        have hd : decide (4 * (m : Int) < s.size) = false := decide_eq_false (by omega)
        have hz : (bl s).drop (4 * m) = [] := List.drop_eq_nil_of_le (by rw [size_list]; exact h2)
        have hfin : decB64 (bl s) [] = some l := by rw [← HR.out, hz]; rfl
        go_wp2
        go_ret2
        exact DecPost.some_ hfin hown hbel
  · have hn := Lib.hid (decB64_odd (bl s) [] (by rw [size_list]; exact hodd))
    have hr3 : (s.size : Int).tmod 4 = 1 ∨ (s.size : Int).tmod 4 = 2 ∨ (s.size : Int).tmod 4 = 3 := by rw [Int.tmod_eq_emod_of_nonneg (by omega)]; omega
    have HO := Lib.hid hodd; clear hodd
    rcases hr3 with hr | hr | hr
    all_goals
      go_enter Tryd.func60, Tryd.ntmps60
      go_wp2
      go_ret2
      exact DecPost.none_ hn.out (Below.refl _ _)
end Go.Proofs.YtpfldcfnbgdceaaDoor
