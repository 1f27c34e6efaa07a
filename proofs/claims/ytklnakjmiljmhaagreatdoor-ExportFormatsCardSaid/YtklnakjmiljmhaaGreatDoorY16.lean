/- Walks of the reference's decoders of the first, the third and the fourth coding. · Walk of the reference's decoder of the fourth coding. · Walk of the reference's decoder of the second coding. -/
import Derived.Deep.RegionHeld3
import Derived.Deep.AppendLies
import Derived.Test.YtklnakjmiljmhaaGreatDoorY05
namespace Go.Proofs.YtklnakjmiljmhaaGreatDoor
set_option linter.unusedVariables false
set_option linter.unusedSimpArgs false
set_option maxRecDepth 100000
open Go.RowKit
/-- 'out = append(out, c)' of one byte at a step of a region that draws its order. -/
theorem step_app_u8 {P : Program} {T e : TypeId} {i0 : TypeInfo} (ht : P.underlying T = some (.slice e)) (hi : P.info? e = some i0) (hz0 : i0.zero = some (.int .u8 0)) (hz1 : i0.size = 1) (hz2 : i0.bytes = 1)
    {w : World} {ops : Array Oper} {o : Oper} {a : Act} {K : Act → World → Prop} {Q : Exit → Act → World → Prop} {E : Prop} (s x : Operand) (v : Value) (l : List UInt8) (c : Int) (u : UInt8) (B : Nat)
    (hgd : o.guard = none) (ho : o.op = .call { callee := .builtin .append, args := #[s, x], argTypes := #[T, T] })
    (hs : a.eval s = v) (hx : a.eval x = .slice (some ⟨w.heap.size, 0, none⟩) 1 1) (hown : OB e B v l w) (hu : c = u.toNat) (hl : l.length < 1000000000) (hB : B ≤ w.heap.size)
    (h : ∀ g cap w1, OB e B (.slice (some ⟨g, 0, none⟩) (l.length + 1) cap) (l ++ [u]) w1 → Below B w w1 → K (a.put o.dst (.slice (some ⟨g, 0, none⟩) (l.length + 1) cap)) w1) :
    if Region.wanted o (yielded ops a.tmps) = true then Oper.wp P o a (w.alloc (.cells #[.int .u8 c] e)) K Q else E := by
  subst hu
  refine step_append_lies _ hgd s x T ho B e i0 (.int .u8 0) 1 1 ht hi hz0 hz1 hz2 rfl (by decide) v l.length _ hs (World.ownsRow.alloc hown _) ⟨w.heap.size, 0, none⟩ 1 1 [.int .u8 u.toNat] hx rfl ?_ ?_ (by omega) ?_ ?_ ?_ (w.heap.size + 1) (by simp) ?_
  · intro j x hj
    match j, hj with
    | 0, hj => simp at hj; subst hj; simp [Addr.add]
  · intro x hx; simp at hx; subst hx; rfl
  · unfold maxLen; omega
  · omega
  · simp; omega
  · intro g cap w1 hown1 hg _ _
    exact h g cap w1 (by simpa [OB] using hown1) (below_of_grown hown hB hg)
/-- A slice of bytes that lies anywhere. -/
def BI (ad : Addr) (s : ByteArray) (w : World) : Prop := ad.block < w.heap.size ∧ ∀ k (h : k < s.size), w.cell? (ad.add k) = some (.int .u8 s[k].toNat)
theorem RB.bi {e : TypeId} {g : Nat} {s : ByteArray} {w : World} (h : RB e g (bl s) w) : BI ⟨g, 0, none⟩ s w :=
  ⟨h.lt, fun k hk => by rw [Addr.add_lit, Nat.zero_add]; exact h.cell k (by rw [size_list]; exact hk)⟩
theorem BI.later {ad : Addr} {s : ByteArray} {w w1 : World} (h : BI ad s w) (hb : Below w.heap.size w w1) : BI ad s w1 :=
  ⟨Nat.lt_of_lt_of_le h.1 hb.size, fun k hk => (World.cell?_of_block (by rw [Reads_block]; exact hb.block _ h.1)).trans (h.2 k hk)⟩
theorem BI.byte {ad : Addr} {s : ByteArray} {w : World} (h : BI ad s w) (k : Nat) (hk : k < s.size) :
    ∃ (u : UInt8) (c : Int), Hid (u = s[k]) ∧ Hid (c = u.toNat) ∧ 0 ≤ c ∧ c < 256 ∧ w.cell? (ad.add k) = some (.int .u8 c) :=
  ⟨s[k], s[k].toNat, rfl, rfl, by omega, byte_lt _, h.2 k hk⟩
theorem BI.byteS {ad : Addr} {s : ByteArray} {w : World} (h : BI ad s w) (k : Nat) (hk : k + 1 < s.size) :
    ∃ (u : UInt8) (c : Int), Hid (u = s[k + 1]) ∧ Hid (c = u.toNat) ∧ 0 ≤ c ∧ c < 256 ∧ w.cell? { block := ad.block, off := ad.off + (k + 1) } = some (.int .u8 c) :=
  ⟨s[k + 1], s[k + 1].toNat, rfl, rfl, by omega, byte_lt _, h.2 (k + 1) hk⟩
theorem BI.drew {ad : Addr} {s : ByteArray} {w : World} (h : BI ad s w) (m : Nat) : BI ad s (w.drewN m) := h
theorem twoB_none1 (a b : UInt8) (c x : Int) (hc : Hid (c = a.toNat)) (hx : Hid (hexv c = x)) (h : x < 0) : twoB a b = none := by
  unfold twoB; rw [← hc.out, hx.out, if_neg (by omega)]
theorem twoB_none2 (a b : UInt8) (c x : Int) (hc : Hid (c = b.toNat)) (hx : Hid (hexv c = x)) (h : x < 0) : twoB a b = none := by
  unfold twoB; rw [← hc.out, hx.out, if_neg (by omega)]
theorem twoB_some (a b : UInt8) (c d x y r : Int) (hc : Hid (c = a.toNat)) (hd : Hid (d = b.toNat)) (hx : Hid (hexv c = x)) (hy : Hid (hexv d = y)) (h1 : 0 ≤ x) (h2 : 0 ≤ y) (h3 : x ≤ 15) (h4 : y ≤ 15) (hr : r = bits .or .i64 (x * 16) y % 256) :
    ∃ u : UInt8, Hid (r = u.toNat) ∧ twoB a b = some u := by
  refine ⟨UInt8.ofNat (x * 16 + y).toNat, ?_, ?_⟩
  · show r = _
    rw [hr, or16 x y h1 h3 h2 h4, UInt8.toNat_ofNat']; omega
  · unfold twoB; rw [← hc.out, ← hd.out, hx.out, hy.out, if_pos ⟨h1, h2⟩]
set_option maxHeartbeats 1000000 in
theorem hex_ref (ad : Addr) (c : Nat) (s : ByteArray) (w : World) (hs : s.size ≤ 1000000) (hrb : BI ad s w) : Calls Tryz.prog 108 #[.slice (some ad) s.size c] w (DecPost (decHex (bl s) []) w) := by
  obtain ⟨i0, hi, hz0, hz1, hz2⟩ := info_parts info_u8
  by_cases hodd : s.size % 2 = 1
  · have hn := decHex_odd (bl s) [] (by rw [size_list]; exact hodd)
    have hr : (s.size : Int).tmod 2 = 1 := by rw [Int.tmod_eq_emod_of_nonneg (by omega)]; omega
    have HO := Lib.hid hodd; clear hodd
    go_enter Tryz.func108, Tryz.ntmps108
    go_wp2
    go_ret2
    exact DecPost.none_ hn (Below.refl _ _)
  · obtain ⟨n, hn⟩ : ∃ n, s.size = 2 * n := ⟨s.size / 2, by omega⟩
    have hr : (s.size : Int).tmod 2 = 0 := by rw [Int.tmod_eq_emod_of_nonneg (by omega)]; omega
    have HN := Lib.hid hn; clear hodd hn
    go_enter Tryz.func108, Tryz.ntmps108
    go_wp2
    go_loopw [4, 5] (fun v i wr => ∃ (m : Nat) (l : List UInt8), m ≤ n ∧ i = .int .i64 (2 * (m : Int)) ∧ l.length ≤ m ∧ OB 5 w.heap.size v l wr ∧ Below w.heap.size w wr ∧ decHex ((bl s).drop (2 * m)) l = decHex (bl s) []) (fun _ i _ => s.size - (intOf i).toNat)
    case atStart => exact ⟨0, [], by omega, rfl, by simp, OB.nil_ _ _ _, Below.refl _ _, rfl⟩
    case round =>
      obtain ⟨m, l, hm, rfl, hl, hown, hbel, hrel⟩ := hrel
      have HR := Lib.hid hrel; clear hrel
      by_cases hlt : m < n
      · have h2 : 2 * m + 2 ≤ s.size := by have := HN.out; omega
        have hd : decide (2 * (m : Int) < s.size) = true := decide_eq_true (by omega)
        have hrw := hrb.later hbel
        obtain ⟨u, d, hus, hdu, hd0, hd1, hc1⟩ := hrw.byte (2 * m) (by omega)
        obtain ⟨u', d', hus', hdu', hd0', hd1', hc2⟩ := hrw.byteS (2 * m) (by omega)
        have hst := decHex_two _ l _ _ _ (show (bl s).drop (2 * m) = s[2 * m] :: s[2 * m + 1] :: (bl s).drop (2 * m + 2) by rw [drop_byte s (2 * m) (by omega), drop_byte s (2 * m + 1) (by omega)])
        rw [HR.out, two_drop s (2 * m) h2, ← hus.out, ← hus'.out] at hst
        have HS := Lib.hid hst; clear hst
        have hb1 := hexv_bd d
        have hb2 := hexv_bd d'
        obtain ⟨x1, hx1⟩ : ∃ x, hexv d = x := ⟨_, rfl⟩
        obtain ⟨x2, hx2⟩ : ∃ x, hexv d' = x := ⟨_, rfl⟩
        have A1 := fun w => cdigit_ref d w hd0 hd1
        have A2 := fun w => cdigit_ref d' w hd0' hd1'
        rw [hx1] at hb1 A1
        rw [hx2] at hb2 A2
        have X1 := Lib.hid hx1; have X2 := Lib.hid hx2; clear hx1 hx2
        go_wp2_with fail
        go_quiet ((go_at_call 136; first | (with_reducible show Calls _ _ #[Value.int IntKind.u8 d] _ _; exact quiet_sym (A1 _)) | (with_reducible show Calls _ _ #[Value.int IntKind.u8 d'] _ _; exact quiet_sym (A2 _))))
        have hown1 := OB.drew hown nq
        have hbel1 := Below.drewN' hbel nq
        by_cases q1 : x1 < 0
        · have hfin : decHex (bl s) [] = none := by have := HS.out; rw [twoB_none1 _ _ _ _ hdu X1 q1] at this; exact this
          go_wp2
          go_ret2
          first | exact DecPost.none_ hfin hbel1 | exact DecPost.none_ rfl hbel1
        · by_cases q2 : x2 < 0
          · have hfin : decHex (bl s) [] = none := by have := HS.out; rw [twoB_none2 _ _ _ _ hdu' X2 q2] at this; exact this
            go_wp2
            go_ret2
            first | exact DecPost.none_ hfin hbel1 | exact DecPost.none_ rfl hbel1
          · obtain ⟨y, hy, hyt⟩ := twoB_some u u' d d' x1 x2 _ hdu hdu' X1 X2 (by omega) (by omega) (by omega) (by omega) rfl
            have HY := Lib.hid hyt; clear hyt
            go_wp2_with (at_builtin; refine app_u8 Tryz.underlying23 hi hz0 hz1 hz2 _ _ _ _ _ y _ rfl rfl rfl rfl hown1 hy.out (by omega) hbel1.size ?_; intro v1 w3 hown3 hb3 _ _)
            go_roundw
            case rel =>
              have hs2 := HS.out
              rw [HY.out] at hs2
              exact ⟨m + 1, _, by omega, by go_num, by simp; omega, hown3, hbel1.trans hb3, hs2.symm⟩
            case measure => simp [intOf]; omega
      · obtain rfl : m = n := by omega
        have h2 : s.size ≤ 2 * m := by have := HN.out; omega
        have hd : decide (2 * (m : Int) < s.size) = false := decide_eq_false (by omega)
        have hz : (bl s).drop (2 * m) = [] := List.drop_eq_nil_of_le (by rw [size_list]; exact h2)
        have hfin : decHex (bl s) [] = some l := by rw [← HR.out, hz]; rfl
        go_wp2
        go_ret2
        exact DecPost.some_ hfin hown hbel
set_option maxHeartbeats 1000000 in
theorem percent_ref (ad : Addr) (c : Nat) (s : ByteArray) (w : World) (hs : s.size ≤ 1000000) (hrb : BI ad s w) : Calls Tryz.prog 110 #[.slice (some ad) s.size c] w (DecPost (decPct (bl s) []) w) := by
  obtain ⟨i0, hi, hz0, hz1, hz2⟩ := info_parts info_u8
  go_enter Tryz.func110, Tryz.ntmps110
  go_wp2
  go_loopw [4, 5] (fun v i wr => ∃ (k : Nat) (l : List UInt8), k ≤ s.size ∧ i = .int .i64 (k : Int) ∧ l.length ≤ k ∧ OB 5 w.heap.size v l wr ∧ Below w.heap.size w wr ∧ decPct ((bl s).drop k) l = decPct (bl s) []) (fun _ i _ => s.size - (intOf i).toNat)
  case atStart => exact ⟨0, [], by omega, rfl, by simp, OB.nil_ _ _ _, Below.refl _ _, rfl⟩
  case round =>
    obtain ⟨k, l, hk, rfl, hl, hown, hbel, hrel⟩ := hrel
    have HR := Lib.hid hrel; clear hrel
    have hrw := hrb.later hbel
    by_cases hlt : k < s.size
    · have hd : decide ((k : Int) < s.size) = true := decide_eq_true (by omega)
      obtain ⟨u, c, hus, hcu, hc0, hc1, hix⟩ := hrw.byte k hlt
      by_cases h37 : c = 37
      · have HS := pct_esc s k l u c hlt hus hcu h37 _ HR
        clear hcu
        subst h37
        by_cases hend : k + 2 < s.size
        · obtain ⟨v1, d, hvs, hdv, hd0, hd1, hix1⟩ := hrw.byteS (k) (by omega)
          obtain ⟨v2, d', hvs', hdv', hd0', hd1', hix2⟩ := hrw.byteS (k + 1) (by omega)
          have hst := HS.out
          rw [two_drop s (k + 1) (by omega), ← hvs.out, ← hvs'.out] at hst
          have HT := Lib.hid hst; clear hst
          have hb1 := hexv_bd d
          have hb2 := hexv_bd d'
          obtain ⟨x1, hx1⟩ : ∃ x, hexv d = x := ⟨_, rfl⟩
          obtain ⟨x2, hx2⟩ : ∃ x, hexv d' = x := ⟨_, rfl⟩
          have A1 := fun w => cdigit_ref d w hd0 hd1
          have A2 := fun w => cdigit_ref d' w hd0' hd1'
          rw [hx1] at hb1 A1
          rw [hx2] at hb2 A2
          have X1 := Lib.hid hx1; have X2 := Lib.hid hx2; clear hx1 hx2
          have hd2 : decide ((s.size : Int) ≤ (k : Int) + 2) = false := decide_eq_false (by omega)
          by_cases q1 : x1 < 0
          · have hfin : decPct (bl s) [] = none := by have := HT.out; rw [twoB_none1 _ _ _ _ hdv X1 q1] at this; exact this
            have HF := Lib.hid hfin; clear hfin
            go_wp2_with (go_at_call 136; (first | (with_reducible show Calls _ _ #[Value.int IntKind.u8 d] _ _; refine (A1 _).mono ?_) | (with_reducible show Calls _ _ #[Value.int IntKind.u8 d'] _ _; refine (A2 _).mono ?_)); rintro e w1 ⟨rfl, rfl⟩)
            go_ret2
            exact DecPost.none_ HF.out hbel
          · by_cases q2 : x2 < 0
            · have hfin : decPct (bl s) [] = none := by have := HT.out; rw [twoB_none2 _ _ _ _ hdv' X2 q2] at this; exact this
              have HF := Lib.hid hfin; clear hfin
              go_wp2_with (go_at_call 136; (first | (with_reducible show Calls _ _ #[Value.int IntKind.u8 d] _ _; refine (A1 _).mono ?_) | (with_reducible show Calls _ _ #[Value.int IntKind.u8 d'] _ _; refine (A2 _).mono ?_)); rintro e w1 ⟨rfl, rfl⟩)
              go_ret2
              exact DecPost.none_ HF.out hbel
            · obtain ⟨y, hy, hyt⟩ := twoB_some v1 v2 d d' x1 x2 _ hdv hdv' X1 X2 (by omega) (by omega) (by omega) (by omega) rfl
              have HY := Lib.hid hyt; clear hyt
              go_wp2_with (go_at_call 136; (first | (with_reducible show Calls _ _ #[Value.int IntKind.u8 d] _ _; refine (A1 _).mono ?_) | (with_reducible show Calls _ _ #[Value.int IntKind.u8 d'] _ _; refine (A2 _).mono ?_)); rintro e w1 ⟨rfl, rfl⟩)
              have hownd := (show OB 5 w.heap.size _ l wr.drew from hown)
              have hbeld := hbel.drew
              have hz := hbeld.size
              have hk1 : (0 : Int) ≤ (k : Int) + 1 := by omega
              have hk2 : (0 : Int) ≤ (k : Int) + 2 := by omega
              have hk3 : (k : Int) + 1 < s.size := by omega
              have hw1 : IntKind.i64.wrap ((k : Int) + 1) = (k : Int) + 1 := IntWalk.i64_in _ (by omega)
              have hn2 : ((k : Int) + 2).toNat = k + 2 := by omega
              have hw3 : IntKind.i64.wrap (x1 * 16) = x1 * 16 := IntWalk.i64_in _ (by omega)
              obtain ⟨r, hr⟩ : ∃ r, bits .or .i64 (x1 * 16) x2 % 256 = r := ⟨_, rfl⟩
              have hw4 : IntKind.u8.wrap (bits .or .i64 (x1 * 16) x2) = r := by rw [← hr]; first | rfl | simp [IntKind.wrap]
              rw [hr] at hy
              have hw2 : IntKind.i64.wrap ((k : Int) + 2) = (k : Int) + 2 := IntWalk.i64_in _ (by omega)
              have hk4 : (k : Int) + 2 < s.size := by omega
              go_region_held3 (fun w' => w'.cell? ⟨ad.block, ad.off + (k + 1), none⟩ = some (.int .u8 d) ∧ w'.cell? ⟨ad.block, ad.off + (k + 2), none⟩ = some (.int .u8 d'))
                (first | go_keep | exact ⟨(World.cell?_of_block (a := ⟨ad.block, ad.off + (k + 1), none⟩) (hb3.block ad.block hrb.1)).trans hix1, (World.cell?_of_block (a := ⟨ad.block, ad.off + (k + 2), none⟩) (hb3.block ad.block hrb.1)).trans hix2⟩)
                (first
                  | (go_at_call 136; (first | (with_reducible show Calls _ _ #[Value.int IntKind.u8 d] _ _; refine (A1 _).mono ?_) | (with_reducible show Calls _ _ #[Value.int IntKind.u8 d'] _ _; refine (A2 _).mono ?_)); rintro e w1 ⟨rfl, rfl⟩)
                  | (refine step_app_u8 Tryz.underlying23 hi hz0 hz1 hz2 _ _ _ l _ y _ (by rfl) (by rfl) (by rfl) (by rfl) hownd hy.out (by omega) hz ?_; intro gg cap w3 hown3 hb3))
              go_wp2
              go_roundw
              case rel =>
                have hs2 := HT.out
                rw [HY.out] at hs2
                exact ⟨k + 3, _, by omega, by go_num, by simp; omega, hown3, hbeld.trans hb3, hs2.symm⟩
              case measure => simp [intOf]; omega
        · have hd2 : decide ((s.size : Int) ≤ (k : Int) + 2) = true := decide_eq_true (by omega)
          have hfin : decPct (bl s) [] = none := by rw [HS.out, twoAt_short s (k + 1) (by omega)]
          have HF := Lib.hid hfin; clear hfin
          go_wp2
          go_ret2
          exact DecPost.none_ HF.out hbel
      · have HS := pct_own s k l u c hlt hus hcu h37 _ HR
        have h37b : (c == 37) = false := by rw [beq_eq_false_iff_ne]; exact h37
        go_wp2_with (at_builtin; refine app_u8 Tryz.underlying23 hi hz0 hz1 hz2 _ _ _ _ _ u _ rfl rfl rfl rfl hown hcu.out (by omega) hbel.size ?_; intro v1 w3 hown3 hb3 _ _)
        go_roundw
        case rel => exact ⟨k + 1, _, by omega, by go_num, by simp; omega, hown3, hbel.trans hb3, HS.out⟩
        case measure => simp [intOf]; omega
    · obtain rfl : k = s.size := by omega
      have hfin : decPct (bl s) [] = some l := by rw [← HR.out, List.drop_eq_nil_of_le (by rw [size_list]; omega)]; rfl
      go_wp2
      go_ret2
      exact DecPost.some_ hfin hown hbel
end Go.Proofs.YtklnakjmiljmhaaGreatDoor
namespace Go.Proofs.YtklnakjmiljmhaaGreatDoor
set_option linter.unusedVariables false
set_option linter.unusedSimpArgs false
set_option maxRecDepth 100000
open Go.RowKit
set_option maxHeartbeats 4000000 in
theorem unescape_ref (ad : Addr) (c : Nat) (s : ByteArray) (w : World) (hs : s.size ≤ 1000000) (hrb : BI ad s w) : Calls Tryz.prog 111 #[.slice (some ad) s.size c] w (DecPost (decEsc (bl s) []) w) := by
  obtain ⟨i0, hi, hz0, hz1, hz2⟩ := info_parts info_u8
  go_enter Tryz.func111, Tryz.ntmps111
  go_wp2
  go_loopw [4, 5] (fun v i wr => ∃ (k : Nat) (l : List UInt8), k ≤ s.size ∧ i = .int .i64 (k : Int) ∧ l.length ≤ k ∧ OB 5 w.heap.size v l wr ∧ Below w.heap.size w wr ∧ decEsc ((bl s).drop k) l = decEsc (bl s) []) (fun _ i _ => s.size - (intOf i).toNat)
  case atStart => exact ⟨0, [], by omega, rfl, by simp, OB.nil_ _ _ _, Below.refl _ _, rfl⟩
  case round =>
    obtain ⟨k, l, hk, rfl, hl, hown, hbel, hrel⟩ := hrel
    have HR := Lib.hid hrel; clear hrel
    have hrw := hrb.later hbel
    by_cases hlt : k < s.size
    · have hd : decide ((k : Int) < s.size) = true := decide_eq_true (by omega)
      obtain ⟨u, c, hus, hcu, hc0, hc1, hix⟩ := hrw.byte k hlt
      by_cases h92 : c = 92
      · by_cases hend : k + 1 = s.size
        · have HF := Lib.hid (esc_end s k l u c hend hus hcu h92 _ HR)
          have hd2 : decide ((s.size : Int) ≤ (k : Int) + 1) = true := decide_eq_true (by omega)
          clear hcu HR
          subst h92
          clear hend
          go_wp2
          go_ret2
          exact DecPost.none_ HF.out hbel
        · have hd2 : decide ((s.size : Int) ≤ (k : Int) + 1) = false := decide_eq_false (by omega)
          obtain ⟨v, d, hvs, hdv, hd0, hd1, hix2⟩ := hrw.byteS (k) (by omega)
          have HS := esc_esc s k l u v c d (by omega) hus hcu h92 hvs _ HR
          clear hcu
          subst h92
          rcases (show d = 110 ∨ d = 114 ∨ d = 116 ∨ d = 92 ∨ d = 120 ∨ (d ≠ 110 ∧ d ≠ 114 ∧ d ≠ 116 ∧ d ≠ 92 ∧ d ≠ 120) by omega) with hq | hq | hq | hq | hq | ⟨q1, q2, q3, q4, q5⟩
          · have HV := Lib.hid (u8_of (n := 110) hdv (by decide) hq)
            clear hdv
            subst hq
            go_wp2_with (at_builtin; refine app_u8 Tryz.underlying23 hi hz0 hz1 hz2 _ _ _ _ _ (10 : UInt8) _ rfl rfl rfl rfl hown rfl (by omega) hbel.size ?_; intro v1 w3 hown3 hb3 _ _)
            go_roundw
            case rel =>
              have hs2 := HS.out
              rw [HV.out] at hs2
              exact ⟨k + 2, _, by omega, by go_num, by simp; omega, hown3, hbel.trans hb3, hs2.symm⟩
            case measure => simp [intOf]; omega
          · have HV := Lib.hid (u8_of (n := 114) hdv (by decide) hq)
            clear hdv
            subst hq
            go_wp2_with (at_builtin; refine app_u8 Tryz.underlying23 hi hz0 hz1 hz2 _ _ _ _ _ (13 : UInt8) _ rfl rfl rfl rfl hown rfl (by omega) hbel.size ?_; intro v1 w3 hown3 hb3 _ _)
            go_roundw
            case rel =>
              have hs2 := HS.out
              rw [HV.out] at hs2
              exact ⟨k + 2, _, by omega, by go_num, by simp; omega, hown3, hbel.trans hb3, hs2.symm⟩
            case measure => simp [intOf]; omega
          · have HV := Lib.hid (u8_of (n := 116) hdv (by decide) hq)
            clear hdv
            subst hq
            go_wp2_with (at_builtin; refine app_u8 Tryz.underlying23 hi hz0 hz1 hz2 _ _ _ _ _ (9 : UInt8) _ rfl rfl rfl rfl hown rfl (by omega) hbel.size ?_; intro v1 w3 hown3 hb3 _ _)
            go_roundw
            case rel =>
              have hs2 := HS.out
              rw [HV.out] at hs2
              exact ⟨k + 2, _, by omega, by go_num, by simp; omega, hown3, hbel.trans hb3, hs2.symm⟩
            case measure => simp [intOf]; omega
          · have HV := Lib.hid (u8_of (n := 92) hdv (by decide) hq)
            clear hdv
            subst hq
            go_wp2_with (at_builtin; refine app_u8 Tryz.underlying23 hi hz0 hz1 hz2 _ _ _ _ _ (92 : UInt8) _ rfl rfl rfl rfl hown rfl (by omega) hbel.size ?_; intro v1 w3 hown3 hb3 _ _)
            go_roundw
            case rel =>
              have hs2 := HS.out
              rw [HV.out] at hs2
              exact ⟨k + 2, _, by omega, by go_num, by simp; omega, hown3, hbel.trans hb3, hs2.symm⟩
            case measure => simp [intOf]; omega
          · have HV := Lib.hid (u8_of (n := 120) hdv (by decide) hq)
            have hs3 : Hid (decEsc (bl s) [] = (match twoAt ((bl s).drop (k + 2)) with | none => none | some x => decEsc ((bl s).drop (k + 4)) (l ++ [x]))) := by
              have hs2 := HS.out
              rw [HV.out] at hs2
              show decEsc (bl s) [] = _
              rw [hs2]
              show (match twoAt ((bl s).drop (k + 2)) with | none => none | some x => decEsc (((bl s).drop (k + 2)).drop 2) (l ++ [x])) = _
              rw [List.drop_drop]
            clear hdv
            subst hq
            by_cases hend : k + 3 < s.size
            · obtain ⟨v1, d, hvs, hdv, hd0, hd1, hix1⟩ := hrw.byteS (k + 1) (by omega)
              obtain ⟨v2, d', hvs', hdv', hd0', hd1', hix2⟩ := hrw.byteS (k + 2) (by omega)
              have hst := hs3.out
              rw [two_drop s (k + 2) (by omega), ← hvs.out, ← hvs'.out] at hst
              have HT := Lib.hid hst; clear hst
              have hb1 := hexv_bd d
              have hb2 := hexv_bd d'
              obtain ⟨x1, hx1⟩ : ∃ x, hexv d = x := ⟨_, rfl⟩
              obtain ⟨x2, hx2⟩ : ∃ x, hexv d' = x := ⟨_, rfl⟩
              have A1 := fun w => cdigit_ref d w hd0 hd1
              have A2 := fun w => cdigit_ref d' w hd0' hd1'
              rw [hx1] at hb1 A1
              rw [hx2] at hb2 A2
              have X1 := Lib.hid hx1; have X2 := Lib.hid hx2; clear hx1 hx2
              have hd2 : decide ((s.size : Int) ≤ (k : Int) + 1 + 2) = false := decide_eq_false (by omega)
              by_cases q1 : x1 < 0
              · have hfin : decEsc (bl s) [] = none := by have := HT.out; rw [twoB_none1 _ _ _ _ hdv X1 q1] at this; exact this
                have HF := Lib.hid hfin; clear hfin
                go_wp2_with (go_at_call 136; (first | (with_reducible show Calls _ _ #[Value.int IntKind.u8 d] _ _; refine (A1 _).mono ?_) | (with_reducible show Calls _ _ #[Value.int IntKind.u8 d'] _ _; refine (A2 _).mono ?_)); rintro e w1 ⟨rfl, rfl⟩)
                go_ret2
                exact DecPost.none_ HF.out hbel
              · by_cases q2 : x2 < 0
                · have hfin : decEsc (bl s) [] = none := by have := HT.out; rw [twoB_none2 _ _ _ _ hdv' X2 q2] at this; exact this
                  have HF := Lib.hid hfin; clear hfin
                  go_wp2_with (go_at_call 136; (first | (with_reducible show Calls _ _ #[Value.int IntKind.u8 d] _ _; refine (A1 _).mono ?_) | (with_reducible show Calls _ _ #[Value.int IntKind.u8 d'] _ _; refine (A2 _).mono ?_)); rintro e w1 ⟨rfl, rfl⟩)
                  go_ret2
                  exact DecPost.none_ HF.out hbel
                · obtain ⟨y, hy, hyt⟩ := twoB_some v1 v2 d d' x1 x2 _ hdv hdv' X1 X2 (by omega) (by omega) (by omega) (by omega) rfl
                  have HY := Lib.hid hyt; clear hyt
                  go_wp2_with (go_at_call 136; (first | (with_reducible show Calls _ _ #[Value.int IntKind.u8 d] _ _; refine (A1 _).mono ?_) | (with_reducible show Calls _ _ #[Value.int IntKind.u8 d'] _ _; refine (A2 _).mono ?_)); rintro e w1 ⟨rfl, rfl⟩)
                  have hownd := (show OB 5 w.heap.size _ l wr.drew from hown)
                  have hbeld := hbel.drew
                  have hz := hbeld.size
                  have hk1 : (0 : Int) ≤ (k : Int) + 1 + 1 := by omega
                  have hk2 : (0 : Int) ≤ (k : Int) + 1 + 2 := by omega
                  have hk3 : (k : Int) + 1 + 1 < s.size := by omega
                  have hw1 : IntKind.i64.wrap ((k : Int) + 1 + 1) = (k : Int) + 1 + 1 := IntWalk.i64_in _ (by omega)
                  have hn1 : ((k : Int) + 1 + 1).toNat = k + 2 := by omega
                  have hn2 : ((k : Int) + 1 + 2).toNat = k + 3 := by omega
                  have hw3 : IntKind.i64.wrap (x1 * 16) = x1 * 16 := IntWalk.i64_in _ (by omega)
                  obtain ⟨r, hr⟩ : ∃ r, bits .or .i64 (x1 * 16) x2 % 256 = r := ⟨_, rfl⟩
                  have hw4 : IntKind.u8.wrap (bits .or .i64 (x1 * 16) x2) = r := by rw [← hr]; first | rfl | simp [IntKind.wrap]
                  rw [hr] at hy
                  have hw2 : IntKind.i64.wrap ((k : Int) + 1 + 2) = (k : Int) + 1 + 2 := IntWalk.i64_in _ (by omega)
                  have hk4 : (k : Int) + 1 + 2 < s.size := by omega
                  go_region_held3 (fun w' => w'.cell? ⟨ad.block, ad.off + (k + 2), none⟩ = some (.int .u8 d) ∧ w'.cell? ⟨ad.block, ad.off + (k + 3), none⟩ = some (.int .u8 d'))
                    (first | go_keep | exact ⟨(World.cell?_of_block (a := ⟨ad.block, ad.off + (k + 2), none⟩) (hb3.block ad.block hrb.1)).trans hix1, (World.cell?_of_block (a := ⟨ad.block, ad.off + (k + 3), none⟩) (hb3.block ad.block hrb.1)).trans hix2⟩)
                    (first
                      | (go_at_call 136; (first | (with_reducible show Calls _ _ #[Value.int IntKind.u8 d] _ _; refine (A1 _).mono ?_) | (with_reducible show Calls _ _ #[Value.int IntKind.u8 d'] _ _; refine (A2 _).mono ?_)); rintro e w1 ⟨rfl, rfl⟩)
                      | (refine step_app_u8 Tryz.underlying23 hi hz0 hz1 hz2 _ _ _ l _ y _ (by rfl) (by rfl) (by rfl) (by rfl) hownd hy.out (by omega) hz ?_; intro gg cap w3 hown3 hb3))
                  go_wp2
                  go_roundw
                  case rel =>
                    have hs2 := HT.out
                    rw [HY.out] at hs2
                    exact ⟨k + 4, _, by omega, by go_num, by simp; omega, hown3, hbeld.trans hb3, hs2.symm⟩
                  case measure => simp [intOf]; omega
            · have hd2 : decide ((s.size : Int) ≤ (k : Int) + 1 + 2) = true := decide_eq_true (by omega)
              have hfin : decEsc (bl s) [] = none := by rw [hs3.out, twoAt_short s (k + 2) (by omega)]
              have HF := Lib.hid hfin; clear hfin
              go_wp2
              go_ret2
              exact DecPost.none_ HF.out hbel
          · have hs2 : decEsc (bl s) [] = none := by
              rw [HS.out]
              exact escO_none _ _ _ (u8_ne (n := 110) hdv (by decide) q1) (u8_ne (n := 114) hdv (by decide) q2) (u8_ne (n := 116) hdv (by decide) q3) (u8_ne (n := 92) hdv (by decide) q4) (u8_ne (n := 120) hdv (by decide) q5)
            have HF := Lib.hid hs2; clear hs2
            clear hdv
            go_wp2
            go_ret2
            exact DecPost.none_ HF.out hbel
      · have HS := esc_own s k l u c hlt hus hcu h92 _ HR
        go_wp2_with (at_builtin; refine app_u8 Tryz.underlying23 hi hz0 hz1 hz2 _ _ _ _ _ u _ rfl rfl rfl rfl hown hcu.out (by omega) hbel.size ?_; intro v1 w3 hown3 hb3 _ _)
        go_roundw
        case rel => exact ⟨k + 1, _, by omega, by go_num, by simp; omega, hown3, hbel.trans hb3, HS.out⟩
        case measure => simp [intOf]; omega
    · obtain rfl : k = s.size := by omega
      have hfin : decEsc (bl s) [] = some l := by rw [← HR.out, List.drop_eq_nil_of_le (by rw [size_list]; omega)]; rfl
      go_wp2
      go_ret2
      exact DecPost.some_ hfin hown hbel
end Go.Proofs.YtklnakjmiljmhaaGreatDoor
namespace Go.Proofs.YtklnakjmiljmhaaGreatDoor
set_option linter.unusedVariables false
set_option linter.unusedSimpArgs false
set_option maxRecDepth 100000
open Go.RowKit
set_option maxHeartbeats 8000000 in
theorem unbase64_ref (ad : Addr) (c : Nat) (s : ByteArray) (w : World) (hs : s.size ≤ 1000000) (hrb : BI ad s w) : Calls Tryz.prog 109 #[.slice (some ad) s.size c] w (DecPost (decB64 (bl s) []) w) := by
  obtain ⟨i0, hi, hz0, hz1, hz2⟩ := info_parts info_u8
  by_cases hodd : s.size % 4 = 0
  · obtain ⟨n, hn⟩ : ∃ n, s.size = 4 * n := ⟨s.size / 4, by omega⟩
    have hr : (s.size : Int).tmod 4 = 0 := by rw [Int.tmod_eq_emod_of_nonneg (by omega)]; omega
    have HN := Lib.hid hn; clear hodd hn
    go_enter Tryz.func109, Tryz.ntmps109
    go_wp2
    go_loopw [4, 5] (fun v i wr => ∃ (m : Nat) (l : List UInt8), m ≤ n ∧ i = .int .i64 (4 * (m : Int)) ∧ l.length ≤ 3 * m ∧ OB 5 w.heap.size v l wr ∧ Below w.heap.size w wr ∧ decB64 ((bl s).drop (4 * m)) l = decB64 (bl s) []) (fun _ i _ => s.size - (intOf i).toNat)
    case atStart => exact ⟨0, [], by omega, rfl, by simp, OB.nil_ _ _ _, Below.refl _ _, rfl⟩
    case round =>
      obtain ⟨m, l, hm, rfl, hl, hown, hbel, hrel⟩ := hrel
      have HR := Lib.hid hrel; clear hrel
      by_cases hlt : m < n
      · have h2 : 4 * m + 4 ≤ s.size := by have := HN.out; omega
        have hd : decide (4 * (m : Int) < s.size) = true := decide_eq_true (by omega)
        have hst := decB64_four _ l _ _ _ _ _ (drop_four s (4 * m) h2)
        rw [HR.out] at hst
        have hlast := (isEmpty_drop s m).resolve_right (by omega)
        have hrw := hrb.later hbel
        obtain ⟨a, a', hau, ha, ha0, ha1, hca⟩ := hrw.byte (4 * m) (by omega)
        obtain ⟨b, b', hbu, hb, hb0, hb1, hcb⟩ := hrw.byteS (4 * m) (by omega)
        obtain ⟨c0, c', hcu, hc, hc0, hc1, hcc⟩ := hrw.byteS (4 * m + 1) (by omega)
        obtain ⟨d, d', hdu, hd', hd0, hd1, hcd⟩ := hrw.byteS (4 * m + 2) (by omega)
        rw [hlast.symm, ← hau.out, ← hbu.out, ← hcu.out, ← hdu.out] at hst
        have HS := Lib.hid hst; clear hst hlast
        have n3 : (4 * (m : Int) + 3).toNat = 4 * m + 3 := by omega
        have n2 : (4 * (m : Int) + 2).toNat = 4 * m + 2 := by omega
        have n1 : (4 * (m : Int) + 1).toNat = 4 * m + 1 := by omega
        have l3 : 4 * (m : Int) + 3 < s.size := by omega
        have l2 : 4 * (m : Int) + 2 < s.size := by omega
        have l1 : 4 * (m : Int) + 1 < s.size := by omega
        by_cases hla : 4 * m + 4 = s.size
        · have hd1 : (4 * (m : Int) + 4 == s.size) = true := beq_iff_eq.2 (by omega)
          clear hla
          by_cases q1 : d' = 61
          · by_cases q2 : c' = 61
            · skip
              have hgr : grp true [a, b, c0, d] = grpF 2 [a, b, c0, d] 0 0 := by
                rw [u8_of (n := 61) hd' (by decide) q1, u8_of (n := 61) hc (by decide) q2]; rfl
              have hst2 := HS.out
              rw [hd1, hgr] at hst2
              have HG := Lib.hid hst2; clear hst2 hgr HS
              have hq1 := Lib.hid q1
              obtain ⟨W2, rfl⟩ : ∃ W2 : World, W2 = wr := ⟨_, rfl⟩
              go_wp2
              go_loopw [7, 8] (fun v i wr => ∃ (k : Nat) (B : Int), k ≤ 4 ∧ i = .int .i64 (k : Int) ∧ v = .int .i64 B ∧ 0 ≤ B ∧ B < 64 ^ k ∧ W2 = wr ∧ Hid (grpF 2 ([a, b, c0, d].drop k) k B = grpF 2 [a, b, c0, d] 0 0)) (fun _ i _ => 4 - (intOf i).toNat)
              case atStart => exact ⟨0, 0, by omega, rfl, rfl, by omega, by decide, rfl, rfl⟩
              case round =>
                obtain ⟨k, B, hk, rfl, rfl, hB0, hB1, rfl, HK⟩ := hrel
                rcases (show k = 0 ∨ k = 1 ∨ k = 2 ∨ k = 3 ∨ k = 4 by omega) with rfl | rfl | rfl | rfl | rfl
                · obtain ⟨x, hx⟩ : ∃ x, sgnV a' = x := ⟨_, rfl⟩
                  have hxb := sgnV_bd a'
                  have A1 := fun w => csign_ref a' w (by omega) (by omega)
                  rw [hx] at hxb A1
                  have HX := Lib.hid hx; clear hx
                  (try simp only [Int.reducePow] at *)
                  by_cases q : x < 0
                  · have HF := Lib.hid (grpF_bad 2 a a' x _ 0 B _ HK ha HX (by decide) q)
                    go_wp2_with (go_at_call 137; refine (A1 _).mono ?_; rintro e w1 ⟨rfl, rfl⟩)
                    go_ret2
                    exact DecPost.none_ (by rw [HG.out, HF.out]) hbel
                  · have HF := grpF_own 2 a a' x _ 0 B _ HK ha HX (by decide) q
                    have hor : bits .or .i64 (B * 64) x = B * 64 + x := or_sum B x 64 6 (by decide) hB0 (by omega) (by omega) (by omega)
                    go_wp2_with (go_at_call 137; refine (A1 _).mono ?_; rintro e w1 ⟨rfl, rfl⟩)
                    go_roundw
                    case rel => first | exact ⟨1, B * 64 + x, by omega, by go_num, by go_num, by omega, by (try simp only [Int.reducePow] at *); omega, (by first | trivial | rfl), HF⟩ | ((repeat apply Exists.intro); exact ⟨⟨1, B * 64 + x, by omega, by go_num, by go_num, by omega, by (try simp only [Int.reducePow] at *); omega, (by first | trivial | rfl), HF⟩, rfl⟩)
                    case measure => simp [intOf]
                · obtain ⟨x, hx⟩ : ∃ x, sgnV b' = x := ⟨_, rfl⟩
                  have hxb := sgnV_bd b'
                  have A1 := fun w => csign_ref b' w (by omega) (by omega)
                  rw [hx] at hxb A1
                  have HX := Lib.hid hx; clear hx
                  (try simp only [Int.reducePow] at *)
                  by_cases q : x < 0
                  · have HF := Lib.hid (grpF_bad 2 b b' x _ 1 B _ HK hb HX (by decide) q)
                    go_wp2_with (go_at_call 137; refine (A1 _).mono ?_; rintro e w1 ⟨rfl, rfl⟩)
                    go_ret2
                    exact DecPost.none_ (by rw [HG.out, HF.out]) hbel
                  · have HF := grpF_own 2 b b' x _ 1 B _ HK hb HX (by decide) q
                    have hor : bits .or .i64 (B * 64) x = B * 64 + x := or_sum B x 64 6 (by decide) hB0 (by omega) (by omega) (by omega)
                    go_wp2_with (go_at_call 137; refine (A1 _).mono ?_; rintro e w1 ⟨rfl, rfl⟩)
                    go_roundw
                    case rel => first | exact ⟨2, B * 64 + x, by omega, by go_num, by go_num, by omega, by (try simp only [Int.reducePow] at *); omega, (by first | trivial | rfl), HF⟩ | ((repeat apply Exists.intro); exact ⟨⟨2, B * 64 + x, by omega, by go_num, by go_num, by omega, by (try simp only [Int.reducePow] at *); omega, (by first | trivial | rfl), HF⟩, rfl⟩)
                    case measure => simp [intOf]
                · have HF := grpF_pad 2 c0 _ 2 B _ HK (by decide)
                  (try simp only [Int.reducePow] at *)
                  have hor : bits .or .i64 (B * 64) 0 = B * 64 := by rw [or_sum B 0 64 6 (by decide) hB0 (by omega) (by omega) (by omega)]; omega
                  go_wp2
                  go_roundw
                  case rel => first | exact ⟨3, B * 64, by omega, by go_num, by go_num, by omega, by (try simp only [Int.reducePow] at *); omega, (by first | trivial | rfl), HF⟩ | ((repeat apply Exists.intro); exact ⟨⟨3, B * 64, by omega, by go_num, by go_num, by omega, by (try simp only [Int.reducePow] at *); omega, (by first | trivial | rfl), HF⟩, rfl⟩)
                  case measure => simp [intOf]
                · have HF := grpF_pad 2 d _ 3 B _ HK (by decide)
                  (try simp only [Int.reducePow] at *)
                  have hor : bits .or .i64 (B * 64) 0 = B * 64 := by rw [or_sum B 0 64 6 (by decide) hB0 (by omega) (by omega) (by omega)]; omega
                  go_wp2
                  go_roundw
                  case rel => first | exact ⟨4, B * 64, by omega, by go_num, by go_num, by omega, by (try simp only [Int.reducePow] at *); omega, (by first | trivial | rfl), HF⟩ | ((repeat apply Exists.intro); exact ⟨⟨4, B * 64, by omega, by go_num, by go_num, by omega, by (try simp only [Int.reducePow] at *); omega, (by first | trivial | rfl), HF⟩, rfl⟩)
                  case measure => simp [intOf]
                · (try simp only [Int.reducePow] at *)
                  have hm : bits .and .i64 B 65535 = B % 65536 := and_rem B 65535 65536 16 (by decide) (by decide) (by decide) hB0 (by omega)
                  by_cases hz : B % 65536 = 0
                  · have hm0 : bits .and .i64 B 65535 = 0 := hm.trans hz
                    have hfin : grpF 2 [a, b, c0, d] 0 0 = some ([UInt8.ofNat (B / 65536).toNat, UInt8.ofNat (B / 256 % 256).toNat, UInt8.ofNat (B % 256).toNat].take 1) := by
                      rw [← HK.out]; show fin64 2 B = _; unfold fin64; rw [if_pos (show B % 256 ^ 2 = 0 from hz)]
                    have HF := Lib.hid hfin; clear hfin hm hz
                    have hcell := three_cells B hB0 (by omega) 1 (by omega)
                    have HC := Lib.hid hcell; clear hcell
                    have hbelA := (Below.refl W2.heap.size W2).alloc (Nat.le_refl _) (.cells #[.int .u8 (B / 65536), .int .u8 (B / 256 % 256), .int .u8 (B % 256)] 5)
                    have hownA := hown.below hbelA
                    have hbel1 := hbel.trans (hbelA.mono hbel.size)
                    go_wp2_with (at_builtin; refine app_row Tryz.underlying23 hi hz0 hz1 hz2 _ _ _ _ ([UInt8.ofNat (B / 65536).toNat, UInt8.ofNat (B / 256 % 256).toNat, UInt8.ofNat (B % 256).toNat].take 1) _ _ _ rfl rfl rfl (by rfl) hownA (fun j hj => by rw [World.cell?_alloc_mark]; simpa using HC.out j hj) (by simp; omega) hbel1.size ?_; intro v1 w3 hown3 hb3)
                    go_roundw
                    case rel =>
                      have hs2 := HG.out
                      rw [HF.out] at hs2
                      exact ⟨m + 1, _, by omega, by go_num, by simp; omega, hown3, hbel1.trans hb3, hs2.symm⟩
                    case measure => simp [intOf]; omega
                  · have hm0 : ¬ bits .and .i64 B 65535 = 0 := by rw [hm]; exact hz
                    have hfin : grpF 2 [a, b, c0, d] 0 0 = none := by
                      rw [← HK.out]; show fin64 2 B = _; unfold fin64; rw [if_neg (show ¬ B % 256 ^ 2 = 0 from hz)]
                    have HF := Lib.hid hfin; clear hfin hm hz
                    go_wp2
                    go_ret2
                    exact DecPost.none_ (by rw [HG.out, HF.out]) hbel
            · skip
              have hb2 : (c' == 61) = false := by rw [beq_eq_false_iff_ne]; exact q2
              have hgr : grp true [a, b, c0, d] = grpF 1 [a, b, c0, d] 0 0 := by
                show grpF (padsOf c0 d true) _ 0 0 = _; unfold padsOf; rw [u8_of (n := 61) hd' (by decide) q1, if_pos (by decide), if_neg (by simpa using u8_ne (n := 61) hc (by decide) q2)]
              have hst2 := HS.out
              rw [hd1, hgr] at hst2
              have HG := Lib.hid hst2; clear hst2 hgr HS
              have hq1 := Lib.hid q1
              obtain ⟨W2, rfl⟩ : ∃ W2 : World, W2 = wr := ⟨_, rfl⟩
              go_wp2
              go_loopw [7, 8] (fun v i wr => ∃ (k : Nat) (B : Int), k ≤ 4 ∧ i = .int .i64 (k : Int) ∧ v = .int .i64 B ∧ 0 ≤ B ∧ B < 64 ^ k ∧ W2 = wr ∧ Hid (grpF 1 ([a, b, c0, d].drop k) k B = grpF 1 [a, b, c0, d] 0 0)) (fun _ i _ => 4 - (intOf i).toNat)
              case atStart => exact ⟨0, 0, by omega, rfl, rfl, by omega, by decide, rfl, rfl⟩
              case round =>
                obtain ⟨k, B, hk, rfl, rfl, hB0, hB1, rfl, HK⟩ := hrel
                rcases (show k = 0 ∨ k = 1 ∨ k = 2 ∨ k = 3 ∨ k = 4 by omega) with rfl | rfl | rfl | rfl | rfl
                · obtain ⟨x, hx⟩ : ∃ x, sgnV a' = x := ⟨_, rfl⟩
                  have hxb := sgnV_bd a'
                  have A1 := fun w => csign_ref a' w (by omega) (by omega)
                  rw [hx] at hxb A1
                  have HX := Lib.hid hx; clear hx
                  (try simp only [Int.reducePow] at *)
                  by_cases q : x < 0
                  · have HF := Lib.hid (grpF_bad 1 a a' x _ 0 B _ HK ha HX (by decide) q)
                    go_wp2_with (go_at_call 137; refine (A1 _).mono ?_; rintro e w1 ⟨rfl, rfl⟩)
                    go_ret2
                    exact DecPost.none_ (by rw [HG.out, HF.out]) hbel
                  · have HF := grpF_own 1 a a' x _ 0 B _ HK ha HX (by decide) q
                    have hor : bits .or .i64 (B * 64) x = B * 64 + x := or_sum B x 64 6 (by decide) hB0 (by omega) (by omega) (by omega)
                    go_wp2_with (go_at_call 137; refine (A1 _).mono ?_; rintro e w1 ⟨rfl, rfl⟩)
                    go_roundw
                    case rel => first | exact ⟨1, B * 64 + x, by omega, by go_num, by go_num, by omega, by (try simp only [Int.reducePow] at *); omega, (by first | trivial | rfl), HF⟩ | ((repeat apply Exists.intro); exact ⟨⟨1, B * 64 + x, by omega, by go_num, by go_num, by omega, by (try simp only [Int.reducePow] at *); omega, (by first | trivial | rfl), HF⟩, rfl⟩)
                    case measure => simp [intOf]
                · obtain ⟨x, hx⟩ : ∃ x, sgnV b' = x := ⟨_, rfl⟩
                  have hxb := sgnV_bd b'
                  have A1 := fun w => csign_ref b' w (by omega) (by omega)
                  rw [hx] at hxb A1
                  have HX := Lib.hid hx; clear hx
                  (try simp only [Int.reducePow] at *)
                  by_cases q : x < 0
                  · have HF := Lib.hid (grpF_bad 1 b b' x _ 1 B _ HK hb HX (by decide) q)
                    go_wp2_with (go_at_call 137; refine (A1 _).mono ?_; rintro e w1 ⟨rfl, rfl⟩)
                    go_ret2
                    exact DecPost.none_ (by rw [HG.out, HF.out]) hbel
                  · have HF := grpF_own 1 b b' x _ 1 B _ HK hb HX (by decide) q
                    have hor : bits .or .i64 (B * 64) x = B * 64 + x := or_sum B x 64 6 (by decide) hB0 (by omega) (by omega) (by omega)
                    go_wp2_with (go_at_call 137; refine (A1 _).mono ?_; rintro e w1 ⟨rfl, rfl⟩)
                    go_roundw
                    case rel => first | exact ⟨2, B * 64 + x, by omega, by go_num, by go_num, by omega, by (try simp only [Int.reducePow] at *); omega, (by first | trivial | rfl), HF⟩ | ((repeat apply Exists.intro); exact ⟨⟨2, B * 64 + x, by omega, by go_num, by go_num, by omega, by (try simp only [Int.reducePow] at *); omega, (by first | trivial | rfl), HF⟩, rfl⟩)
                    case measure => simp [intOf]
                · obtain ⟨x, hx⟩ : ∃ x, sgnV c' = x := ⟨_, rfl⟩
                  have hxb := sgnV_bd c'
                  have A1 := fun w => csign_ref c' w (by omega) (by omega)
                  rw [hx] at hxb A1
                  have HX := Lib.hid hx; clear hx
                  (try simp only [Int.reducePow] at *)
                  by_cases q : x < 0
                  · have HF := Lib.hid (grpF_bad 1 c0 c' x _ 2 B _ HK hc HX (by decide) q)
                    go_wp2_with (go_at_call 137; refine (A1 _).mono ?_; rintro e w1 ⟨rfl, rfl⟩)
                    go_ret2
                    exact DecPost.none_ (by rw [HG.out, HF.out]) hbel
                  · have HF := grpF_own 1 c0 c' x _ 2 B _ HK hc HX (by decide) q
                    have hor : bits .or .i64 (B * 64) x = B * 64 + x := or_sum B x 64 6 (by decide) hB0 (by omega) (by omega) (by omega)
                    go_wp2_with (go_at_call 137; refine (A1 _).mono ?_; rintro e w1 ⟨rfl, rfl⟩)
                    go_roundw
                    case rel => first | exact ⟨3, B * 64 + x, by omega, by go_num, by go_num, by omega, by (try simp only [Int.reducePow] at *); omega, (by first | trivial | rfl), HF⟩ | ((repeat apply Exists.intro); exact ⟨⟨3, B * 64 + x, by omega, by go_num, by go_num, by omega, by (try simp only [Int.reducePow] at *); omega, (by first | trivial | rfl), HF⟩, rfl⟩)
                    case measure => simp [intOf]
                · have HF := grpF_pad 1 d _ 3 B _ HK (by decide)
                  (try simp only [Int.reducePow] at *)
                  have hor : bits .or .i64 (B * 64) 0 = B * 64 := by rw [or_sum B 0 64 6 (by decide) hB0 (by omega) (by omega) (by omega)]; omega
                  go_wp2
                  go_roundw
                  case rel => first | exact ⟨4, B * 64, by omega, by go_num, by go_num, by omega, by (try simp only [Int.reducePow] at *); omega, (by first | trivial | rfl), HF⟩ | ((repeat apply Exists.intro); exact ⟨⟨4, B * 64, by omega, by go_num, by go_num, by omega, by (try simp only [Int.reducePow] at *); omega, (by first | trivial | rfl), HF⟩, rfl⟩)
                  case measure => simp [intOf]
                · (try simp only [Int.reducePow] at *)
                  have hm : bits .and .i64 B 255 = B % 256 := and_rem B 255 256 8 (by decide) (by decide) (by decide) hB0 (by omega)
                  by_cases hz : B % 256 = 0
                  · have hm0 : bits .and .i64 B 255 = 0 := hm.trans hz
                    have hfin : grpF 1 [a, b, c0, d] 0 0 = some ([UInt8.ofNat (B / 65536).toNat, UInt8.ofNat (B / 256 % 256).toNat, UInt8.ofNat (B % 256).toNat].take 2) := by
                      rw [← HK.out]; show fin64 1 B = _; unfold fin64; rw [if_pos (show B % 256 ^ 1 = 0 from hz)]
                    have HF := Lib.hid hfin; clear hfin hm hz
                    have hcell := three_cells B hB0 (by omega) 2 (by omega)
                    have HC := Lib.hid hcell; clear hcell
                    have hbelA := (Below.refl W2.heap.size W2).alloc (Nat.le_refl _) (.cells #[.int .u8 (B / 65536), .int .u8 (B / 256 % 256), .int .u8 (B % 256)] 5)
                    have hownA := hown.below hbelA
                    have hbel1 := hbel.trans (hbelA.mono hbel.size)
                    go_wp2_with (at_builtin; refine app_row Tryz.underlying23 hi hz0 hz1 hz2 _ _ _ _ ([UInt8.ofNat (B / 65536).toNat, UInt8.ofNat (B / 256 % 256).toNat, UInt8.ofNat (B % 256).toNat].take 2) _ _ _ rfl rfl rfl (by rfl) hownA (fun j hj => by rw [World.cell?_alloc_mark]; simpa using HC.out j hj) (by simp; omega) hbel1.size ?_; intro v1 w3 hown3 hb3)
                    go_roundw
                    case rel =>
                      have hs2 := HG.out
                      rw [HF.out] at hs2
                      exact ⟨m + 1, _, by omega, by go_num, by simp; omega, hown3, hbel1.trans hb3, hs2.symm⟩
                    case measure => simp [intOf]; omega
                  · have hm0 : ¬ bits .and .i64 B 255 = 0 := by rw [hm]; exact hz
                    have hfin : grpF 1 [a, b, c0, d] 0 0 = none := by
                      rw [← HK.out]; show fin64 1 B = _; unfold fin64; rw [if_neg (show ¬ B % 256 ^ 1 = 0 from hz)]
                    have HF := Lib.hid hfin; clear hfin hm hz
                    go_wp2
                    go_ret2
                    exact DecPost.none_ (by rw [HG.out, HF.out]) hbel
          · skip
            have hb2 : (d' == 61) = false := by rw [beq_eq_false_iff_ne]; exact q1
            have hgr : grp true [a, b, c0, d] = grpF 0 [a, b, c0, d] 0 0 := by
              show grpF (padsOf c0 d true) _ 0 0 = _; unfold padsOf; rw [if_neg (by simpa using u8_ne (n := 61) hd' (by decide) q1)]
            have hst2 := HS.out
            rw [hd1, hgr] at hst2
            have HG := Lib.hid hst2; clear hst2 hgr HS
            obtain ⟨W2, rfl⟩ : ∃ W2 : World, W2 = wr := ⟨_, rfl⟩
            go_wp2
            go_loopw [7, 8] (fun v i wr => ∃ (k : Nat) (B : Int), k ≤ 4 ∧ i = .int .i64 (k : Int) ∧ v = .int .i64 B ∧ 0 ≤ B ∧ B < 64 ^ k ∧ W2 = wr ∧ Hid (grpF 0 ([a, b, c0, d].drop k) k B = grpF 0 [a, b, c0, d] 0 0)) (fun _ i _ => 4 - (intOf i).toNat)
            case atStart => exact ⟨0, 0, by omega, rfl, rfl, by omega, by decide, rfl, rfl⟩
            case round =>
              obtain ⟨k, B, hk, rfl, rfl, hB0, hB1, rfl, HK⟩ := hrel
              rcases (show k = 0 ∨ k = 1 ∨ k = 2 ∨ k = 3 ∨ k = 4 by omega) with rfl | rfl | rfl | rfl | rfl
              · obtain ⟨x, hx⟩ : ∃ x, sgnV a' = x := ⟨_, rfl⟩
                have hxb := sgnV_bd a'
                have A1 := fun w => csign_ref a' w (by omega) (by omega)
                rw [hx] at hxb A1
                have HX := Lib.hid hx; clear hx
                (try simp only [Int.reducePow] at *)
                by_cases q : x < 0
                · have HF := Lib.hid (grpF_bad 0 a a' x _ 0 B _ HK ha HX (by decide) q)
                  go_wp2_with (go_at_call 137; refine (A1 _).mono ?_; rintro e w1 ⟨rfl, rfl⟩)
                  go_ret2
                  exact DecPost.none_ (by rw [HG.out, HF.out]) hbel
                · have HF := grpF_own 0 a a' x _ 0 B _ HK ha HX (by decide) q
                  have hor : bits .or .i64 (B * 64) x = B * 64 + x := or_sum B x 64 6 (by decide) hB0 (by omega) (by omega) (by omega)
                  go_wp2_with (go_at_call 137; refine (A1 _).mono ?_; rintro e w1 ⟨rfl, rfl⟩)
                  go_roundw
                  case rel => first | exact ⟨1, B * 64 + x, by omega, by go_num, by go_num, by omega, by (try simp only [Int.reducePow] at *); omega, (by first | trivial | rfl), HF⟩ | ((repeat apply Exists.intro); exact ⟨⟨1, B * 64 + x, by omega, by go_num, by go_num, by omega, by (try simp only [Int.reducePow] at *); omega, (by first | trivial | rfl), HF⟩, rfl⟩)
                  case measure => simp [intOf]
              · obtain ⟨x, hx⟩ : ∃ x, sgnV b' = x := ⟨_, rfl⟩
                have hxb := sgnV_bd b'
                have A1 := fun w => csign_ref b' w (by omega) (by omega)
                rw [hx] at hxb A1
                have HX := Lib.hid hx; clear hx
                (try simp only [Int.reducePow] at *)
                by_cases q : x < 0
                · have HF := Lib.hid (grpF_bad 0 b b' x _ 1 B _ HK hb HX (by decide) q)
                  go_wp2_with (go_at_call 137; refine (A1 _).mono ?_; rintro e w1 ⟨rfl, rfl⟩)
                  go_ret2
                  exact DecPost.none_ (by rw [HG.out, HF.out]) hbel
                · have HF := grpF_own 0 b b' x _ 1 B _ HK hb HX (by decide) q
                  have hor : bits .or .i64 (B * 64) x = B * 64 + x := or_sum B x 64 6 (by decide) hB0 (by omega) (by omega) (by omega)
                  go_wp2_with (go_at_call 137; refine (A1 _).mono ?_; rintro e w1 ⟨rfl, rfl⟩)
                  go_roundw
                  case rel => first | exact ⟨2, B * 64 + x, by omega, by go_num, by go_num, by omega, by (try simp only [Int.reducePow] at *); omega, (by first | trivial | rfl), HF⟩ | ((repeat apply Exists.intro); exact ⟨⟨2, B * 64 + x, by omega, by go_num, by go_num, by omega, by (try simp only [Int.reducePow] at *); omega, (by first | trivial | rfl), HF⟩, rfl⟩)
                  case measure => simp [intOf]
              · obtain ⟨x, hx⟩ : ∃ x, sgnV c' = x := ⟨_, rfl⟩
                have hxb := sgnV_bd c'
                have A1 := fun w => csign_ref c' w (by omega) (by omega)
                rw [hx] at hxb A1
                have HX := Lib.hid hx; clear hx
                (try simp only [Int.reducePow] at *)
                by_cases q : x < 0
                · have HF := Lib.hid (grpF_bad 0 c0 c' x _ 2 B _ HK hc HX (by decide) q)
                  go_wp2_with (go_at_call 137; refine (A1 _).mono ?_; rintro e w1 ⟨rfl, rfl⟩)
                  go_ret2
                  exact DecPost.none_ (by rw [HG.out, HF.out]) hbel
                · have HF := grpF_own 0 c0 c' x _ 2 B _ HK hc HX (by decide) q
                  have hor : bits .or .i64 (B * 64) x = B * 64 + x := or_sum B x 64 6 (by decide) hB0 (by omega) (by omega) (by omega)
                  go_wp2_with (go_at_call 137; refine (A1 _).mono ?_; rintro e w1 ⟨rfl, rfl⟩)
                  go_roundw
                  case rel => first | exact ⟨3, B * 64 + x, by omega, by go_num, by go_num, by omega, by (try simp only [Int.reducePow] at *); omega, (by first | trivial | rfl), HF⟩ | ((repeat apply Exists.intro); exact ⟨⟨3, B * 64 + x, by omega, by go_num, by go_num, by omega, by (try simp only [Int.reducePow] at *); omega, (by first | trivial | rfl), HF⟩, rfl⟩)
                  case measure => simp [intOf]
              · obtain ⟨x, hx⟩ : ∃ x, sgnV d' = x := ⟨_, rfl⟩
                have hxb := sgnV_bd d'
                have A1 := fun w => csign_ref d' w (by omega) (by omega)
                rw [hx] at hxb A1
                have HX := Lib.hid hx; clear hx
                (try simp only [Int.reducePow] at *)
                by_cases q : x < 0
                · have HF := Lib.hid (grpF_bad 0 d d' x _ 3 B _ HK hd' HX (by decide) q)
                  go_wp2_with (go_at_call 137; refine (A1 _).mono ?_; rintro e w1 ⟨rfl, rfl⟩)
                  go_ret2
                  exact DecPost.none_ (by rw [HG.out, HF.out]) hbel
                · have HF := grpF_own 0 d d' x _ 3 B _ HK hd' HX (by decide) q
                  have hor : bits .or .i64 (B * 64) x = B * 64 + x := or_sum B x 64 6 (by decide) hB0 (by omega) (by omega) (by omega)
                  go_wp2_with (go_at_call 137; refine (A1 _).mono ?_; rintro e w1 ⟨rfl, rfl⟩)
                  go_roundw
                  case rel => first | exact ⟨4, B * 64 + x, by omega, by go_num, by go_num, by omega, by (try simp only [Int.reducePow] at *); omega, (by first | trivial | rfl), HF⟩ | ((repeat apply Exists.intro); exact ⟨⟨4, B * 64 + x, by omega, by go_num, by go_num, by omega, by (try simp only [Int.reducePow] at *); omega, (by first | trivial | rfl), HF⟩, rfl⟩)
                  case measure => simp [intOf]
              · (try simp only [Int.reducePow] at *)
                have hfin : grpF 0 [a, b, c0, d] 0 0 = some ([UInt8.ofNat (B / 65536).toNat, UInt8.ofNat (B / 256 % 256).toNat, UInt8.ofNat (B % 256).toNat].take 3) := by
                  rw [← HK.out]; show fin64 0 B = _; unfold fin64; rw [if_pos (by omega)]
                have HF := Lib.hid hfin; clear hfin
                have hcell := three_cells B hB0 (by omega) 3 (by omega)
                have HC := Lib.hid hcell; clear hcell
                have hbelA := (Below.refl W2.heap.size W2).alloc (Nat.le_refl _) (.cells #[.int .u8 (B / 65536), .int .u8 (B / 256 % 256), .int .u8 (B % 256)] 5)
                have hownA := hown.below hbelA
                have hbel1 := hbel.trans (hbelA.mono hbel.size)
                go_wp2_with (at_builtin; refine app_row Tryz.underlying23 hi hz0 hz1 hz2 _ _ _ _ ([UInt8.ofNat (B / 65536).toNat, UInt8.ofNat (B / 256 % 256).toNat, UInt8.ofNat (B % 256).toNat].take 3) _ _ _ rfl rfl rfl (by rfl) hownA (fun j hj => by rw [World.cell?_alloc_mark]; simpa using HC.out j hj) (by simp; omega) hbel1.size ?_; intro v1 w3 hown3 hb3)
                go_roundw
                case rel =>
                  have hs2 := HG.out
                  rw [HF.out] at hs2
                  exact ⟨m + 1, _, by omega, by go_num, by simp; omega, hown3, hbel1.trans hb3, hs2.symm⟩
                case measure => simp [intOf]; omega
        · have hd1 : (4 * (m : Int) + 4 == s.size) = false := by rw [beq_eq_false_iff_ne]; omega
          have hgr : grp false [a, b, c0, d] = grpF 0 [a, b, c0, d] 0 0 := by
            rfl
          have hst2 := HS.out
          rw [hd1, hgr] at hst2
          have HG := Lib.hid hst2; clear hst2 hgr HS
          obtain ⟨W2, rfl⟩ : ∃ W2 : World, W2 = wr := ⟨_, rfl⟩
          go_wp2
          go_loopw [7, 8] (fun v i wr => ∃ (k : Nat) (B : Int), k ≤ 4 ∧ i = .int .i64 (k : Int) ∧ v = .int .i64 B ∧ 0 ≤ B ∧ B < 64 ^ k ∧ W2 = wr ∧ Hid (grpF 0 ([a, b, c0, d].drop k) k B = grpF 0 [a, b, c0, d] 0 0)) (fun _ i _ => 4 - (intOf i).toNat)
          case atStart => exact ⟨0, 0, by omega, rfl, rfl, by omega, by decide, rfl, rfl⟩
          case round =>
            obtain ⟨k, B, hk, rfl, rfl, hB0, hB1, rfl, HK⟩ := hrel
            rcases (show k = 0 ∨ k = 1 ∨ k = 2 ∨ k = 3 ∨ k = 4 by omega) with rfl | rfl | rfl | rfl | rfl
            · obtain ⟨x, hx⟩ : ∃ x, sgnV a' = x := ⟨_, rfl⟩
              have hxb := sgnV_bd a'
              have A1 := fun w => csign_ref a' w (by omega) (by omega)
              rw [hx] at hxb A1
              have HX := Lib.hid hx; clear hx
              (try simp only [Int.reducePow] at *)
              by_cases q : x < 0
              · have HF := Lib.hid (grpF_bad 0 a a' x _ 0 B _ HK ha HX (by decide) q)
                go_wp2_with (go_at_call 137; refine (A1 _).mono ?_; rintro e w1 ⟨rfl, rfl⟩)
                go_ret2
                exact DecPost.none_ (by rw [HG.out, HF.out]) hbel
              · have HF := grpF_own 0 a a' x _ 0 B _ HK ha HX (by decide) q
                have hor : bits .or .i64 (B * 64) x = B * 64 + x := or_sum B x 64 6 (by decide) hB0 (by omega) (by omega) (by omega)
                go_wp2_with (go_at_call 137; refine (A1 _).mono ?_; rintro e w1 ⟨rfl, rfl⟩)
                go_roundw
                case rel => first | exact ⟨1, B * 64 + x, by omega, by go_num, by go_num, by omega, by (try simp only [Int.reducePow] at *); omega, (by first | trivial | rfl), HF⟩ | ((repeat apply Exists.intro); exact ⟨⟨1, B * 64 + x, by omega, by go_num, by go_num, by omega, by (try simp only [Int.reducePow] at *); omega, (by first | trivial | rfl), HF⟩, rfl⟩)
                case measure => simp [intOf]
            · obtain ⟨x, hx⟩ : ∃ x, sgnV b' = x := ⟨_, rfl⟩
              have hxb := sgnV_bd b'
              have A1 := fun w => csign_ref b' w (by omega) (by omega)
              rw [hx] at hxb A1
              have HX := Lib.hid hx; clear hx
              (try simp only [Int.reducePow] at *)
              by_cases q : x < 0
              · have HF := Lib.hid (grpF_bad 0 b b' x _ 1 B _ HK hb HX (by decide) q)
                go_wp2_with (go_at_call 137; refine (A1 _).mono ?_; rintro e w1 ⟨rfl, rfl⟩)
                go_ret2
                exact DecPost.none_ (by rw [HG.out, HF.out]) hbel
              · have HF := grpF_own 0 b b' x _ 1 B _ HK hb HX (by decide) q
                have hor : bits .or .i64 (B * 64) x = B * 64 + x := or_sum B x 64 6 (by decide) hB0 (by omega) (by omega) (by omega)
                go_wp2_with (go_at_call 137; refine (A1 _).mono ?_; rintro e w1 ⟨rfl, rfl⟩)
                go_roundw
                case rel => first | exact ⟨2, B * 64 + x, by omega, by go_num, by go_num, by omega, by (try simp only [Int.reducePow] at *); omega, (by first | trivial | rfl), HF⟩ | ((repeat apply Exists.intro); exact ⟨⟨2, B * 64 + x, by omega, by go_num, by go_num, by omega, by (try simp only [Int.reducePow] at *); omega, (by first | trivial | rfl), HF⟩, rfl⟩)
                case measure => simp [intOf]
            · obtain ⟨x, hx⟩ : ∃ x, sgnV c' = x := ⟨_, rfl⟩
              have hxb := sgnV_bd c'
              have A1 := fun w => csign_ref c' w (by omega) (by omega)
              rw [hx] at hxb A1
              have HX := Lib.hid hx; clear hx
              (try simp only [Int.reducePow] at *)
              by_cases q : x < 0
              · have HF := Lib.hid (grpF_bad 0 c0 c' x _ 2 B _ HK hc HX (by decide) q)
                go_wp2_with (go_at_call 137; refine (A1 _).mono ?_; rintro e w1 ⟨rfl, rfl⟩)
                go_ret2
                exact DecPost.none_ (by rw [HG.out, HF.out]) hbel
              · have HF := grpF_own 0 c0 c' x _ 2 B _ HK hc HX (by decide) q
                have hor : bits .or .i64 (B * 64) x = B * 64 + x := or_sum B x 64 6 (by decide) hB0 (by omega) (by omega) (by omega)
                go_wp2_with (go_at_call 137; refine (A1 _).mono ?_; rintro e w1 ⟨rfl, rfl⟩)
                go_roundw
                case rel => first | exact ⟨3, B * 64 + x, by omega, by go_num, by go_num, by omega, by (try simp only [Int.reducePow] at *); omega, (by first | trivial | rfl), HF⟩ | ((repeat apply Exists.intro); exact ⟨⟨3, B * 64 + x, by omega, by go_num, by go_num, by omega, by (try simp only [Int.reducePow] at *); omega, (by first | trivial | rfl), HF⟩, rfl⟩)
                case measure => simp [intOf]
            · obtain ⟨x, hx⟩ : ∃ x, sgnV d' = x := ⟨_, rfl⟩
              have hxb := sgnV_bd d'
              have A1 := fun w => csign_ref d' w (by omega) (by omega)
              rw [hx] at hxb A1
              have HX := Lib.hid hx; clear hx
              (try simp only [Int.reducePow] at *)
              by_cases q : x < 0
              · have HF := Lib.hid (grpF_bad 0 d d' x _ 3 B _ HK hd' HX (by decide) q)
                go_wp2_with (go_at_call 137; refine (A1 _).mono ?_; rintro e w1 ⟨rfl, rfl⟩)
                go_ret2
                exact DecPost.none_ (by rw [HG.out, HF.out]) hbel
              · have HF := grpF_own 0 d d' x _ 3 B _ HK hd' HX (by decide) q
                have hor : bits .or .i64 (B * 64) x = B * 64 + x := or_sum B x 64 6 (by decide) hB0 (by omega) (by omega) (by omega)
                go_wp2_with (go_at_call 137; refine (A1 _).mono ?_; rintro e w1 ⟨rfl, rfl⟩)
                go_roundw
                case rel => first | exact ⟨4, B * 64 + x, by omega, by go_num, by go_num, by omega, by (try simp only [Int.reducePow] at *); omega, (by first | trivial | rfl), HF⟩ | ((repeat apply Exists.intro); exact ⟨⟨4, B * 64 + x, by omega, by go_num, by go_num, by omega, by (try simp only [Int.reducePow] at *); omega, (by first | trivial | rfl), HF⟩, rfl⟩)
                case measure => simp [intOf]
            · (try simp only [Int.reducePow] at *)
              have hfin : grpF 0 [a, b, c0, d] 0 0 = some ([UInt8.ofNat (B / 65536).toNat, UInt8.ofNat (B / 256 % 256).toNat, UInt8.ofNat (B % 256).toNat].take 3) := by
                rw [← HK.out]; show fin64 0 B = _; unfold fin64; rw [if_pos (by omega)]
              have HF := Lib.hid hfin; clear hfin
              have hcell := three_cells B hB0 (by omega) 3 (by omega)
              have HC := Lib.hid hcell; clear hcell
              have hbelA := (Below.refl W2.heap.size W2).alloc (Nat.le_refl _) (.cells #[.int .u8 (B / 65536), .int .u8 (B / 256 % 256), .int .u8 (B % 256)] 5)
              have hownA := hown.below hbelA
              have hbel1 := hbel.trans (hbelA.mono hbel.size)
              go_wp2_with (at_builtin; refine app_row Tryz.underlying23 hi hz0 hz1 hz2 _ _ _ _ ([UInt8.ofNat (B / 65536).toNat, UInt8.ofNat (B / 256 % 256).toNat, UInt8.ofNat (B % 256).toNat].take 3) _ _ _ rfl rfl rfl (by rfl) hownA (fun j hj => by rw [World.cell?_alloc_mark]; simpa using HC.out j hj) (by simp; omega) hbel1.size ?_; intro v1 w3 hown3 hb3)
              go_roundw
              case rel =>
                have hs2 := HG.out
                rw [HF.out] at hs2
                exact ⟨m + 1, _, by omega, by go_num, by simp; omega, hown3, hbel1.trans hb3, hs2.symm⟩
              case measure => simp [intOf]; omega
      · obtain rfl : m = n := by omega
        have h2 : s.size ≤ 4 * m := by have := HN.out; omega
        have hd : decide (4 * (m : Int) < s.size) = false := decide_eq_false (by omega)
        have hz : (bl s).drop (4 * m) = [] := List.drop_eq_nil_of_le (by rw [size_list]; exact h2)
        have hfin : decB64 (bl s) [] = some l := by rw [← HR.out, hz]; rfl
        go_wp2
        go_ret2
        exact DecPost.some_ hfin hown hbel
  · have hn := Lib.hid (decB64_odd (bl s) [] (by rw [size_list]; exact hodd))
    have hr3 : (s.size : Int).tmod 4 = 1 ∨ (s.size : Int).tmod 4 = 2 ∨ (s.size : Int).tmod 4 = 3 := by rw [Int.tmod_eq_emod_of_nonneg (by omega)]; omega
    have HO := Lib.hid hodd; clear hodd
    rcases hr3 with hr | hr | hr
    all_goals
      go_enter Tryz.func109, Tryz.ntmps109
      go_wp2
      go_ret2
      exact DecPost.none_ hn.out (Below.refl _ _)
end Go.Proofs.YtklnakjmiljmhaaGreatDoor
