/- Walks of the reference's decoders of the first, the third and the fourth coding. -/
import Derived.Deep.RegionHeld3
import Derived.Deep.AppendLies
import Derived.Test.YtpfldcfnbgdceaaDoorCodC
namespace Go.Proofs.YtpfldcfnbgdceaaDoor
set_option linter.unusedVariables false
set_option linter.unusedSimpArgs false
set_option maxRecDepth 100000
open Go.RowKit
/-- 'out = append(out, c)' of one byte at a step of a region that draws its order. -/
theorem step_app_u8 {P : Program} {T e : TypeId} {i0 : TypeInfo} (ht : P.underlying T = some (.slice e)) (hi : P.info? e = some i0) (hz0 : i0.zero = some (.int .u8 0)) (hz1 : i0.size = 1) (hz2 : i0.bytes = 1)
    {w : World} {ops : Array Oper} {o : Oper} {a : Act} {K : Act → World → Prop} {Q : Exit → Act → World → Prop} {E : Prop} (s x : Operand) (v : Value) (l : List UInt8) (c : Int) (u : UInt8) (B : Nat)
    (hgd : o.guard = none) (ho : o.op = .call { callee := .builtin .append, args := #[s, x], argTypes := #[T, T] })
    (hs : a.eval s = v) (hx : a.eval x = .slice (some ⟨w.heap.size, 0, none⟩) 1 1) (hown : OB e B v l w) (hu : c = u.toNat) (hl : l.length < 1000000000) (hB : B ≤ w.heap.size)
    (h : ∀ g cap w1, OB e B (.slice (some ⟨g, 0, none⟩) (l.length + 1) cap) (l ++ [u]) w1 → Below B w w1 → K (a.put o.dst (.slice (some ⟨g, 0, none⟩) (l.length + 1) cap)) w1) :
    if Region.wanted o (yielded ops a.tmps) = true then Oper.wp P o a (w.alloc (.cells #[.int .u8 c] e)) K Q else E := by
  subst hu
  refine step_append_lies _ hgd s x T ho B e i0 (.int .u8 0) 1 1 ht hi hz0 hz1 hz2 rfl (by decide) v l.length _ hs (World.ownsRow.alloc hown _) ⟨w.heap.size, 0, none⟩ 1 1 [.int .u8 u.toNat] hx rfl ?_ ?_ (by omega) ?_ ?_ ?_ (w.heap.size + 1) (by simp) ?_
  · intro j x hj
    match j, hj with
    | 0, hj => simp at hj; subst hj; simp [Addr.add]
  · intro x hx; simp at hx; subst hx; rfl
  · unfold maxLen; omega
  · omega
  · simp; omega
  · intro g cap w1 hown1 hg _ _
    exact h g cap w1 (by simpa [OB] using hown1) (below_of_grown hown hB hg)
/-- A slice of bytes that lies anywhere. -/
def BI (ad : Addr) (s : ByteArray) (w : World) : Prop := ad.block < w.heap.size ∧ ∀ k (h : k < s.size), w.cell? (ad.add k) = some (.int .u8 s[k].toNat)
theorem RB.bi {e : TypeId} {g : Nat} {s : ByteArray} {w : World} (h : RB e g (bl s) w) : BI ⟨g, 0, none⟩ s w :=
  ⟨h.lt, fun k hk => by rw [Addr.add_lit, Nat.zero_add]; exact h.cell k (by rw [size_list]; exact hk)⟩
theorem BI.later {ad : Addr} {s : ByteArray} {w w1 : World} (h : BI ad s w) (hb : Below w.heap.size w w1) : BI ad s w1 :=
  ⟨Nat.lt_of_lt_of_le h.1 hb.size, fun k hk => (World.cell?_of_block (by rw [Reads_block]; exact hb.block _ h.1)).trans (h.2 k hk)⟩
theorem BI.byte {ad : Addr} {s : ByteArray} {w : World} (h : BI ad s w) (k : Nat) (hk : k < s.size) :
    ∃ (u : UInt8) (c : Int), Hid (u = s[k]) ∧ Hid (c = u.toNat) ∧ 0 ≤ c ∧ c < 256 ∧ w.cell? (ad.add k) = some (.int .u8 c) :=
  ⟨s[k], s[k].toNat, rfl, rfl, by omega, byte_lt _, h.2 k hk⟩
theorem BI.byteS {ad : Addr} {s : ByteArray} {w : World} (h : BI ad s w) (k : Nat) (hk : k + 1 < s.size) :
    ∃ (u : UInt8) (c : Int), Hid (u = s[k + 1]) ∧ Hid (c = u.toNat) ∧ 0 ≤ c ∧ c < 256 ∧ w.cell? { block := ad.block, off := ad.off + (k + 1) } = some (.int .u8 c) :=
  ⟨s[k + 1], s[k + 1].toNat, rfl, rfl, by omega, byte_lt _, h.2 (k + 1) hk⟩
theorem BI.drew {ad : Addr} {s : ByteArray} {w : World} (h : BI ad s w) (m : Nat) : BI ad s (w.drewN m) := h
theorem twoB_none1 (a b : UInt8) (c x : Int) (hc : Hid (c = a.toNat)) (hx : Hid (hexv c = x)) (h : x < 0) : twoB a b = none := by
  unfold twoB; rw [← hc.out, hx.out, if_neg (by omega)]
theorem twoB_none2 (a b : UInt8) (c x : Int) (hc : Hid (c = b.toNat)) (hx : Hid (hexv c = x)) (h : x < 0) : twoB a b = none := by
  unfold twoB; rw [← hc.out, hx.out, if_neg (by omega)]
theorem twoB_some (a b : UInt8) (c d x y r : Int) (hc : Hid (c = a.toNat)) (hd : Hid (d = b.toNat)) (hx : Hid (hexv c = x)) (hy : Hid (hexv d = y)) (h1 : 0 ≤ x) (h2 : 0 ≤ y) (h3 : x ≤ 15) (h4 : y ≤ 15) (hr : r = bits .or .i64 (x * 16) y % 256) :
    ∃ u : UInt8, Hid (r = u.toNat) ∧ twoB a b = some u := by
  refine ⟨UInt8.ofNat (x * 16 + y).toNat, ?_, ?_⟩
  · show r = _
    rw [hr, or16 x y h1 h3 h2 h4, UInt8.toNat_ofNat']; omega
  · unfold twoB; rw [← hc.out, ← hd.out, hx.out, hy.out, if_pos ⟨h1, h2⟩]
set_option maxHeartbeats 1000000 in
theorem hex_ref (ad : Addr) (c : Nat) (s : ByteArray) (w : World) (hs : s.size ≤ 1000000) (hrb : BI ad s w) : Calls Tryd.prog 59 #[.slice (some ad) s.size c] w (DecPost (decHex (bl s) []) w) := by
  obtain ⟨i0, hi, hz0, hz1, hz2⟩ := info_parts info_u8
  by_cases hodd : s.size % 2 = 1
  · have hn := decHex_odd (bl s) [] (by rw [size_list]; exact hodd)
    have hr : (s.size : Int).tmod 2 = 1 := by rw [Int.tmod_eq_emod_of_nonneg (by omega)]; omega
    have HO := Lib.hid hodd; clear hodd
    go_enter Tryd.func59, Tryd.ntmps59
    go_wp2
    go_ret2
    exact DecPost.none_ hn (Below.refl _ _)
  · obtain ⟨n, hn⟩ : ∃ n, s.size = 2 * n := ⟨s.size / 2, by omega⟩
    have hr : (s.size : Int).tmod 2 = 0 := by rw [Int.tmod_eq_emod_of_nonneg (by omega)]; omega
    have HN := Lib.hid hn; clear hodd hn
    go_enter Tryd.func59, Tryd.ntmps59
    go_wp2
    go_loopw [4, 5] (fun v i wr => ∃ (m : Nat) (l : List UInt8), m ≤ n ∧ i = .int .i64 (2 * (m : Int)) ∧ l.length ≤ m ∧ OB 5 w.heap.size v l wr ∧ Below w.heap.size w wr ∧ decHex ((bl s).drop (2 * m)) l = decHex (bl s) []) (fun _ i _ => s.size - (intOf i).toNat)
    case atStart => exact ⟨0, [], by omega, rfl, by simp, OB.nil_ _ _ _, Below.refl _ _, rfl⟩
    case round =>
      obtain ⟨m, l, hm, rfl, hl, hown, hbel, hrel⟩ := hrel
      have HR := Lib.hid hrel; clear hrel
      by_cases hlt : m < n
      · have h2 : 2 * m + 2 ≤ s.size := by have := HN.out; omega
        have hd : decide (2 * (m : Int) < s.size) = true := decide_eq_true (by omega)
        have hrw := hrb.later hbel
        obtain ⟨u, d, hus, hdu, hd0, hd1, hc1⟩ := hrw.byte (2 * m) (by omega)
        obtain ⟨u', d', hus', hdu', hd0', hd1', hc2⟩ := hrw.byteS (2 * m) (by omega)
        have hst := decHex_two _ l _ _ _ (show (bl s).drop (2 * m) = s[2 * m] :: s[2 * m + 1] :: (bl s).drop (2 * m + 2) by rw [drop_byte s (2 * m) (by omega), drop_byte s (2 * m + 1) (by omega)])
        rw [HR.out, two_drop s (2 * m) h2, ← hus.out, ← hus'.out] at hst
        have HS := Lib.hid hst; clear hst
        have hb1 := hexv_bd d
        have hb2 := hexv_bd d'
        obtain ⟨x1, hx1⟩ : ∃ x, hexv d = x := ⟨_, rfl⟩
        obtain ⟨x2, hx2⟩ : ∃ x, hexv d' = x := ⟨_, rfl⟩
        have A1 := fun w => cdigit_ref d w hd0 hd1
        have A2 := fun w => cdigit_ref d' w hd0' hd1'
        rw [hx1] at hb1 A1
        rw [hx2] at hb2 A2
        have X1 := Lib.hid hx1; have X2 := Lib.hid hx2; clear hx1 hx2
        go_wp2_with fail
        go_quiet ((go_at_call 73; first | (with_reducible show Calls _ _ #[Value.int IntKind.u8 d] _ _; exact quiet_sym (A1 _)) | (with_reducible show Calls _ _ #[Value.int IntKind.u8 d'] _ _; exact quiet_sym (A2 _))))
        have hown1 := OB.drew hown nq
        have hbel1 := Below.drewN' hbel nq
        by_cases q1 : x1 < 0
        · have hfin : decHex (bl s) [] = none := by have := HS.out; rw [twoB_none1 _ _ _ _ hdu X1 q1] at this; exact this
          go_wp2
          go_ret2
          first | exact DecPost.none_ hfin hbel1 | exact DecPost.none_ rfl hbel1
        · by_cases q2 : x2 < 0
          · have hfin : decHex (bl s) [] = none := by have := HS.out; rw [twoB_none2 _ _ _ _ hdu' X2 q2] at this; exact this
            go_wp2
            go_ret2
            first | exact DecPost.none_ hfin hbel1 | exact DecPost.none_ rfl hbel1
          · obtain ⟨y, hy, hyt⟩ := twoB_some u u' d d' x1 x2 _ hdu hdu' X1 X2 (by omega) (by omega) (by omega) (by omega) rfl
            have HY := Lib.hid hyt; clear hyt
            go_wp2_with (at_builtin; refine app_u8 Tryd.underlying23 hi hz0 hz1 hz2 _ _ _ _ _ y _ rfl rfl rfl rfl hown1 hy.out (by omega) hbel1.size ?_; intro v1 w3 hown3 hb3 _ _)
            go_roundw
            case rel =>
              have hs2 := HS.out
              rw [HY.out] at hs2
              exact ⟨m + 1, _, by omega, by go_num, by simp; omega, hown3, hbel1.trans hb3, hs2.symm⟩
            case measure => simp [intOf]; omega
      · obtain rfl : m = n := by omega
        have h2 : s.size ≤ 2 * m := by have := HN.out; omega
        have hd : decide (2 * (m : Int) < s.size) = false := decide_eq_false (by omega)
        have hz : (bl s).drop (2 * m) = [] := List.drop_eq_nil_of_le (by rw [size_list]; exact h2)
        have hfin : decHex (bl s) [] = some l := by rw [← HR.out, hz]; rfl
        go_wp2
        go_ret2
        exact DecPost.some_ hfin hown hbel
set_option maxHeartbeats 1000000 in
theorem percent_ref (ad : Addr) (c : Nat) (s : ByteArray) (w : World) (hs : s.size ≤ 1000000) (hrb : BI ad s w) : Calls Tryd.prog 61 #[.slice (some ad) s.size c] w (DecPost (decPct (bl s) []) w) := by
  obtain ⟨i0, hi, hz0, hz1, hz2⟩ := info_parts info_u8
  go_enter Tryd.func61, Tryd.ntmps61
  go_wp2
  go_loopw [4, 5] (fun v i wr => ∃ (k : Nat) (l : List UInt8), k ≤ s.size ∧ i = .int .i64 (k : Int) ∧ l.length ≤ k ∧ OB 5 w.heap.size v l wr ∧ Below w.heap.size w wr ∧ decPct ((bl s).drop k) l = decPct (bl s) []) (fun _ i _ => s.size - (intOf i).toNat)
  case atStart => exact ⟨0, [], by omega, rfl, by simp, OB.nil_ _ _ _, Below.refl _ _, rfl⟩
  case round =>
    obtain ⟨k, l, hk, rfl, hl, hown, hbel, hrel⟩ := hrel
    have HR := Lib.hid hrel; clear hrel
    have hrw := hrb.later hbel
    by_cases hlt : k < s.size
    · have hd : decide ((k : Int) < s.size) = true := decide_eq_true (by omega)
      obtain ⟨u, c, hus, hcu, hc0, hc1, hix⟩ := hrw.byte k hlt
      by_cases h37 : c = 37
      · have HS := pct_esc s k l u c hlt hus hcu h37 _ HR
        clear hcu
        subst h37
        by_cases hend : k + 2 < s.size
        · obtain ⟨v1, d, hvs, hdv, hd0, hd1, hix1⟩ := hrw.byteS (k) (by omega)
          obtain ⟨v2, d', hvs', hdv', hd0', hd1', hix2⟩ := hrw.byteS (k + 1) (by omega)
          have hst := HS.out
          rw [two_drop s (k + 1) (by omega), ← hvs.out, ← hvs'.out] at hst
          have HT := Lib.hid hst; clear hst
          have hb1 := hexv_bd d
          have hb2 := hexv_bd d'
          obtain ⟨x1, hx1⟩ : ∃ x, hexv d = x := ⟨_, rfl⟩
          obtain ⟨x2, hx2⟩ : ∃ x, hexv d' = x := ⟨_, rfl⟩
          have A1 := fun w => cdigit_ref d w hd0 hd1
          have A2 := fun w => cdigit_ref d' w hd0' hd1'
          rw [hx1] at hb1 A1
          rw [hx2] at hb2 A2
          have X1 := Lib.hid hx1; have X2 := Lib.hid hx2; clear hx1 hx2
          have hd2 : decide ((s.size : Int) ≤ (k : Int) + 2) = false := decide_eq_false (by omega)
          by_cases q1 : x1 < 0
          · have hfin : decPct (bl s) [] = none := by have := HT.out; rw [twoB_none1 _ _ _ _ hdv X1 q1] at this; exact this
            have HF := Lib.hid hfin; clear hfin
            go_wp2_with (go_at_call 73; (first | (with_reducible show Calls _ _ #[Value.int IntKind.u8 d] _ _; refine (A1 _).mono ?_) | (with_reducible show Calls _ _ #[Value.int IntKind.u8 d'] _ _; refine (A2 _).mono ?_)); rintro e w1 ⟨rfl, rfl⟩)
            go_ret2
            exact DecPost.none_ HF.out hbel
          · by_cases q2 : x2 < 0
            · have hfin : decPct (bl s) [] = none := by have := HT.out; rw [twoB_none2 _ _ _ _ hdv' X2 q2] at this; exact this
              have HF := Lib.hid hfin; clear hfin
              go_wp2_with (go_at_call 73; (first | (with_reducible show Calls _ _ #[Value.int IntKind.u8 d] _ _; refine (A1 _).mono ?_) | (with_reducible show Calls _ _ #[Value.int IntKind.u8 d'] _ _; refine (A2 _).mono ?_)); rintro e w1 ⟨rfl, rfl⟩)
              go_ret2
              exact DecPost.none_ HF.out hbel
            · obtain ⟨y, hy, hyt⟩ := twoB_some v1 v2 d d' x1 x2 _ hdv hdv' X1 X2 (by omega) (by omega) (by omega) (by omega) rfl
              have HY := Lib.hid hyt; clear hyt
              go_wp2_with (go_at_call 73; (first | (with_reducible show Calls _ _ #[Value.int IntKind.u8 d] _ _; refine (A1 _).mono ?_) | (with_reducible show Calls _ _ #[Value.int IntKind.u8 d'] _ _; refine (A2 _).mono ?_)); rintro e w1 ⟨rfl, rfl⟩)
              have hownd := (show OB 5 w.heap.size _ l wr.drew from hown)
              have hbeld := hbel.drew
              have hz := hbeld.size
              have hk1 : (0 : Int) ≤ (k : Int) + 1 := by omega
              have hk2 : (0 : Int) ≤ (k : Int) + 2 := by omega
              have hk3 : (k : Int) + 1 < s.size := by omega
              have hw1 : IntKind.i64.wrap ((k : Int) + 1) = (k : Int) + 1 := IntWalk.i64_in _ (by omega)
              have hn2 : ((k : Int) + 2).toNat = k + 2 := by omega
              have hw3 : IntKind.i64.wrap (x1 * 16) = x1 * 16 := IntWalk.i64_in _ (by omega)
              obtain ⟨r, hr⟩ : ∃ r, bits .or .i64 (x1 * 16) x2 % 256 = r := ⟨_, rfl⟩
              have hw4 : IntKind.u8.wrap (bits .or .i64 (x1 * 16) x2) = r := by rw [← hr]; first | rfl | simp [IntKind.wrap]
              rw [hr] at hy
              have hw2 : IntKind.i64.wrap ((k : Int) + 2) = (k : Int) + 2 := IntWalk.i64_in _ (by omega)
              have hk4 : (k : Int) + 2 < s.size := by omega
              go_region_held3 (fun w' => w'.cell? ⟨ad.block, ad.off + (k + 1), none⟩ = some (.int .u8 d) ∧ w'.cell? ⟨ad.block, ad.off + (k + 2), none⟩ = some (.int .u8 d'))
                (first | go_keep | exact ⟨(World.cell?_of_block (a := ⟨ad.block, ad.off + (k + 1), none⟩) (hb3.block ad.block hrb.1)).trans hix1, (World.cell?_of_block (a := ⟨ad.block, ad.off + (k + 2), none⟩) (hb3.block ad.block hrb.1)).trans hix2⟩)
                (first
                  | (go_at_call 73; (first | (with_reducible show Calls _ _ #[Value.int IntKind.u8 d] _ _; refine (A1 _).mono ?_) | (with_reducible show Calls _ _ #[Value.int IntKind.u8 d'] _ _; refine (A2 _).mono ?_)); rintro e w1 ⟨rfl, rfl⟩)
                  | (refine step_app_u8 Tryd.underlying23 hi hz0 hz1 hz2 _ _ _ l _ y _ (by rfl) (by rfl) (by rfl) (by rfl) hownd hy.out (by omega) hz ?_; intro gg cap w3 hown3 hb3))
              go_wp2
              go_roundw
              case rel =>
                have hs2 := HT.out
                rw [HY.out] at hs2
                exact ⟨k + 3, _, by omega, by go_num, by simp; omega, hown3, hbeld.trans hb3, hs2.symm⟩
              case measure => simp [intOf]; omega
        · have hd2 : decide ((s.size : Int) ≤ (k : Int) + 2) = true := decide_eq_true (by omega)
          have hfin : decPct (bl s) [] = none := by rw [HS.out, twoAt_short s (k + 1) (by omega)]
          have HF := Lib.hid hfin; clear hfin
          go_wp2
          go_ret2
          exact DecPost.none_ HF.out hbel
      · have HS := pct_own s k l u c hlt hus hcu h37 _ HR
        have h37b : (c == 37) = false := by rw [beq_eq_false_iff_ne]; exact h37
        go_wp2_with (at_builtin; refine app_u8 Tryd.underlying23 hi hz0 hz1 hz2 _ _ _ _ _ u _ rfl rfl rfl rfl hown hcu.out (by omega) hbel.size ?_; intro v1 w3 hown3 hb3 _ _)
        go_roundw
        case rel => exact ⟨k + 1, _, by omega, by go_num, by simp; omega, hown3, hbel.trans hb3, HS.out⟩
        case measure => simp [intOf]; omega
    · obtain rfl : k = s.size := by omega
      have hfin : decPct (bl s) [] = some l := by rw [← HR.out, List.drop_eq_nil_of_le (by rw [size_list]; omega)]; rfl
      go_wp2
      go_ret2
      exact DecPost.some_ hfin hown hbel
end Go.Proofs.YtpfldcfnbgdceaaDoor
