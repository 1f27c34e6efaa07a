/- The law CodingDecodes: the call returns true, for every tape, text and numbers. -/
import Derived.StillTailTactics
import Derived.Deep.RegionHeld3
import Derived.Laws.AppendOwnNone
import Derived.Test.YtpfldcfnbgdceaaDoorLaw1B
namespace Go.Proofs.YtpfldcfnbgdceaaDoor
set_option linter.unusedVariables false
set_option linter.unusedSimpArgs false
set_option maxRecDepth 100000
open Go.RowKit
theorem OB.empty (e : TypeId) (w : World) : OB e w.heap.size (.slice (some ⟨w.heap.size, 0, none⟩) 0 0) [] (w.alloc (.cells #[] e)) :=
  ⟨rfl, .inr ⟨w.heap.size, 0, #[], rfl, Nat.le_refl _, World.alloc_heap_new w _, Nat.le_refl _, Nat.zero_le _, rfl, rfl⟩⟩
/-- 'out = append(out, row...)' of an owned row. -/
theorem app_OB {P : Program} {T e : TypeId} {i0 : TypeInfo} (ht : P.underlying T = some (.slice e)) (hi : P.info? e = some i0) (hz0 : i0.zero = some (.int .u8 0)) (hz1 : i0.size = 1) (hz2 : i0.bytes = 1)
    {w : World} {ops : Array Oper} {rest : List Oper} {o : Oper} {a : Act} {Q : Exit → Act → World → Prop} (s x : Operand) (v y : Value) (l r : List UInt8) (B B2 : Nat)
    (hgd : o.guard = none) (ho : o.op = .call { callee := .builtin .append, args := #[s, x], argTypes := #[T, T] })
    (hs : a.eval s = v) (hx : a.eval x = y) (hown : OB e B v l w) (hy : OB e B2 y r w) (hl : l.length + r.length < 1000000000) (hB : B ≤ w.heap.size)
    (h : ∀ v' w1, OB e B v' (l ++ r) w1 → Below B w w1 → wpList P ops Q rest (a.put o.dst v') w1) :
    wpList P ops Q (o :: rest) a w := by
  rcases hy.2 with ⟨rfl, h0⟩ | ⟨g, cap, cur, rfl, -, -, -⟩
  · obtain rfl : r = [] := List.length_eq_zero_iff.1 h0
    refine wpList_append_own_none hgd s x T ho B e i0 1 ht hi v l.length _ hs hown hx ?_
    exact h v w (by simpa using hown) (Below.refl _ _)
  · refine app_row ht hi hz0 hz1 hz2 s x v l r g cap B hgd ho hs hx hown (fun j hj => ?_) hl hB h
    have := World.ownsRow.cellAt hy j (by simpa using hj)
    rw [this]; simp [hj]
theorem OB.form2 {e : TypeId} {B : Nat} {v : Value} {l : List UInt8} {w : World} (h : OB e B v l w) : ∃ A c, v = .slice A l.length c ∧ (0 < l.length → ∃ g, A = some ⟨g, 0, none⟩ ∧ B ≤ g ∧ g < w.heap.size ∧ (∀ j (h : j < l.length), w.cell? ⟨g, j, none⟩ = some (.int .u8 l[j].toNat) ∧ w.frozen? ⟨g, j, none⟩ = false)) := by
  have h' := h
  rcases h.2 with ⟨h1, h0⟩ | ⟨g, cap, cur, rfl, hb, hg, -⟩
  · exact ⟨none, 0, by rw [h1, h0], fun h => by omega⟩
  · refine ⟨_, _, rfl, fun _ => ⟨g, rfl, hb, (Array.getElem?_eq_some_iff.1 hg).1, fun j hj => ⟨?_, by simp [World.frozen?, hg]⟩⟩⟩
    have := World.ownsRow.cellAt h' j (by simpa using hj)
    rw [this]; simp [hj]
theorem OB.set {e : TypeId} {B : Nat} {g n c : Nat} {l : List UInt8} {w : World} (h : OB e B (.slice (some ⟨g, 0, none⟩) n c) l w) (j : Nat) (u : UInt8) (x : Int) (hx : x = u.toNat) : OB e B (.slice (some ⟨g, 0, none⟩) n c) (l.set j u) (w.setCell ⟨g, j, none⟩ (.int .u8 x)) := by
  subst hx
  rcases h.2 with ⟨h1, -⟩ | ⟨g', cap, cur, h1, hb, hg, h4, h5, h6, h7⟩
  · cases h1
  · injection h1 with h8 h9 h10
    injection h8 with h8
    injection h8 with h8
    subst h8 h9 h10
    refine ⟨by simp, .inr ⟨g, c, cur.setIfInBounds j (.int .u8 u.toNat), by simp, hb, by simp [World.setCell, Array.getElem?_modify, hg], by simpa using h4, h5, by simpa using h6, ?_⟩⟩
    rw [List.length_set, Array.toList_setIfInBounds, List.take_set, h7, List.map_set]
theorem and7_u8_fin : ∀ n : Fin 256, 0 ≤ bits .and .u8 (n.val : Int) 7 ∧ bits .and .u8 (n.val : Int) 7 < 8 := by decide +kernel
theorem and7_u8 (c : Int) (h0 : 0 ≤ c) (h1 : c < 256) : 0 ≤ bits .and .u8 c 7 ∧ bits .and .u8 c 7 < 8 := by
  have h := and7_u8_fin ⟨c.toNat, by omega⟩
  simp only [Int.toNat_of_nonneg h0] at h
  exact h
theorem four_strs {w : World} {s0 s1 s2 s3 : ByteArray} {T : TypeId} (k : Nat) (hk : k < 4) : ∃ t, (w.alloc (.cells #[.string s0, .string s1, .string s2, .string s3] T)).cell? ⟨w.heap.size, k, none⟩ = some (.string t) := by
  have h : k = 0 ∨ k = 1 ∨ k = 2 ∨ k = 3 := by omega
  rcases h with rfl | rfl | rfl | rfl <;> (rw [World.cell?_alloc_mark]; exact ⟨_, rfl⟩)
theorem five_cells (w : World) (T : TypeId) (a b c d e : Value) (P : Value → Prop) (h : P a ∧ P b ∧ P c ∧ P d ∧ P e) (k : Nat) (hk : k < 5) : ∃ x, P x ∧ (w.alloc (.cells #[a, b, c, d, e] T)).cell? ⟨w.heap.size, k, none⟩ = some x := by
  obtain ⟨h1, h2, h3, h4, h5⟩ := h
  rcases (show k = 0 ∨ k = 1 ∨ k = 2 ∨ k = 3 ∨ k = 4 by omega) with rfl | rfl | rfl | rfl | rfl <;> (rw [World.cell?_alloc_mark]; exact ⟨_, by assumption, rfl⟩)
theorem decode_two (c : Int) (s : ByteArray) (hs : s.size ≤ 1000000) : ∃ (l : List UInt8) (E : Int),
    (∀ w, Calls Tryd.prog 16 #[.int .i64 c, .string s] w fun e w' => ∃ v, e = .returned (.tuple #[v, .int .i64 E]) ∧ OB 5 w.heap.size v l w' ∧ Below w.heap.size w w') ∧
    (∀ w, Calls Tryd.prog 17 #[.int .i64 c, .string s] w fun e w' => ∃ v, e = .returned (.tuple #[v, .int .i64 E]) ∧ OB 5 w.heap.size v l w' ∧ Below w.heap.size w w') :=
  ⟨_, _, fun w => Decode_any c s w hs, fun w => Decode_ref c s w hs⟩
set_option maxRecDepth 100000 in
set_option maxHeartbeats 4000000 in
theorem decodes_law (A : Option Addr) (n c : Nat) (s : ByteArray) (check at_ by_ : Int) (w : World) (ht : TapeArg A n w) (hy0 : 0 ≤ by_) (hy1 : by_ < 256) :
    Calls Tryd.prog 4 #[.slice A n c, .string s, .int .i64 check, .int .i64 at_, .int .u8 by_] w fun e w' => e = .returned (.bool true) ∧ Below w.heap.size w w' := by
  obtain ⟨i0, hi, hz0, hz1, hz2⟩ := info_parts info_u8
  have h0 := tape_new (c := c) ht
  have hb0 := (Below.refl w.heap.size w).alloc (Nat.le_refl _) (.cells #[.slice A n c, .int .i64 0] 26)
  have hI := five_cells (w.alloc (.cells #[.slice A n c, .int .i64 0] 26)) 3 (.int .i64 check) (.int .i64 1) (.int .i64 2) (.int .i64 3) (.int .i64 4) (fun v => ∃ x, v = .int .i64 x) ⟨⟨_, rfl⟩, ⟨_, rfl⟩, ⟨_, rfl⟩, ⟨_, rfl⟩, ⟨_, rfl⟩⟩
  have hs1 : (w.alloc (.cells #[.slice A n c, .int .i64 0] 26)).heap.size = w.heap.size + 1 := by simp
  have h1 := h0.below ((Below.refl _ _).alloc (Nat.le_refl _) (.cells #[.int .i64 check, .int .i64 1, .int .i64 2, .int .i64 3, .int .i64 4] 3))
  have hb1 := hb0.alloc (by rw [hs1]; omega) (.cells #[.int .i64 check, .int .i64 1, .int .i64 2, .int .i64 3, .int .i64 4] 3)
  have hsz : ((w.alloc (.cells #[.slice A n c, .int .i64 0] 26)).alloc (.cells #[.int .i64 check, .int .i64 1, .int .i64 2, .int .i64 3, .int .i64 4] 3)).heap.size = w.heap.size + 2 := by simp
  rw [hs1] at hI
  obtain ⟨p, hp⟩ : ∃ p, bits .and .i64 at_ 255 = p := ⟨_, rfl⟩
  obtain ⟨hp0, hp1⟩ := mask_bd at_ 255 (by decide) (by decide)
  rw [hp] at hp0 hp1
  obtain ⟨y, hy⟩ : ∃ y, bits .and .u8 by_ 7 = y := ⟨_, rfl⟩
  obtain ⟨hyb0, hyb1⟩ := and7_u8 by_ hy0 hy1
  rw [hy] at hyb0 hyb1
  have HI := Lib.hid hI; have HS1 := Lib.hid hs1; have HSZ := Lib.hid hsz
  clear hI hs1 hsz h0 hb0
  go_enter Tryd.func4, Tryd.ntmps4
  go_wp2_with fail
  generalize ((w.alloc (.cells #[.slice A n c, .int .i64 0] 26)).alloc (.cells #[.int .i64 check, .int .i64 1, .int .i64 2, .int .i64 3, .int .i64 4] 3)) = W at *
  obtain ⟨tb, htb⟩ : ∃ tb, tb = w.heap.size := ⟨_, rfl⟩
  have HTB := Lib.hid htb
  have h1' := h1
  go_loopw [13] (fun i wr => ∃ k : Nat, k ≤ 5 ∧ i = .int .i64 (k : Int) ∧ TapeOK w.heap.size wr ∧ Fr w.heap.size W wr) (fun i _ => 5 - (intOf i).toNat)
  case atStart => exact ⟨0, by omega, rfl, h1, Fr.refl _ _⟩
  case round =>
    obtain ⟨k, hk, rfl, htr, hfr⟩ := hrel
    by_cases hlt : k < 5
    · have hd : decide ((k : Int) < 5) = true := decide_eq_true (by omega)
      obtain ⟨q, hq⟩ : ∃ q, bits .and .i64 (k : Int) 3 = q := ⟨_, rfl⟩
      obtain ⟨hq0, hq1⟩ := mask_bd (k : Int) 3 (by decide) (by decide)
      rw [hq] at hq0 hq1
      have hvq : vldC (1 + q) = true := by unfold vldC; simp; omega
      go_wp2_with fail
      refine (next_any w.heap.size _ _ (by omega) (by omega) htr).mono ?_
      rintro e w1 ⟨r, rfl, hr0, hr1, ht1, hf1⟩
      obtain ⟨r, rfl⟩ := Int.eq_ofNat_of_zero_le hr0
      go_wp2_with fail
      refine (bytes_any w.heap.size r _ (by omega) ht1).mono ?_
      rintro e w2 ⟨v, l2, rfl, hl2, hown, ht2, hf2⟩
      go_wp2_with fail
      refine (Encoded_ref (1 + q) hvq v l2 _ (by omega) (BIn.of_OB hown)).mono ?_
      rintro e w3 ⟨v14, rfl, hv14, hb3⟩
      have hel := encd_len (1 + q) l2
      have hle : (encd (1 + q) l2).length ≤ 48 := by omega
      generalize encd (1 + q) l2 = le at *
      clear hel hl2 hown hr0 hr1 hvq hq0 hq1
      have hFr3 : Fr w.heap.size W w3 := ((hfr.trans hf1).trans hf2).then (hb3.mono ((hfr.trans hf1).trans hf2).size)
      have ht3 : TapeOK w.heap.size w3 := ht2.below hb3
      clear ht1 ht2 hf1 hf2 htr
      obtain ⟨A14, c14, rfl, -⟩ := hv14.form2
      have hlt2 : ∀ i, (Value.slice A14 le.length c14).ownBlock = some i → i < w3.heap.size := fun i hi => (World.ownsRow.lt hv14 i hi).2
      by_cases hpos : 0 < le.length
      · have hdp : decide ((0 : Int) < le.length) = true := decide_eq_true (by omega)
        go_wp2_with (at_builtin; refine app_OB Tryd.underlying23 hi hz0 hz1 hz2 _ _ _ _ [] le w3.heap.size w2.heap.size rfl rfl rfl rfl (OB.empty 5 w3) (World.ownsRow.alloc hv14 _) (by simp; omega) (by simp) ?_; intro v15 w4 hv15 hb4'; rw [List.nil_append] at hv15; obtain ⟨A15, c15, rfl, hst⟩ := hv15.form2)
        have hb4 : Below w3.heap.size w3 w4 := ((Below.refl w3.heap.size w3).alloc (Nat.le_refl _) _).trans hb4'
        have hO14' : OB 5 w2.heap.size (.slice A14 le.length c14) le w4 := hv14.later hb4
        have hFr4 : Fr w.heap.size W w4 := hFr3.then (hb4.mono hFr3.size)
        have ht4 : TapeOK w.heap.size w4 := ht3.below hb4
        have h34 := hb4.size
        have hw3 : w.heap.size < w3.heap.size := ht3.lt
        have hzW3 := hFr3.size
        obtain ⟨g, rfl, hg1, hg2, hgc⟩ := hst hpos
        obtain ⟨kk, hkk⟩ : ∃ kk : Nat, p.tmod (le.length : Int) = (kk : Int) := by
          rw [Int.tmod_eq_emod_of_nonneg hp0]
          exact Int.eq_ofNat_of_zero_le (Int.emod_nonneg _ (by omega))
        have hkl : kk < le.length := by
          have h := Int.emod_lt_of_pos p (show (0 : Int) < le.length by omega)
          rw [Int.tmod_eq_emod_of_nonneg hp0] at hkk
          omega
        obtain ⟨hgk, hgf⟩ := hgc kk hkl
        obtain ⟨u, cc, -, hcu, hcc0, hcc1, hix⟩ := idx_str Tryd.underlying9 ⟨#[61, 37, 92, 120, 65, 103, 48, 32]⟩ y.toNat (show y.toNat < 8 by omega) .u8 y (by omega)
        have hO15s := (show OB 5 w3.heap.size _ le w4.drew from hv15).set kk u cc hcu.out
        have hOn : ∀ i, (Value.slice A14 le.length c14).ownBlock = some i → (w4.drew.setCell ⟨g, kk, none⟩ (.int .u8 cc)).heap[i]? = w4.heap[i]? := fun i hi => Below.heap_setCell _ _ _ _ (by show i ≠ g; have := hlt2 i hi; omega)
        have hO14s := hO14'.keep hOn
        have ht5s : TapeOK w.heap.size (w4.drew.setCell ⟨g, kk, none⟩ (.int .u8 cc)) := ht4.keep fun i hi => Below.heap_setCell _ _ _ _ (by show i ≠ g; omega)
        have hb5 : Below w3.heap.size w3 (w4.drew.setCell ⟨g, kk, none⟩ (.int .u8 cc)) := hb4.drew.setCell (p := ⟨g, kk, none⟩) hg1 _
        have hFr5s : Fr w.heap.size W (w4.drew.setCell ⟨g, kk, none⟩ (.int .u8 cc)) := hFr3.then (hb5.mono hFr3.size)
        have hne : (le.length : Int) ≠ 0 := by omega
        have hnl : ¬ le = [] := by rintro rfl; exact absurd hpos (by decide)
        have hk0' : (0 : Int) ≤ (kk : Int) := by omega
        have hki' : (kk : Int) < (le.length : Int) := by omega
        have hlo : (le.set kk u).length ≤ 48 := by rw [List.length_set]; exact hle
        clear hst hgc hv15 hlt2 hOn hFr3 ht3 hv14 hb4' hb4 hb5 hO14' hFr4 ht4
        go_wp2_with fail
        go_still_tail 10, (by kernel_rfl)
        show wpList _ _ _ _ _ w4.drew
        go_wp2_with fail
        have hO15 : OB 5 w3.heap.size _ (le.set kk u) (w4.setCell ⟨g, kk, none⟩ (.int .u8 cc)).drew := hO15s
        have hO14 : OB 5 w2.heap.size (.slice A14 le.length c14) le (w4.setCell ⟨g, kk, none⟩ (.int .u8 cc)).drew := hO14s
        have ht5 : TapeOK w.heap.size (w4.setCell ⟨g, kk, none⟩ (.int .u8 cc)).drew := ht5s
        have hFr5 : Fr w.heap.size W (w4.setCell ⟨g, kk, none⟩ (.int .u8 cc)).drew := hFr5s
        clear hO15s hO14s ht5s hFr5s hgk hgf
        have hll : le.length = (le.set kk u).length := by rw [List.length_set]
        generalize (w4.setCell ⟨g, kk, none⟩ (.int .u8 cc)).drew = W5 at *
        generalize le.set kk u = lo at *
        clear hcu hix hkk hkl hne hnl hk0' hki' hpos hg1 hg2
        rw [hll] at hO15
        have HLL := Lib.hid hll; clear hll
        have hcv14 := hO14.conv (P := Tryd.prog) (T := 23) (d := 9) Tryd.underlying23 Tryd.underlying5 Tryd.underlying9
        rw [← HLL.out] at hO15
        have hcv15 := hO15.conv (P := Tryd.prog) (T := 23) (d := 9) Tryd.underlying23 Tryd.underlying5 Tryd.underlying9
        have hF := fun j hj => four_strs (w := W5) (s0 := s) (s1 := bs le) (s2 := bs lo) (s3 := bs lo ++ ⟨#[61]⟩) (T := 9) j hj
        have hb6 := (Below.refl W5.heap.size W5).alloc (Nat.le_refl _) (.cells #[.string s, .string (bs le), .string (bs lo), .string (bs lo ++ ⟨#[61]⟩)] 9)
        have hz6 : (W5.alloc (.cells #[.string s, .string (bs le), .string (bs lo), .string (bs lo ++ ⟨#[61]⟩)] 9)).heap.size = W5.heap.size + 1 := by simp
        have hsl : (bs le).size ≤ 48 := by rw [size_bs]; exact hle
        have hsl2 : (bs lo).size ≤ 48 := by rw [size_bs]; exact hlo
        have ht6 := ht5.below hb6
        have hFr6 := hFr5.then (hb6.mono hFr5.size)
        obtain ⟨x, ⟨ch, rfl⟩, hcx⟩ := HI.out k hlt
        have hzW := HSZ.out
        have hc6 := (World.cell?_of_block (a := ⟨w.heap.size + 1, k, none⟩) (hFr6.block (w.heap.size + 1) (by omega) (by intro e; injection e with e; omega))).trans hcx
        have hgs : w.heap.size + 1 < W5.heap.size := by have := hFr5.size; omega
        clear hcx
        have HF := Lib.hid hF; have HZ6 := Lib.hid hz6
        clear hF hz6 hO14 hO15 ht5 hFr5
        rw [hcv14]
        simp only [Result.andThen]
        rw [Oper.upon_value]
        go_wp2_with fail
        clear hcv14 hcv15
        generalize (W5.alloc (.cells #[.string s, .string (bs le), .string (bs lo), .string (bs lo ++ ⟨#[61]⟩)] 9)) = W6 at *
        generalize W5.heap.size = g5 at *
        go_loopw [17] (fun i wi => ∃ j : Nat, j ≤ 4 ∧ i = .int .i64 (j : Int) ∧ Below W6.heap.size W6 wi) (fun i _ => (4 - intOf i).toNat)
        case atStart => exact ⟨0, by omega, rfl, Below.refl _ _⟩
        case round =>
          obtain ⟨j, hj, rfl, hbi⟩ := hrel
          by_cases hlj : j < 4
          · obtain ⟨t, hct⟩ := HF.out j hlj
            have hz6 := HZ6.out
            have hc2 : wr.cell? ⟨g5, j, none⟩ = some (.string t) := (hbi.cell (p := ⟨g5, j, none⟩) (by show g5 < _; omega)).trans hct
            have hc1 : wr.cell? ⟨w.heap.size + 1, k, none⟩ = some (.int .i64 ch) := (hbi.cell (p := ⟨w.heap.size + 1, k, none⟩) (by show w.heap.size + 1 < _; omega)).trans hc6
            have hl1 : w.heap.size + 1 < wr.heap.size := by have := hbi.size; omega
            have hl2 : g5 < wr.heap.size := by have := hbi.size; omega
            have hd2 : decide ((j : Int) < 4) = true := decide_eq_true (by omega)
            have hdk : decide ((k : Int) < 5) = true := decide_eq_true (by omega)
            clear hct hz6
            by_cases hbig : 3000 < t.size
            · have hdb : decide ((3000 : Int) < (t.size : Int)) = true := decide_eq_true (by omega)
              go_wp2
              go_roundw
              case rel => exact ⟨j + 1, by omega, by go_num, hbi⟩
              case measure => simp [intOf]; omega
            · have hdb : decide ((3000 : Int) < (t.size : Int)) = false := decide_eq_false (by omega)
              obtain ⟨X, E, hP, hQ⟩ := decode_two ch t (by omega)
              have HP := Lib.hid hP; have HQ := Lib.hid hQ; clear hP hQ
              have hk0 : (0 : Int) ≤ (k : Int) := by omega
              have hki : (k : Int) < 5 := by omega
              have hj0 : (0 : Int) ≤ (j : Int) := by omega
              have hji : (j : Int) < 4 := by omega
              go_wp2_with fail
              go_region_held3 (fun w' => w'.cell? ⟨w.heap.size + 1, k, none⟩ = some (.int .i64 ch) ∧ w'.cell? ⟨g5, j, none⟩ = some (.string t))
                (first | go_keep | exact ⟨hc1, hc2⟩ | exact ⟨(hba.cell (p := ⟨w.heap.size + 1, k, none⟩) hl1).trans hc1, (hba.cell (p := ⟨g5, j, none⟩) hl2).trans hc2⟩)
                ((go_at_call 16; refine (HP.out _).mono ?_; rintro e wa ⟨va, rfl, hva, hba⟩; obtain ⟨Aa, na, ca, rfl⟩ := hva.form_))
              all_goals
                have hl1a : w.heap.size + 1 < wa.heap.size := Nat.lt_of_lt_of_le hl1 hba.size
                have hl2a : g5 < wa.heap.size := Nat.lt_of_lt_of_le hl2 hba.size
                have hc1a := (hba.cell (p := ⟨w.heap.size + 1, k, none⟩) hl1).trans hc1
                have hc2a := (hba.cell (p := ⟨g5, j, none⟩) hl2).trans hc2
                have hbia := hbi.drew.trans (hba.mono hbi.size)
                clear hba hbi hc1 hc2 hl1 hl2
                go_wp2_with fail
                go_region_held3 (fun w' => w'.cell? ⟨w.heap.size + 1, k, none⟩ = some (.int .i64 ch) ∧ w'.cell? ⟨g5, j, none⟩ = some (.string t))
                  (first | go_keep | exact ⟨hc1a, hc2a⟩ | exact ⟨(hbb.cell (p := ⟨w.heap.size + 1, k, none⟩) hl1a).trans hc1a, (hbb.cell (p := ⟨g5, j, none⟩) hl2a).trans hc2a⟩)
                  ((go_at_call 17; refine (HQ.out _).mono ?_; rintro e wb ⟨vb, rfl, hvb, hbb⟩; obtain ⟨Ab, nb, cb, rfl⟩ := hvb.form_))
                all_goals
                  have hcva := (hva.drewA.later hbb).conv (P := Tryd.prog) (T := 23) (d := 9) Tryd.underlying23 Tryd.underlying5 Tryd.underlying9
                  have hcvb := hvb.conv (P := Tryd.prog) (T := 23) (d := 9) Tryd.underlying23 Tryd.underlying5 Tryd.underlying9
                  have hbib := hbia.drew.trans (hbb.mono hbia.size)
                  clear hva hvb hbb hbia
                  go_wp2
                  go_roundw
                  case rel => exact ⟨j + 1, by omega, by go_num, hbib⟩
                  case measure => simp [intOf]; omega
          · obtain rfl : j = 4 := by omega
            go_wp2
            go_roundw
            case rel => exact ⟨k + 1, by omega, by go_num, ht6.below' hbi (by have := HZ6.out; omega), hFr6.then (hbi.mono hFr6.size)⟩
            case measure => simp [intOf]; omega
      · have hdp : decide ((0 : Int) < le.length) = false := decide_eq_false (by omega)
        go_wp2_with (at_builtin; refine app_OB Tryd.underlying23 hi hz0 hz1 hz2 _ _ _ _ [] le w3.heap.size w2.heap.size rfl rfl rfl rfl (OB.empty 5 w3) (World.ownsRow.alloc hv14 _) (by simp; omega) (by simp) ?_; intro v15 w4 hv15 hb4'; rw [List.nil_append] at hv15; obtain ⟨A15, c15, rfl, hst⟩ := hv15.form2)
        have hb4 : Below w3.heap.size w3 w4 := ((Below.refl w3.heap.size w3).alloc (Nat.le_refl _) _).trans hb4'
        have hO14' : OB 5 w2.heap.size (.slice A14 le.length c14) le w4 := hv14.later hb4
        have hFr4 : Fr w.heap.size W w4 := hFr3.then (hb4.mono hFr3.size)
        have ht4 : TapeOK w.heap.size w4 := ht3.below hb4
        have h34 := hb4.size
        have hw3 : w.heap.size < w3.heap.size := ht3.lt
        have hzW3 := hFr3.size
        have hO15 := hv15
        have hlo := hle
        have hO14 := hO14'
        have ht5 := ht4
        have hFr5 := hFr4
        clear hst hv15 hlt2 hFr3 ht3 hv14 hb4' hb4 hO14' ht4 hFr4
        obtain ⟨lo, hlo'⟩ : ∃ lo, lo = le := ⟨_, rfl⟩
        have HLO := Lib.hid hlo'; clear hlo'
        obtain ⟨W5, rfl⟩ : ∃ W5 : World, W5 = w4 := ⟨_, rfl⟩
        have hcv14 := hO14.conv (P := Tryd.prog) (T := 23) (d := 9) Tryd.underlying23 Tryd.underlying5 Tryd.underlying9
        have hcv15 := hO15.conv (P := Tryd.prog) (T := 23) (d := 9) Tryd.underlying23 Tryd.underlying5 Tryd.underlying9
        have hF := fun j hj => four_strs (w := W5) (s0 := s) (s1 := bs le) (s2 := bs le) (s3 := bs le ++ ⟨#[61]⟩) (T := 9) j hj
        have hb6 := (Below.refl W5.heap.size W5).alloc (Nat.le_refl _) (.cells #[.string s, .string (bs le), .string (bs le), .string (bs le ++ ⟨#[61]⟩)] 9)
        have hz6 : (W5.alloc (.cells #[.string s, .string (bs le), .string (bs le), .string (bs le ++ ⟨#[61]⟩)] 9)).heap.size = W5.heap.size + 1 := by simp
        have hsl : (bs le).size ≤ 48 := by rw [size_bs]; exact hle
        have hsl2 : (bs le).size ≤ 48 := by rw [size_bs]; exact hlo
        have ht6 := ht5.below hb6
        have hFr6 := hFr5.then (hb6.mono hFr5.size)
        obtain ⟨x, ⟨ch, rfl⟩, hcx⟩ := HI.out k hlt
        have hzW := HSZ.out
        have hc6 := (World.cell?_of_block (a := ⟨w.heap.size + 1, k, none⟩) (hFr6.block (w.heap.size + 1) (by omega) (by intro e; injection e with e; omega))).trans hcx
        have hgs : w.heap.size + 1 < W5.heap.size := by have := hFr5.size; omega
        clear hcx
        have HF := Lib.hid hF; have HZ6 := Lib.hid hz6
        clear hF hz6 hO14 hO15 ht5 hFr5
        rw [hcv14]
        simp only [Result.andThen]
        rw [Oper.upon_value]
        go_wp2_with fail
        clear hcv14 hcv15
        generalize (W5.alloc (.cells #[.string s, .string (bs le), .string (bs le), .string (bs le ++ ⟨#[61]⟩)] 9)) = W6 at *
        generalize W5.heap.size = g5 at *
        go_loopw [17] (fun i wi => ∃ j : Nat, j ≤ 4 ∧ i = .int .i64 (j : Int) ∧ Below W6.heap.size W6 wi) (fun i _ => (4 - intOf i).toNat)
        case atStart => exact ⟨0, by omega, rfl, Below.refl _ _⟩
        case round =>
          obtain ⟨j, hj, rfl, hbi⟩ := hrel
          by_cases hlj : j < 4
          · obtain ⟨t, hct⟩ := HF.out j hlj
            have hz6 := HZ6.out
            have hc2 : wr.cell? ⟨g5, j, none⟩ = some (.string t) := (hbi.cell (p := ⟨g5, j, none⟩) (by show g5 < _; omega)).trans hct
            have hc1 : wr.cell? ⟨w.heap.size + 1, k, none⟩ = some (.int .i64 ch) := (hbi.cell (p := ⟨w.heap.size + 1, k, none⟩) (by show w.heap.size + 1 < _; omega)).trans hc6
            have hl1 : w.heap.size + 1 < wr.heap.size := by have := hbi.size; omega
            have hl2 : g5 < wr.heap.size := by have := hbi.size; omega
            have hd2 : decide ((j : Int) < 4) = true := decide_eq_true (by omega)
            have hdk : decide ((k : Int) < 5) = true := decide_eq_true (by omega)
            clear hct hz6
            by_cases hbig : 3000 < t.size
            · have hdb : decide ((3000 : Int) < (t.size : Int)) = true := decide_eq_true (by omega)
              go_wp2
              go_roundw
              case rel => exact ⟨j + 1, by omega, by go_num, hbi⟩
              case measure => simp [intOf]; omega
            · have hdb : decide ((3000 : Int) < (t.size : Int)) = false := decide_eq_false (by omega)
              obtain ⟨X, E, hP, hQ⟩ := decode_two ch t (by omega)
              have HP := Lib.hid hP; have HQ := Lib.hid hQ; clear hP hQ
              have hk0 : (0 : Int) ≤ (k : Int) := by omega
              have hki : (k : Int) < 5 := by omega
              have hj0 : (0 : Int) ≤ (j : Int) := by omega
              have hji : (j : Int) < 4 := by omega
              go_wp2_with fail
              go_region_held3 (fun w' => w'.cell? ⟨w.heap.size + 1, k, none⟩ = some (.int .i64 ch) ∧ w'.cell? ⟨g5, j, none⟩ = some (.string t))
                (first | go_keep | exact ⟨hc1, hc2⟩ | exact ⟨(hba.cell (p := ⟨w.heap.size + 1, k, none⟩) hl1).trans hc1, (hba.cell (p := ⟨g5, j, none⟩) hl2).trans hc2⟩)
                ((go_at_call 16; refine (HP.out _).mono ?_; rintro e wa ⟨va, rfl, hva, hba⟩; obtain ⟨Aa, na, ca, rfl⟩ := hva.form_))
              all_goals
                have hl1a : w.heap.size + 1 < wa.heap.size := Nat.lt_of_lt_of_le hl1 hba.size
                have hl2a : g5 < wa.heap.size := Nat.lt_of_lt_of_le hl2 hba.size
                have hc1a := (hba.cell (p := ⟨w.heap.size + 1, k, none⟩) hl1).trans hc1
                have hc2a := (hba.cell (p := ⟨g5, j, none⟩) hl2).trans hc2
                have hbia := hbi.drew.trans (hba.mono hbi.size)
                clear hba hbi hc1 hc2 hl1 hl2
                go_wp2_with fail
                go_region_held3 (fun w' => w'.cell? ⟨w.heap.size + 1, k, none⟩ = some (.int .i64 ch) ∧ w'.cell? ⟨g5, j, none⟩ = some (.string t))
                  (first | go_keep | exact ⟨hc1a, hc2a⟩ | exact ⟨(hbb.cell (p := ⟨w.heap.size + 1, k, none⟩) hl1a).trans hc1a, (hbb.cell (p := ⟨g5, j, none⟩) hl2a).trans hc2a⟩)
                  ((go_at_call 17; refine (HQ.out _).mono ?_; rintro e wb ⟨vb, rfl, hvb, hbb⟩; obtain ⟨Ab, nb, cb, rfl⟩ := hvb.form_))
                all_goals
                  have hcva := (hva.drewA.later hbb).conv (P := Tryd.prog) (T := 23) (d := 9) Tryd.underlying23 Tryd.underlying5 Tryd.underlying9
                  have hcvb := hvb.conv (P := Tryd.prog) (T := 23) (d := 9) Tryd.underlying23 Tryd.underlying5 Tryd.underlying9
                  have hbib := hbia.drew.trans (hbb.mono hbia.size)
                  clear hva hvb hbb hbia
                  go_wp2
                  go_roundw
                  case rel => exact ⟨j + 1, by omega, by go_num, hbib⟩
                  case measure => simp [intOf]; omega
          · obtain rfl : j = 4 := by omega
            go_wp2
            go_roundw
            case rel => exact ⟨k + 1, by omega, by go_num, ht6.below' hbi (by have := HZ6.out; omega), hFr6.then (hbi.mono hFr6.size)⟩
            case measure => simp [intOf]; omega
    · obtain rfl : k = 5 := by omega
      have hzW := HSZ.out
      go_wp2_with (go_at_call 14; refine (awake1_any _).mono ?_; rintro e w' ⟨rfl, hb⟩)
      go_ret
      exact ⟨rfl, (hb1.trans (hfr.below (Nat.le_refl _) (by omega))).trans (hb.mono (by have := hfr.size; omega))⟩
end Go.Proofs.YtpfldcfnbgdceaaDoor
