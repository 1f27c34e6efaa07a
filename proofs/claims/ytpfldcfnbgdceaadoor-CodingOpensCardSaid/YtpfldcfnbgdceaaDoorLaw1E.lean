/- The law CodingOpens: the call returns true, for every tape and numbers. -/
import Derived.Lib.AppendStr
import Derived.IntWalk
import Derived.Deep.CutRange
import Derived.Test.YtpfldcfnbgdceaaDoorLaw1D
import Derived.Test.YtpfldcfnbgdceaaDoorLaw1B
import Derived.Test.YtpfldcfnbgdceaaDoorRunN
namespace Go.Proofs.YtpfldcfnbgdceaaDoor
set_option linter.unusedVariables false
set_option linter.unusedSimpArgs false
set_option maxRecDepth 100000
open Go.RowKit
/-- 'append(v, "text"...)' of a row of one's own. -/
theorem app_text {P : Program} {T e u : TypeId} {i0 : TypeInfo} (ht : P.underlying T = some (.slice e)) (hu : P.underlying u = some .string) (hi : P.info? e = some i0) (hz0 : i0.zero = some (.int .u8 0)) (hz1 : i0.size = 1) (hz2 : i0.bytes = 1)
    {w : World} {ops : Array Oper} {rest : List Oper} {o : Oper} {a : Act} {Q : Exit → Act → World → Prop} (s x : Operand) (v : Value) (l : List UInt8) (t : ByteArray) (B : Nat)
    (hgd : o.guard = none) (ho : o.op = .call { callee := .builtin .append, args := #[s, x], argTypes := #[T, u] })
    (hs : a.eval s = v) (hx : a.eval x = .string t) (hown : OB e B v l w) (hl : l.length + t.size < 1000000000) (hB : B ≤ w.heap.size)
    (h : ∀ v' w1, OB e B v' (l ++ bl t) w1 → Below B w w1 → wpList P ops Q rest (a.put o.dst v') w1) :
    wpList P ops Q (o :: rest) a w := by
  refine Lib.wpList_append_own_string w hgd s x T u ho B e i0 ht hu hi hz0 hz1 hz2 v l.length _ hs hown t hx (by unfold maxLen; omega) (by omega) hB ?_
  intro v' w1 hown1 hg _
  refine h v' w1 ?_ ((Below.refl B w).grown hg hB (fun k hk => (hown.lt k hk).1))
  show w1.ownsRow B e 1 v' (l ++ bl t).length ((l ++ bl t).map fun c => Value.int .u8 c.toNat)
  rw [List.length_append, size_list, List.map_append]
  exact hown1
theorem mark_len : (bl ⟨#[10, 49, 50, 51, 52, 53, 54, 55, 56]⟩).length = 9 := rfl
theorem mark_mem : (10 : UInt8) ∈ bl ⟨#[10, 49, 50, 51, 52, 53, 54, 55, 56]⟩ := by decide
theorem text_bl (S : ByteArray) (s : List UInt8) (h : bl S = s) : bl ((⟨#[97, 32]⟩ : ByteArray) ++ S ++ (⟨#[32, 98]⟩ : ByteArray)) = textO s := by
  subst h
  rw [show (⟨#[32, 98]⟩ : ByteArray) = bs [32, 98] from rfl, cat_bs, bl_bs]
  unfold textO
  simp [bl]
theorem cell_lt {w : World} {B j : Nat} {v : Value} (h : w.cell? ⟨B, j, none⟩ = some v) : B < w.heap.size := by
  rcases Nat.lt_or_ge B w.heap.size with h1 | h1
  · exact h1
  · simp [World.cell?, Array.getElem?_eq_none h1] at h
theorem below_drewN {B : Nat} {a w : World} (h : Below B a w) (n : Nat) : Below B a (w.drewN n) := ⟨h.os, h.tape, h.output, h.size, h.block⟩
/-- The code's Runs at a text that is not too long. -/
theorem runs_code (A : Option Addr) (l : List UInt8) (cc : Nat) (w : World) (h : BA A l cc w) (hl : l.length ≤ 65536) : Calls Tryd.prog 20 #[.slice A l.length cc] w (RunsPost (mUp l 4) w) := by
  refine (Runs_any A l cc w h (by unfold maxLen; omega)).mono ?_
  rintro e w1 ⟨o, ho, v, rfl, hv, hb⟩
  rw [if_neg (by omega)] at ho
  exact ⟨v, rfl, by rw [← runs_law l o ho.1 ho.2]; exact hv, hb⟩
theorem take_one {o : List Rn} {k : Nat} {x : Rn} (hk : k < o.length) (hx : Hid (o[k] = x)) : o.take (k + 1) = o.take k ++ [x] := by
  rw [← hx.out, List.take_succ_eq_append_getElem hk]
theorem found_had {o : List Rn} {k : Nat} {tgt : Rn} (h : Hid (true = decide (tgt ∈ o.take k))) : Hid (true = decide (tgt ∈ o.take (k + 1))) := by
  have h1 := of_decide_eq_true h.out.symm
  show _ = _
  refine (decide_eq_true ?_).symm
  have := List.take_subset_take_left o (show k ≤ k + 1 by omega)
  exact this h1
theorem found_yes {o : List Rn} {k cc ff tt q : Nat} {tgt : Rn} {S : ByteArray} {s : List UInt8} (hk : k < o.length) (hx : Hid (o[k] = (cc, ff, tt))) (ht : Hid (tgt = (1 + q, 2, 2 + s.length))) (hs : Hid (S.size = s.length))
    (h1 : (cc : Int) = 1 + q) (h2 : (ff : Int) = 2) (h3 : (tt : Int) = 2 + S.size) : Hid (true = decide (tgt ∈ o.take (k + 1))) := by
  show _ = _
  refine (decide_eq_true ?_).symm
  have := hs.out
  rw [take_one hk hx, ht.out, show cc = 1 + q by omega, show ff = 2 by omega, show tt = 2 + s.length by omega]
  simp
theorem found_no {o : List Rn} {k cc ff tt q : Nat} {tgt : Rn} {S : ByteArray} {s : List UInt8} (hk : k < o.length) (hx : Hid (o[k] = (cc, ff, tt))) (ht : Hid (tgt = (1 + q, 2, 2 + s.length))) (hs : Hid (S.size = s.length))
    (h : Hid (false = decide (tgt ∈ o.take k))) (h1 : ¬ ((cc : Int) = 1 + q ∧ (ff : Int) = 2 ∧ (tt : Int) = 2 + S.size)) : Hid (false = decide (tgt ∈ o.take (k + 1))) := by
  have h0 := of_decide_eq_false h.out.symm
  show _ = _
  refine (decide_eq_false ?_).symm
  have := hs.out
  rw [take_one hk hx, List.mem_append, List.mem_singleton]
  rintro (h2 | h2)
  · exact h0 h2
  · rw [ht.out] at h2
    injection h2 with e1 e2
    injection e2 with e2 e3
    exact h1 ⟨by omega, by omega, by omega⟩
set_option maxRecDepth 100000 in
set_option maxHeartbeats 8000000 in
theorem opens_law (A : Option Addr) (n c : Nat) (num cod : Int) (w : World) (ht : TapeArg A n w) :
    Calls Tryd.prog 7 #[.slice A n c, .int .i64 num, .int .i64 cod] w fun e w' => e = .returned (.bool true) ∧ Below w.heap.size w w' := by
  obtain ⟨i0, hi, hz0, hz1, hz2⟩ := info_parts info_u8
  have h0 := tape_new (c := c) ht
  have hb0 := (Below.refl w.heap.size w).alloc (Nat.le_refl _) (.cells #[.slice A n c, .int .i64 0] 26)
  generalize hw0 : w.alloc (.cells #[.slice A n c, .int .i64 0] 26) = w0 at h0 hb0
  have HW0 := Lib.hid hw0
  have hs0 : w0.heap.size = w.heap.size + 1 := by rw [← hw0]; simp
  have HS0 := Lib.hid hs0; clear hs0
  obtain ⟨p, hp⟩ : ∃ p, bits .and .i64 num 15 = p := ⟨_, rfl⟩
  obtain ⟨hp0, hp1⟩ := mask_bd num 15 (by decide) (by decide)
  rw [hp] at hp0 hp1
  obtain ⟨r, rfl⟩ := Int.eq_ofNat_of_zero_le hp0
  obtain ⟨q, hq⟩ : ∃ q, bits .and .i64 cod 3 = q := ⟨_, rfl⟩
  obtain ⟨hq0, hq1⟩ := mask_bd cod 3 (by decide) (by decide)
  rw [hq] at hq0 hq1
  obtain ⟨q, rfl⟩ := Int.eq_ofNat_of_zero_le hq0
  have hvk : vldC (1 + (q : Int)) = true := by unfold vldC; simp; omega
  have HVK := Lib.hid hvk; clear hvk
  go_enter Tryd.func7, Tryd.ntmps7
  go_wp2_with fail
  clear hw0
  refine (bytes_any w.heap.size r _ (by omega) h0).mono ?_
  rintro e w2 ⟨v, l2, rfl, hl2, hown, ht2, hf2⟩
  have hF : Below w.heap.size w w2 := hb0.trans (hf2.below (Nat.le_refl _) hb0.size)
  have hll : l2.length ≤ 15 := by omega
  clear ht2 h0 hb0 HW0 hl2 hp hq
  have HF2 := Lib.hid hf2; clear hf2
  obtain ⟨Av, nv, cv, rfl⟩ := hown.form_
  have hsz2 : w.heap.size + 1 ≤ w2.heap.size := by have := HF2.out.size; have := HS0.out; omega
  have hln : l2.length + ByteArray.size ⟨#[10, 49, 50, 51, 52, 53, 54, 55, 56]⟩ < 1000000000 := by show l2.length + 9 < _; omega
  go_wp2_with (at_builtin; refine app_text Tryd.underlying23 Tryd.underlying9 hi hz0 hz1 hz2 (.tmp 31) (.const (.string ⟨#[10, 49, 50, 51, 52, 53, 54, 55, 56]⟩)) _ _ _ _ rfl rfl rfl rfl hown hln (by rw [HS0.out]; exact hsz2) ?_; intro v3 w3 hown3 hb3)
  have hF3 := hF.trans (hb3.mono (by have := HS0.out; omega))
  obtain ⟨A3, n3, c3, rfl⟩ := hown3.form_
  obtain ⟨b, hb⟩ : ∃ b, b = l2 ++ bl ⟨#[10, 49, 50, 51, 52, 53, 54, 55, 56]⟩ := ⟨_, rfl⟩
  have hbl : b.length = l2.length + 9 := by rw [hb, List.length_append, mark_len]
  have hbm : (10 : UInt8) ∈ b := by rw [hb]; exact List.mem_append_right _ mark_mem
  rw [← hb] at hown3
  clear hb hown hF hb3
  obtain ⟨e1, -, -, -⟩ := back_enc (1 + (q : Int)) b HVK.out (by omega)
  have e2 : encOut (1 + (q : Int)) b = encd (1 + (q : Int)) b := by unfold encOut; rw [if_neg (by rw [HVK.out]; decide), if_neg (by omega)]
  have E := Encode_any (1 + (q : Int)) (.slice A3 n3 c3) b w3 (by omega) (BIn.of_OB hown3)
  unfold EePost at E
  rw [e1, e2] at E
  have hsl := encd_len (1 + (q : Int)) b
  have hfo := found_O (1 + q) (by have : ((1 + q : Nat) : Int) = 1 + (q : Int) := by omega
                                  rw [this]; exact HVK.out) b (by omega) hbm
  rw [show ((1 + q : Nat) : Int) = 1 + (q : Int) by omega] at hfo
  generalize hs : encd (1 + (q : Int)) b = s at *
  obtain ⟨S, hS⟩ : ∃ S, bs s = S := ⟨_, rfl⟩
  rw [hS] at E
  have hSb : bl S = s := by rw [← hS, bl_bs]
  have hSs : S.size = s.length := by rw [← size_list, hSb]
  have HE := Lib.hid E
  have HHS := Lib.hid hSb
  have HSs := Lib.hid hSs
  have HFO := Lib.hid hfo
  have hsl2 : s.length ≤ 96 := by omega
  have hSz : S.size ≤ 96 := by omega
  clear E hs hS hSb hSs hfo e1 e2 hbm hown3
  go_wp2_with fail
  refine HE.out.mono ?_
  rintro e w4 ⟨rfl, hb4⟩
  have hF4 := hF3.trans (hb4.mono hF3.size)
  clear hb4 HE
  obtain ⟨U, hU⟩ : ∃ U, U = (⟨#[97, 32]⟩ : ByteArray) ++ S ++ (⟨#[32, 98]⟩ : ByteArray) := ⟨_, rfl⟩
  have hUb : bl U = textO s := by rw [hU]; exact text_bl S s HHS.out
  have hUs : U.size = 2 + S.size + 2 := by rw [← size_list, hUb, textO_len, HSs.out]; omega
  have hlt : (textO s).length = 2 + S.size + 2 := by rw [← hUs, ← size_list, hUb]
  obtain ⟨W, C, B, hW, hC, hB, hrb, hbel, hWs⟩ := RB.names w4 5 U
  have hcv := fun w => Lib.run_convert_string_bytes (P := Tryd.prog) w 9 23 5 U Tryd.underlying9 Tryd.underlying23 Tryd.underlying5
  have hBA : BA (some ⟨B, 0, none⟩) (textO s) C W := by
    rw [hUb] at hrb
    refine ⟨by rw [hlt, ← hUs, hC]; exact grownCap_ge _ _ _ _, .inr ⟨_, rfl, by show B < _; omega, fun j hj => ?_⟩⟩
    rw [Addr.add_lit, Nat.zero_add]; exact hrb.cell j hj
  have HR := runs_code _ _ _ _ hBA (by omega)
  have hT : ∀ j (h : j < (textO s).length), W.cell? ⟨B, j, none⟩ = some (.int .u8 (textO s)[j].toNat) := fun j hj => by rw [hUb] at hrb; exact hrb.cell j hj
  have hgood := good_mUp (textO s)
  have hlen : (mUp (textO s) 4).length ≤ 1000000 := by have := mUp_len (textO s) 4; omega
  generalize mUp (textO s) 4 = o at *
  rw [hUs] at hC
  rw [hlt, hC, hB] at HR
  rw [hU] at hcv hW
  rw [hW] at HR
  have HR := Lib.hid HR
  have HW := Lib.hid hW; have HB := Lib.hid hB; have HC := Lib.hid hC; have HLT := Lib.hid hlt; have HT := Lib.hid hT; have HG := Lib.hid hgood; have HLEN := Lib.hid hlen
  have hF5 := hF4.trans (show Below w.heap.size w4 W from hbel.mono (by have := hF4.size; omega))
  clear hrb hWs hUb hUs hbel hU hlt hW hB hC hT hgood hlen hBA
  go_wp2_with fail
  refine HR.out.mono ?_
  rintro e W5 ⟨v5, rfl, hv5, hb5⟩
  rw [← HC.out, ← HB.out]
  rw [← HW.out] at hb5
  have hcap : 2 + S.size + 2 ≤ C := by rw [HC.out]; exact grownCap_ge _ _ _ _
  generalize hLL : 2 + S.size + 2 = L at *
  obtain ⟨A5, c5, rfl, hR5⟩ := hv5
  have HR5 := Lib.hid hR5; clear hR5
  have hLb : L ≤ 100 := by omega
  have hLs : L = S.size + 4 := by omega
  have hb5' : Below w.heap.size w W5 := hF5.trans (hb5.mono (by have := hF5.size; omega))
  have hTT : ∀ w1, Below W5.heap.size W5 w1 → ∀ j (h : j < (textO s).length), w1.cell? ⟨B, j, none⟩ = some (.int .u8 (textO s)[j].toNat) := fun w1 hb1 j hj => by
    have hB1 : B < W.heap.size := by
      have hc := HT.out j hj
      exact cell_lt hc
    have hsz := hb5.size
    rw [show w1.cell? ⟨B, j, none⟩ = W5.cell? ⟨B, j, none⟩ from World.cell?_of_block (hb1.block B (by omega)), show W5.cell? ⟨B, j, none⟩ = W.cell? ⟨B, j, none⟩ from World.cell?_of_block (hb5.block B hB1)]
    exact HT.out j hj
  have HTT := Lib.hid hTT
  have HLS := Lib.hid hLs; have HCAP := Lib.hid hcap; have HLL := Lib.hid hLL
  clear hTT hLs hb5 hF5 hF4 hF3 HT HW HB HC HR hcap hLL HF2 HS0 hll hbl hsl hsl2 hsz2 hln hcv
  obtain ⟨tgt, htgt⟩ : ∃ tgt : Rn, tgt = (1 + q, 2, 2 + s.length) := ⟨_, rfl⟩
  have HTG := Lib.hid htgt; clear htgt
  have hol := HLEN.out
  go_wp2_with fail
  go_loopw [13, 14] (fun v i wr => ∃ (k : Nat) (fd : Bool), k ≤ o.length ∧ i = .int .i64 (k : Int) ∧ v = .bool fd ∧ Below W5.heap.size W5 wr ∧ Hid (fd = decide (tgt ∈ o.take k))) (fun _ i _ => o.length - (intOf i).toNat)
  case atStart => exact ⟨0, false, by omega, rfl, rfl, Below.refl _ _, by show _ = _; simp⟩
  case round =>
    obtain ⟨k, fd, hk, rfl, rfl, hbel, HFD⟩ := hrel
    by_cases hlt : k < o.length
    · have hd : decide ((k : Int) < o.length) = true := decide_eq_true (by omega)
      have hdn : decide (k < o.length) = true := decide_eq_true hlt
      obtain ⟨g5, rfl, hg5, HC5⟩ := HR5.out.resolve_left (by intro e; rw [e] at hlt; simp at hlt)
      have HCA := Lib.hid (show ∀ w1, Below W5.heap.size W5 w1 → ∀ m (h : m < o.length), w1.cell? ⟨g5, m * 3, none⟩ = some (.int .i64 (o[m].1 : Int)) ∧ w1.cell? ⟨g5, m * 3 + 1, none⟩ = some (.int .i64 (o[m].2.1 : Int)) ∧ w1.cell? ⟨g5, m * 3 + 2, none⟩ = some (.int .i64 (o[m].2.2 : Int)) from fun w1 hb1 m hm => by
        obtain ⟨a0, a1, a2⟩ := HC5 m hm
        have q1 : ∀ j, w1.cell? ⟨g5, j, none⟩ = W5.cell? ⟨g5, j, none⟩ := fun j => World.cell?_of_block (hb1.block g5 hg5)
        rw [q1, q1, q1]
        exact ⟨a0, a1, a2⟩)
      clear HC5
      obtain ⟨a0, a1, a2⟩ := HCA.out wr hbel k hlt
      obtain ⟨g1, g2, g3, z, g4⟩ := HG.out.1 o[k] (List.getElem_mem hlt)
      obtain ⟨cc, hcc⟩ : ∃ x, o[k].1 = x := ⟨_, rfl⟩
      obtain ⟨ff, hff⟩ : ∃ x, o[k].2.1 = x := ⟨_, rfl⟩
      obtain ⟨tt, htt⟩ : ∃ x, o[k].2.2 = x := ⟨_, rfl⟩
      rw [hcc] at a0 g1 g4
      rw [hff] at a1 g3 g4
      rw [htt] at a2 g2 g3 g4
      have hpw : ∀ m (h : m < k), ((o[m].2.1 < ff ∨ (o[m].2.1 = ff ∧ o[m].1 < cc)) ∧ (o[m].1 = cc → o[m].2.2 ≤ ff)) := fun m hm => by
        have := List.pairwise_iff_getElem.1 HG.out.2 m k (by omega) hlt hm
        rw [hcc, hff] at this; exact this
      have HPW := Lib.hid hpw
      have HX := Lib.hid (show o[k] = (cc, ff, tt) by rw [← hcc, ← hff, ← htt])
      have hc4 : cc ≤ 4 := by unfold vldC at g1; simp at g1; omega
      have HG1 := Lib.hid g1; have HG4 := Lib.hid g4
      have htl : tt ≤ L := by have := HLS.out; rw [textO_len] at g2; rw [← HSs.out] at g2; omega
      have hkk : k < 1000000 := by omega
      clear hcc hff htt hpw g1 g4 g2
      clear a0 a1 a2
      obtain ⟨a0, a1, a2⟩ := HCA.out wr hbel k hlt
      rw [HX.out] at a0 a1 a2
      have d8 : decide ((tt : Int) - (ff : Int) < 8) = false := decide_eq_false (by omega)
      have dL : decide ((L : Int) < (tt : Int)) = false := decide_eq_false (by omega)
      have dLn : decide (L < tt) = false := decide_eq_false (by omega)
      have d0 : decide ((ff : Int) < 0) = false := decide_eq_false (by omega)
      have hw1 : IntKind.i64.wrap ((tt : Int) - (ff : Int)) = (tt : Int) - (ff : Int) := IntWalk.i64_in _ (by omega)
      have hw2 : IntKind.i64.wrap ((k : Int) - 1) = (k : Int) - 1 := IntWalk.i64_in _ (by omega)
      have hw3 : ((k : Int) - 1).toNat = k - 1 := by omega
      have hw4 : k - 1 < o.length := by omega
      have hR : wr.heap.size < (wr.alloc (Obj.cells #[Value.int IntKind.i64 ↑cc, Value.int IntKind.i64 ↑ff, Value.int IntKind.i64 ↑tt] 48)).heap.size := by simp
      have hbel6 : Below W5.heap.size W5 (wr.alloc (Obj.cells #[Value.int IntKind.i64 ↑cc, Value.int IntKind.i64 ↑ff, Value.int IntKind.i64 ↑tt] 48)) := hbel.alloc hbel.size _
      have r0 : (wr.alloc (Obj.cells #[Value.int IntKind.i64 ↑cc, Value.int IntKind.i64 ↑ff, Value.int IntKind.i64 ↑tt] 48)).cell? ⟨wr.heap.size, 0, none⟩ = some (.int .i64 (cc : Int)) := by rw [World.cell?_alloc_mark]; rfl
      have r1 : (wr.alloc (Obj.cells #[Value.int IntKind.i64 ↑cc, Value.int IntKind.i64 ↑ff, Value.int IntKind.i64 ↑tt] 48)).cell? ⟨wr.heap.size, 1, none⟩ = some (.int .i64 (ff : Int)) := by rw [World.cell?_alloc_mark]; rfl
      have r2 : (wr.alloc (Obj.cells #[Value.int IntKind.i64 ↑cc, Value.int IntKind.i64 ↑ff, Value.int IntKind.i64 ↑tt] 48)).cell? ⟨wr.heap.size, 2, none⟩ = some (.int .i64 (tt : Int)) := by rw [World.cell?_alloc_mark]; rfl
      have HH := Lib.hid (And.intro hR (And.intro hbel6 (And.intro r0 (And.intro r1 r2))))
      clear hR hbel6 r0 r1 r2
      go_upto_region 13 with fail
      obtain ⟨hR, hbel6, r0, r1, r2⟩ := HH.out
      have hsz6 := hbel.size
      clear HH a0 a1 a2 hbel
      generalize wr.alloc (Obj.cells #[Value.int IntKind.i64 ↑cc, Value.int IntKind.i64 ↑ff, Value.int IntKind.i64 ↑tt] 48) = W6 at *
      generalize wr.heap.size = R at *
      go_cut [108] from 44 to 156 (fun s wx => s = .bool false ∧ Below W5.heap.size W5 wx ∧ R < wx.heap.size ∧ wx.cell? ⟨R, 0, none⟩ = some (.int .i64 (cc : Int)) ∧ wx.cell? ⟨R, 1, none⟩ = some (.int .i64 (ff : Int)) ∧ wx.cell? ⟨R, 2, none⟩ = some (.int .i64 (tt : Int)))
      case first =>
        have hcase : (decide ((0 : Int) < (k : Int)) = false ∧ decide (0 < k) = false) ∨ (0 < k ∧ decide ((0 : Int) < (k : Int)) = true ∧ decide (0 < k) = true ∧ ∃ pc pf pt : Nat, W6.cell? ⟨g5, (k - 1) * 3, none⟩ = some (.int .i64 (pc : Int)) ∧ W6.cell? ⟨g5, (k - 1) * 3 + 1, none⟩ = some (.int .i64 (pf : Int)) ∧ W6.cell? ⟨g5, (k - 1) * 3 + 2, none⟩ = some (.int .i64 (pt : Int)) ∧ pf ≤ ff ∧ ((((ff : Int) == (pf : Int)) = false) ∨ (((ff : Int) == (pf : Int)) = true ∧ pc < cc))) := by
          by_cases h0 : 0 < k
          · right
            obtain ⟨b0, b1, b2⟩ := HCA.out W6 hbel6 (k - 1) (by omega)
            have h1 := (HPW.out (k - 1) (by omega)).1
            refine ⟨h0, decide_eq_true (by omega), decide_eq_true h0, _, _, _, b0, b1, b2, by omega, ?_⟩
            rcases h1 with h1 | ⟨h1, h2⟩
            · left; simp; omega
            · right; exact ⟨by simp; omega, h2⟩
          · left; exact ⟨decide_eq_false (by omega), decide_eq_false h0⟩
        rcases hcase with ⟨q1, q2⟩ | ⟨q0, q1, q2, pc, pf, pt, p0, p1, p2, p3, p4 | ⟨p4, p5⟩⟩
        all_goals try have q3 : (1 : Int) ≤ (k : Int) := by omega
        all_goals try have q4 : (0 : Int) ≤ (k : Int) - 1 := by omega
        all_goals try have q5 : decide ((ff : Int) < (pf : Int)) = false := decide_eq_false (by omega)
        all_goals try have q5n : decide (ff < pf) = false := decide_eq_false (by omega)
        all_goals try have q6 : decide ((cc : Int) ≤ (pc : Int)) = false := decide_eq_false (by omega)
        all_goals try have q6n : decide (cc ≤ pc) = false := decide_eq_false (by omega)
        all_goals
          go_quiet (fail)
          go_wp2_with fail
          go_meet
          exact ⟨rfl, below_drewN hbel6 _, hR, r0, r1, r2⟩
      case rest =>
        obtain ⟨rfl, hbel7, hR7, s0, s1, s2⟩ := hcut
        clear r0 r1 r2 hR hbel6 d8 dL dLn d0 hw1 hw2 hw3 hw4
        obtain ⟨X, hX⟩ : ∃ X, sub (textO s) ff tt = X := ⟨_, rfl⟩
        have hXl : X.length ≤ 100 := by rw [← hX, sub_len _ _ _ (by rw [textO_len]; have := HLS.out; have := HSs.out; omega)]; omega
        have hDe : decErr (cc : Int) X = 0 := by
          have := HG4.out; rw [hX] at this
          unfold decErr; rw [if_neg (by rw [HG1.out]; decide), if_neg (by omega), this]
        have D := fun w => Decode_any (cc : Int) (bs X) w (by rw [size_bs]; omega)
        unfold DdPost at D
        rw [bl_bs, hDe] at D
        have HD := Lib.hid D
        have hcv : ∀ w1, Below W5.heap.size W5 w1 → (convert 23 9 (.slice (some ⟨B, ff, none⟩) (tt - ff) (C - ff))).run Tryd.prog w1 = .ok (.string (bs X)) w1 := fun w1 hb1 => by
          have := sub_conv (P := Tryd.prog) (ad := ⟨B, 0, none⟩) (l := textO s) Tryd.underlying23 Tryd.underlying5 Tryd.underlying9 ff tt (C - ff) (by rw [textO_len]; have := HLS.out; have := HSs.out; omega) (w := w1) (fun j hj => by rw [Addr.add_lit, Nat.zero_add]; exact HTT.out w1 hb1 j hj)
          rw [Addr.add_lit, Nat.zero_add, hX] at this; exact this
        have HCV := Lib.hid hcv
        have hcap := HCAP.out
        have hcne : ¬ C = ff := by omega
        have hcf : ff ≤ C := by omega
        have hct : tt ≤ C := by omega
        have hft : ff ≤ tt := by omega
        clear D hDe hcv hX
        go_upto_region 15 with fail
        go_cut [16, 17] from 44 to 156 (fun s s' wx => s' = .int .i64 0 ∧ Below W5.heap.size W5 wx ∧ R < wx.heap.size ∧ wx.cell? ⟨R, 0, none⟩ = some (.int .i64 (cc : Int)) ∧ wx.cell? ⟨R, 1, none⟩ = some (.int .i64 (ff : Int)) ∧ wx.cell? ⟨R, 2, none⟩ = some (.int .i64 (tt : Int)))
        case first =>
          go_region_held3 (fun w' => w'.cell? ⟨R, 0, none⟩ = some (.int .i64 (cc : Int)) ∧ w'.cell? ⟨R, 1, none⟩ = some (.int .i64 (ff : Int)) ∧ w'.cell? ⟨R, 2, none⟩ = some (.int .i64 (tt : Int)) ∧ (convert 23 9 (.slice (some ⟨B, ff, none⟩) (tt - ff) (C - ff))).run Tryd.prog w' = .ok (.string (bs X)) w')
            (first | exact ⟨s0, s1, s2, HCV.out _ hbel7.drew⟩ | exact ⟨s0, s1, s2, HCV.out _ hbel7⟩ | exact ⟨(hb8.cell (p := ⟨R, 0, none⟩) hR7).trans s0, (hb8.cell (p := ⟨R, 1, none⟩) hR7).trans s1, (hb8.cell (p := ⟨R, 2, none⟩) hR7).trans s2, HCV.out _ (hbel7.drew.trans (hb8.mono hbel7.size))⟩)
            ((go_at_call 16; refine (HD.out _).mono ?_; rintro e w8 ⟨v8, rfl, hv8, hb8⟩; obtain ⟨A8, n8, c8, rfl⟩ := hv8.form_))
          all_goals
            go_wp2_with fail
            go_meet
            exact ⟨rfl, hbel7.drew.trans (hb8.mono hbel7.size), Nat.lt_of_lt_of_le hR7 hb8.size, (hb8.cell (p := ⟨R, 0, none⟩) hR7).trans s0, (hb8.cell (p := ⟨R, 1, none⟩) hR7).trans s1, (hb8.cell (p := ⟨R, 2, none⟩) hR7).trans s2⟩
        case rest =>
          obtain ⟨rfl, hbel8, hR8, r0, r1, r2⟩ := hcut
          clear s0 s1 s2 hR7 hbel7 HCV HD hcne hcf hct hft hcap hXl
          obtain ⟨W8, hW8⟩ : ∃ W8 : World, W8 = wc := ⟨_, rfl⟩
          rw [← hW8] at hbel8 hR8 r0 r1 r2 ⊢
          clear hW8
          go_wp2_with fail
          go_loopw [18] (fun v wi => ∃ m : Nat, m ≤ k ∧ v = .int .i64 (m : Int) ∧ Below W5.heap.size W5 wi ∧ wi.cell? ⟨R, 0, none⟩ = some (.int .i64 (cc : Int)) ∧ wi.cell? ⟨R, 1, none⟩ = some (.int .i64 (ff : Int)) ∧ wi.cell? ⟨R, 2, none⟩ = some (.int .i64 (tt : Int))) (fun v _ => k - (intOf v).toNat)
          case atStart => exact ⟨0, by omega, rfl, hbel8, r0, r1, r2⟩
          case round =>
            clear r0 r1 r2 hbel8 hR8
            obtain ⟨m, hm, rfl, hbi, r0, r1, r2⟩ := hrel
            by_cases hmk : m < k
            · have hdm : decide ((m : Int) < (k : Int)) = true := decide_eq_true (by omega)
              have hdmn : decide (m < k) = true := decide_eq_true hmk
              have hml : m < o.length := by omega
              obtain ⟨m0, m1, m2⟩ := HCA.out wr hbi m hml
              have hpm := (HPW.out m hmk).2
              obtain ⟨pc, hpc⟩ : ∃ x, o[m].1 = x := ⟨_, rfl⟩
              obtain ⟨pt, hpt⟩ : ∃ x, o[m].2.2 = x := ⟨_, rfl⟩
              rw [hpc] at m0 hpm
              rw [hpt] at m2 hpm
              clear hpc hpt m1
              by_cases he : pc = cc
              · have hq1 : ((pc : Int) == (cc : Int)) = true := by simp [he]
                have hq2 : decide ((ff : Int) < (pt : Int)) = false := decide_eq_false (by have := hpm he; omega)
                have hq3 : decide (ff < pt) = false := decide_eq_false (by have := hpm he; omega)
                clear hpm he
                go_wp2_with fail
                go_quiet (fail)
                go_wp2_with fail
                go_roundw
                case rel => exact ⟨m + 1, by omega, by go_num, below_drewN hbi _, r0, r1, r2⟩
                case measure => simp [intOf]; omega
              · have hq1 : ((pc : Int) == (cc : Int)) = false := by simp; omega
                clear hpm he
                go_wp2_with fail
                go_quiet (fail)
                go_wp2_with fail
                go_roundw
                case rel => exact ⟨m + 1, by omega, by go_num, below_drewN hbi _, r0, r1, r2⟩
                case measure => simp [intOf]; omega
            · obtain rfl : m = k := by omega
              have hdm : decide ((m : Int) < (m : Int)) = false := decide_eq_false (by omega)
              have hdmn : decide (m < m) = false := decide_eq_false (by omega)
              cases fd with
              | true =>
                go_wp2_with fail
                go_roundw
                case rel => exact ⟨m + 1, true, by omega, by go_num, rfl, hbi, found_had HFD⟩
                case measure => simp [intOf]; omega
              | false =>
                go_wp2_with fail
                all_goals
                  go_roundw
                  · first
                      | exact ⟨m + 1, true, by omega, by go_num, rfl, hbi, found_yes hlt HX HTG HSs (by omega) (by omega) (by omega)⟩
                      | exact ⟨m + 1, false, by omega, by go_num, rfl, hbi, found_no hlt HX HTG HSs HFD (by omega)⟩
                  · simp [intOf]; omega
    · obtain rfl : k = o.length := by omega
      have hd : decide ((o.length : Int) < (o.length : Int)) = false := decide_eq_false (by omega)
      have hdn : decide (o.length < o.length) = false := decide_eq_false (by omega)
      have HFE := Lib.hid (show (∀ x ∈ s, visP x.toNat = true) → fd = true from fun h => by
        rw [HFD.out, List.take_length, HTG.out]; exact decide_eq_true (HFO.out h))
      have hbe : Below w.heap.size w wr := hb5'.trans (hbel.mono hb5'.size)
      clear HFD HFO HG HLEN HLT HR5 HTT HTG hb5' hol hbel
      go_wp2_with fail
      obtain ⟨W9, hW9⟩ : ∃ W9 : World, W9 = wr := ⟨_, rfl⟩
      rw [← hW9] at hbe ⊢
      clear hW9
      go_loopw [19] (fun v wi => ∃ j : Nat, j ≤ S.size ∧ v = .int .i64 (j : Int) ∧ wi = W9 ∧ Hid (∀ x ∈ (bl S).take j, visP x.toNat = true)) (fun v _ => S.size - (intOf v).toNat)
      case atStart => exact ⟨0, by omega, rfl, rfl, by intro x hx; simp at hx⟩
      case round =>
        obtain ⟨j, hj, rfl, rfl, HV⟩ := hrel
        by_cases hjs : j < S.size
        · have hd1 : decide ((j : Int) < (S.size : Int)) = true := decide_eq_true (by omega)
          have hd2 : decide (j < S.size) = true := decide_eq_true hjs
          obtain ⟨u, cc, hu, hcu, hc0, hc1, hix⟩ := idx_str Tryd.underlying9 S j hjs .i64 (j : Int) rfl
          by_cases hv : 33 ≤ cc ∧ cc ≤ 126
          · obtain ⟨v1, v2⟩ := hv
            have e1 : (cc == 32) = false := by simp; omega
            have e2 : decide (126 < cc) = false := decide_eq_false (by omega)
            have e3 : decide (cc < 33) = false := decide_eq_false (by omega)
            have HV2 : Hid (∀ x ∈ (bl S).take (j + 1), visP x.toNat = true) := by
              intro x hx
              rw [List.take_succ_eq_append_getElem (by rw [size_list]; exact hjs), List.mem_append, List.mem_singleton] at hx
              rcases hx with hx | hx
              · exact HV.out x hx
              · rw [show x = u by rw [hu.out, hx]; rfl, ← hcu.out]
                unfold visP; simp; omega
            go_wp2_with fail
            go_roundw
            case rel => exact ⟨j + 1, by omega, by go_num, trivial, HV2⟩
            case measure => simp [intOf]; omega
          · by_cases h32 : cc = 32
            · have e1 : (cc == 32) = true := by simp [h32]
              clear h32 hv
              go_wp2_with fail
              go_ret
              exact ⟨rfl, hbe⟩
            · have e1 : (cc == 32) = false := by simpa using h32
              by_cases h126 : 126 < cc
              · have e2 : decide (126 < cc) = true := decide_eq_true h126
                clear hv h32
                go_wp2_with fail
                go_ret
                exact ⟨rfl, hbe⟩
              · have e2 : decide (126 < cc) = false := decide_eq_false h126
                have e3 : decide (cc < 33) = true := decide_eq_true (by omega)
                clear hv h32
                go_wp2_with fail
                go_ret
                exact ⟨rfl, hbe⟩
        · obtain rfl : j = S.size := by omega
          have hd1 : decide ((S.size : Int) < (S.size : Int)) = false := decide_eq_false (by omega)
          have hd2 : decide (S.size < S.size) = false := decide_eq_false (by omega)
          have hfd : fd = true := HFE.out (by
            have := HV.out
            rw [List.take_of_length_le (by rw [size_list]; exact Nat.le_refl _), HHS.out] at this
            exact this)
          subst hfd
          go_wp2_with fail
          go_ret
          exact ⟨rfl, hbe⟩
end Go.Proofs.YtpfldcfnbgdceaaDoor
