/- The walk of the closure that adds a run; bytes.Equal and bytes.HasPrefix by what the conversions give. -/
import Derived.Test.YtpfldcfnbgdceaaDoorRunA
import Derived.Test.YtpfldcfnbgdceaaDoorCodO
import Derived.Test.YtpfldcfnbgdceaaDoorCodJ
import Derived.Lib.SlBytesConst
namespace Go.Proofs.YtpfldcfnbgdceaaDoor
set_option linter.unusedVariables false
set_option linter.unusedSimpArgs false
set_option maxRecDepth 100000
open Go.RowKit
theorem toList_bs (l : List UInt8) : (bs l).toList = l := by rw [toList_bl, bl_bs]
theorem equal_any (v u : Value) (x y : List UInt8) (w : World) (hx : (convert 23 9 v).run Tryd.prog w = .ok (.string (bs x)) w) (hy : (convert 23 9 u).run Tryd.prog w = .ok (.string (bs y)) w) :
    Calls Tryd.prog 35 #[v, u] w fun e w' => e = .returned (.bool (x == y)) ∧ w = w' := by
  go_enter Tryd.func35, Tryd.ntmps35
  go_wp2
  go_ret
  exact ⟨ret_bool (by rw [toList_bs, toList_bs]), rfl⟩
def encR (r : Rn) : List Value := [.int .i64 (r.1 : Int), .int .i64 (r.2.1 : Int), .int .i64 (r.2.2 : Int)]
def cellsR (o : List Rn) : List Value := (o.map encR).flatten
theorem cellsR_len (o : List Rn) : (cellsR o).length = o.length * 3 := by
  induction o with
  | nil => rfl
  | cons a r ih => simp only [cellsR, List.map_cons, List.flatten_cons, List.length_append] at ih ⊢; rw [ih]; simp [encR]; omega
theorem cellsR_one (o : List Rn) : ∀ u ∈ cellsR o, u.oneCell' = true := by
  intro u hu
  simp only [cellsR, List.mem_flatten, List.mem_map] at hu
  obtain ⟨_, ⟨r, -, rfl⟩, hu⟩ := hu
  simp [encR] at hu
  rcases hu with rfl | rfl | rfl <;> rfl
theorem info_run : (Tryd.prog.info? 48).map (fun i => (i.zero, i.size, i.bytes)) = some (some (.agg #[.int .i64 0, .int .i64 0, .int .i64 0]), 3, 24) := by kernel_rfl
/-- The text as it lies: nil or empty, or at an address with its cells. -/
def BA (A : Option Addr) (l : List UInt8) (cc : Nat) (w : World) : Prop := l.length ≤ cc ∧ (l.length = 0 ∨ ∃ ad, A = some ad ∧ ad.block < w.heap.size ∧ ∀ j (h : j < l.length), w.cell? (ad.add j) = some (.int .u8 l[j].toNat))
/-- What stands between two calls of the closure: the boxes, and the row of runs. -/
def RS (w : World) (A : Option Addr) (l : List UInt8) (cc B1 B3 B4 : Nat) (o : List Rn) (W : World) : Prop :=
  Below w.heap.size w W ∧ w.heap.size ≤ B1 ∧ B1 < B3 ∧ B3 < B4 ∧ B4 < W.heap.size ∧ o.length ≤ 1000000 ∧
  W.cell? ⟨B1, 0, none⟩ = some (.slice A l.length cc) ∧
  W.cell? ⟨B4, 0, none⟩ = some (.func (.func 34) #[] #[.pointer (some ⟨B1, 0, none⟩), .pointer (some ⟨B3, 0, none⟩)]) ∧
  ∃ v, W.heap[B3]? = some (.cells #[v] 44 (0, 0)) ∧ W.ownsRow (B4 + 1) 48 3 v o.length (cellsR o)
theorem RS.later {w : World} {A : Option Addr} {l : List UInt8} {cc B1 B3 B4 : Nat} {o : List Rn} {W W1 : World} (h : RS w A l cc B1 B3 B4 o W) (hb : Below W.heap.size W W1) : RS w A l cc B1 B3 B4 o W1 := by
  obtain ⟨h1, h2, h3, h4, h5, h6, h7, h8, v, h9, h10⟩ := h
  refine ⟨h1.trans (hb.mono h1.size), h2, h3, h4, Nat.lt_of_lt_of_le h5 hb.size, h6, (hb.cell (p := ⟨B1, 0, none⟩) (by show B1 < _; omega)).trans h7, (hb.cell (p := ⟨B4, 0, none⟩) h5).trans h8, v, (hb.block B3 (by omega)).trans h9, ?_⟩
  refine ⟨h10.1, ?_⟩
  rcases h10.2 with h | ⟨g, cap, cur, rfl, hB, hg, rest⟩
  · exact .inl h
  · exact .inr ⟨g, cap, cur, rfl, hB, (hb.block g (Array.getElem?_eq_some_iff.1 hg).1).trans hg, rest⟩
theorem sub_len (l : List UInt8) (f t : Nat) (h : t ≤ l.length) : (sub l f t).length = t - f := by simp [sub]; omega
/-- 'string(b[f:t])'. -/
theorem sub_conv {P : Program} {T e d : TypeId} (hs : P.underlying T = some (.slice e)) (he : P.underlying e = some (.int .u8)) (hd : P.underlying d = some .string) {ad : Addr} {l : List UInt8} {w : World} (f t c : Nat) (ht : t ≤ l.length)
    (h : ∀ j (h : j < l.length), w.cell? (ad.add j) = some (.int .u8 l[j].toNat)) : (convert T d (.slice (some (ad.add f)) (t - f) c)).run P w = .ok (.string (bs (sub l f t))) w := by
  rw [← sub_len l f t ht]
  refine run_convert_bytes_back w T d e (ad.add f) c (sub l f t) hs he hd (fun j hj => ?_)
  have hj' : f + j < l.length := by rw [sub_len l f t ht] at hj; omega
  rw [Addr.add_add, h (f + j) hj']
  have hj2 : j < t - f := by rwa [sub_len l f t ht] at hj
  simp [sub, List.getElem?_take, hj2, List.getElem?_drop, hj']
theorem cellsR_snoc (o : List Rn) (r : Rn) : cellsR (o ++ [r]) = cellsR o ++ encR r := by simp [cellsR]
theorem app_run {P : Program} {T e : TypeId} {i0 : TypeInfo} (ht : P.underlying T = some (.slice e)) (hi : P.info? e = some i0) (hz0 : i0.zero = some (.agg #[.int .i64 0, .int .i64 0, .int .i64 0])) (hz1 : i0.size = 3) (hz2 : i0.bytes = 24)
    {w : World} {ops : Array Oper} {rest : List Oper} {op : Oper} {a : Act} {Q : Exit → Act → World → Prop} (s x : Operand) (v : Value) (c : Nat) (o : List Rn) (r : Rn) (cs : Array Value) (B : Nat)
    (hgd : op.guard = none) (ho : op.op = .call { callee := .builtin .append, args := #[s, x], argTypes := #[T, T] })
    (hs : a.eval s = v) (hx : a.eval x = .slice (some ⟨w.heap.size, 0, none⟩) 1 c) (hcs : cs = (encR r).toArray) (hown : w.ownsRow B e 3 v o.length (cellsR o)) (hl : o.length ≤ 1000000) (hB : B ≤ w.heap.size)
    (h : ∀ g cap w1, w1.ownsRow B e 3 (.slice (some ⟨g, 0, none⟩) (o.length + 1) cap) (o ++ [r]).length (cellsR (o ++ [r])) → Below B w w1 → wpList P ops Q rest (a.put op.dst (.slice (some ⟨g, 0, none⟩) (o.length + 1) cap)) w1) :
    wpList P ops Q (op :: rest) a (w.alloc (.cells cs e)) := by
  subst hcs
  refine wpList_append_own _ hgd s x T ho B e i0 _ 3 24 ht hi hz0 hz1 hz2 rfl (by decide) v o.length _ hs (World.ownsRow.alloc hown _) ⟨w.heap.size, 0, none⟩ 1 c (encR r) hx (by simp [encR]) ?_ ?_ (by unfold maxLen; omega) (by omega) (by simp; omega) ?_
  · intro j u hj
    rw [Addr.add_lit, Nat.zero_add, World.cell?_alloc_mark]
    simpa using hj
  · intro u hu
    simp [encR] at hu
    rcases hu with rfl | rfl | rfl <;> rfl
  · intro v' w1 hown1 hg _
    obtain ⟨g, cap, rfl⟩ : ∃ g cap, v' = .slice (some ⟨g, 0, none⟩) (o.length + 1) cap := by
      rcases hown1.2 with ⟨_, h0⟩ | ⟨g, cap, cur, hv, _⟩
      · omega
      · exact ⟨g, cap, hv⟩
    exact h g cap w1 (by rw [cellsR_snoc, List.length_append]; exact hown1) (((Below.refl B w).alloc hB (.cells (encR r).toArray e)).grown hg (by simp; omega) (fun k hk => (own_cells hown k hk).1))
theorem RS.put {w : World} {A : Option Addr} {l : List UInt8} {cc B1 B3 B4 : Nat} {o : List Rn} {r : Rn} {W1 w2 : World} {v2 : Value} (h : RS w A l cc B1 B3 B4 o W1) (ho : o.length ≤ 999999) (hb : Below (B4 + 1) W1 w2) (hown : w2.ownsRow (B4 + 1) 48 3 v2 (o ++ [r]).length (cellsR (o ++ [r]))) :
    RS w A l cc B1 B3 B4 (o ++ [r]) (w2.setCell ⟨B3, 0, none⟩ v2) := by
  obtain ⟨h1, h2, h3, h4, h5, h6, h7, h8, v, h9, h10⟩ := h
  have h9' := (hb.block B3 (by omega)).trans h9
  have hne : ∀ i, i ≠ B3 → (w2.setCell ⟨B3, 0, none⟩ v2).heap[i]? = w2.heap[i]? := fun i hi => Below.heap_setCell _ _ _ _ hi
  refine ⟨(h1.trans (hb.mono (by omega))).setCell (p := ⟨B3, 0, none⟩) (by show w.heap.size ≤ B3; omega) _, h2, h3, h4, by have := hb.size; simp [World.setCell]; omega, by simp; omega, ?_, ?_, v2, ?_, ?_⟩
  · exact (World.cell?_of_block (hne B1 (by omega))).trans ((hb.cell (p := ⟨B1, 0, none⟩) (by show B1 < _; omega)).trans h7)
  · exact (World.cell?_of_block (hne B4 (by omega))).trans ((hb.cell (p := ⟨B4, 0, none⟩) (by show B4 < _; omega)).trans h8)
  · simp [World.setCell, Array.getElem?_modify, h9']
  · refine World.ownsRow.kept (row := some B3) hown ⟨rfl, rfl, rfl, by simp [World.setCell], fun k _ hk => hne k (fun e => hk (by simp [e]))⟩ ?_
    cases hv : v2.ownBlock with
    | none => exact .inl rfl
    | some i => exact .inr (by intro e; injection e with e; have := (own_cells hown i hv).1; omega)
theorem addR_short {l : List UInt8} {c f t : Nat} (h : t < f + 8) : addR l c f t = [] := by unfold addR; rw [if_pos h]
theorem addR_no {l : List UInt8} {c f t : Nat} (h : ¬ t < f + 8) (hk : keepR c (sub l f t) = false) : addR l c f t = [] := by unfold addR; rw [if_neg h, if_neg (by rw [hk]; decide)]
theorem addR_yes {l : List UInt8} {c f t : Nat} (h : ¬ t < f + 8) (hk : keepR c (sub l f t) = true) : addR l c f t = [(c, f, t)] := by unfold addR; rw [if_neg h, if_pos hk]
set_option maxRecDepth 100000 in
set_option maxHeartbeats 4000000 in
theorem add_any (w : World) (A : Option Addr) (l : List UInt8) (cc B1 B3 B4 : Nat) (hA : BA A l cc w) (hl : l.length ≤ 65536) (c f t : Nat) (hc : vldC c = true) (hft : f ≤ t) (htl : t ≤ l.length) (o : List Rn) (ho : o.length ≤ 900000) (W : World) (h : RS w A l cc B1 B3 B4 o W) :
    Calls Tryd.prog 34 #[.int .i64 (c : Int), .int .i64 (f : Int), .int .i64 (t : Int), .pointer (some ⟨B1, 0, none⟩), .pointer (some ⟨B3, 0, none⟩)] W fun e w' => e = .returned (.tuple #[]) ∧ RS w A l cc B1 B3 B4 (o ++ addR l c f t) w' := by
  have hc4 : c = 1 ∨ c = 2 ∨ c = 3 ∨ c = 4 := by unfold vldC at hc; simp at hc; omega
  by_cases hsh : t < f + 8
  · have hd : decide ((t : Int) - f < 8) = true := decide_eq_true (by omega)
    have HS := Lib.hid (show RS w A l cc B1 B3 B4 (o ++ addR l c f t) W by rw [addR_short hsh, List.append_nil]; exact h)
    clear h
    go_enter Tryd.func34, Tryd.ntmps34
    go_wp2
    refine bodyPost_ret (results_none rfl _ _ _) rfl ?_
    exact ⟨rfl, HS.out⟩
  · have hd : decide ((t : Int) - f < 8) = false := decide_eq_false (by omega)
    obtain ⟨hlc, hA⟩ := hA
    obtain ⟨ad, rfl, had, hcs⟩ := hA.resolve_left (by omega)
    have hh := h
    obtain ⟨h1, h2, h3, h4, h5, h6, h7, h8, v, h9, h10⟩ := hh
    have hcW : ∀ W', Below w.heap.size w W' → ∀ j (h : j < l.length), W'.cell? (ad.add j) = some (.int .u8 l[j].toNat) := fun W' hb j hj => (World.cell?_of_block (by rw [Reads_block]; exact hb.block _ had)).trans (hcs j hj)
    have hcv := fun W' hb => sub_conv (P := Tryd.prog) Tryd.underlying23 Tryd.underlying5 Tryd.underlying9 f t (cc - f) htl (hcW W' hb)
    have HCV := Lib.hid hcv
    have hcv0 := hcv W h1
    have hsl := sub_len l f t htl
    have D := fun w => Decode_any c (bs (sub l f t)) w (by rw [size_bs, hsl]; omega)
    have hlim : ¬ 262144 < (sub l f t).length := by omega
    unfold DdPost at D
    rw [bl_bs] at D
    clear hcv hcW hsl hcs
    have hcne : ¬ cc = f := by omega
    cases hx : decd c (sub l f t) with
    | none =>
      have hE : decErr c (sub l f t) = 5 := by unfold decErr; rw [if_neg (by rw [hc]; decide), if_neg hlim, hx]
      have hk : keepR c (sub l f t) = false := by unfold keepR; rw [hx]
      rw [hE] at D
      have HS := Lib.hid (show ∀ W1, Below W.heap.size W W1 → RS w (some ad) l cc B1 B3 B4 (o ++ addR l c f t) W1 from fun W1 hb => by rw [addR_no hsh hk, List.append_nil]; exact h.later hb)
      have HD := Lib.hid D
      clear hE hk hx h D h9 h10 h8
      go_enter Tryd.func34, Tryd.ntmps34
      go_wp2_with fail
      refine (HD.out _).mono ?_
      rintro e W1 ⟨v1, rfl, hv1, hb1⟩
      go_wp2
      go_end0
      exact ⟨rfl, HS.out _ hb1⟩
    | some y =>
      have hE : decErr c (sub l f t) = 0 := by unfold decErr; rw [if_neg (by rw [hc]; decide), if_neg hlim, hx]
      have hO : decOut c (sub l f t) = y := by unfold decOut; rw [if_neg (by rw [hc]; decide), if_neg hlim, hx]; rfl
      rw [hE, hO] at D
      have HD := Lib.hid D
      have HX := Lib.hid hx
      clear hE hO D hx
      obtain ⟨i0, hi, hz0, hz1, hz2⟩ := info_parts info_run
      rcases hc4 with rfl | rfl | hc4
      · have hk : keepR 1 (sub l f t) = true := by unfold keepR; rw [HX.out]; rfl
        have HK := Lib.hid hk; clear hk
        have HH := Lib.hid h; clear h h8
        go_enter Tryd.func34, Tryd.ntmps34
        go_wp2_with fail
        refine (HD.out _).mono ?_
        rintro e W1 ⟨v1, rfl, hv1, hb1⟩
        obtain ⟨A1, n1, c1, rfl⟩ := hv1.form_
        have hR1 := HH.out.later hb1
        obtain ⟨g1, g2, g3, g4, g5, g6, g7, g8, v', g9, g10⟩ := hR1
        have hcell3 : W1.cell? ⟨B3, 0, none⟩ = some v' := by rw [cell_of_row W1 B3 0 _ _ _ g9]; rfl
        have hfr3 : W1.frozen? ⟨B3, 0, none⟩ = false := by simp [World.frozen?, g9]
        have HG := Lib.hid g9
        clear g7 g8 g9 h9 h10
        go_wp2_with (at_builtin; refine app_run Tryd.underlying44 hi hz0 hz1 hz2 _ _ _ _ o (1, f, t) _ (B4 + 1) rfl rfl rfl rfl rfl g10 (by omega) g5 ?_; intro g2 p2 w2 hown2 hb2; have hb3 := (hb2.block B3 (by omega)).trans HG.out; have d0 : w2.cell? ⟨B3, 0, none⟩ = some v' := (by rw [cell_of_row w2 B3 0 _ _ _ hb3]; rfl); have f0 : w2.frozen? ⟨B3, 0, none⟩ = false := (by simp [World.frozen?, hb3]); clear hb3)
        go_end0
        exact ⟨rfl, by rw [addR_yes hsh HK.out]; exact RS.put (HH.out.later hb1) (by omega) hb2 hown2⟩
      · have hk : keepR 2 (sub l f t) = true := by unfold keepR; rw [HX.out]; rfl
        have HK := Lib.hid hk; clear hk
        have HH := Lib.hid h; clear h h8
        go_enter Tryd.func34, Tryd.ntmps34
        go_wp2_with fail
        refine (HD.out _).mono ?_
        rintro e W1 ⟨v1, rfl, hv1, hb1⟩
        obtain ⟨A1, n1, c1, rfl⟩ := hv1.form_
        have hR1 := HH.out.later hb1
        obtain ⟨g1, g2, g3, g4, g5, g6, g7, g8, v', g9, g10⟩ := hR1
        have hcell3 : W1.cell? ⟨B3, 0, none⟩ = some v' := by rw [cell_of_row W1 B3 0 _ _ _ g9]; rfl
        have hfr3 : W1.frozen? ⟨B3, 0, none⟩ = false := by simp [World.frozen?, g9]
        have HG := Lib.hid g9
        clear g7 g8 g9 h9 h10
        go_wp2_with (at_builtin; refine app_run Tryd.underlying44 hi hz0 hz1 hz2 _ _ _ _ o (2, f, t) _ (B4 + 1) rfl rfl rfl rfl rfl g10 (by omega) g5 ?_; intro g2 p2 w2 hown2 hb2; have hb3 := (hb2.block B3 (by omega)).trans HG.out; have d0 : w2.cell? ⟨B3, 0, none⟩ = some v' := (by rw [cell_of_row w2 B3 0 _ _ _ hb3]; rfl); have f0 : w2.frozen? ⟨B3, 0, none⟩ = false := (by simp [World.frozen?, hb3]); clear hb3)
        go_end0
        exact ⟨rfl, by rw [addR_yes hsh HK.out]; exact RS.put (HH.out.later hb1) (by omega) hb2 hown2⟩
      · have hc1 : ¬ (c : Int) = 1 := by omega
        have hc2 : ¬ (c : Int) = 2 := by omega
        have hc1b : ((c : Int) == 1) = false := beq_eq_false_iff_ne.2 hc1
        have hc2b : ((c : Int) == 2) = false := beq_eq_false_iff_ne.2 hc2
        cases hyx : (y == sub l f t) with
        | true =>
          have hk : keepR c (sub l f t) = false := by unfold keepR; rw [HX.out]; rcases hc4 with rfl | rfl <;> simp [hyx]
          have HS := Lib.hid (show ∀ W1, Below W.heap.size W W1 → RS w (some ad) l cc B1 B3 B4 (o ++ addR l c f t) W1 from fun W1 hb => by rw [addR_no hsh hk, List.append_nil]; exact h.later hb)
          clear hk h h9 h10 h8
          go_enter Tryd.func34, Tryd.ntmps34
          go_wp2_with fail
          refine (HD.out _).mono ?_
          rintro e W1 ⟨v1, rfl, hv1, hb1⟩
          obtain ⟨A1, n1, c1, rfl⟩ := hv1.form_
          have hcv1 := hv1.conv (P := Tryd.prog) (T := 23) (d := 9) Tryd.underlying23 Tryd.underlying5 Tryd.underlying9
          have hcv2 := HCV.out W1 (h1.trans (hb1.mono h1.size))
          have EQ := equal_any _ _ _ _ W1 hcv1 hcv2
          rw [hyx] at EQ
          go_wp2_with (go_at_call 35; refine EQ.mono ?_; rintro e w1 ⟨rfl, rfl⟩)
          go_end0
          exact ⟨rfl, HS.out _ hb1⟩
        | false =>
          have hk : keepR c (sub l f t) = true := by unfold keepR; rw [HX.out]; rcases hc4 with rfl | rfl <;> simp [hyx]
          have HK := Lib.hid hk; clear hk
          have HH := Lib.hid h; clear h h8
          go_enter Tryd.func34, Tryd.ntmps34
          go_wp2_with fail
          refine (HD.out _).mono ?_
          rintro e W1 ⟨v1, rfl, hv1, hb1⟩
          obtain ⟨A1, n1, c1, rfl⟩ := hv1.form_
          have hR1 := HH.out.later hb1
          obtain ⟨g1, g2, g3, g4, g5, g6, g7, g8, v', g9, g10⟩ := hR1
          have hcell3 : W1.cell? ⟨B3, 0, none⟩ = some v' := by rw [cell_of_row W1 B3 0 _ _ _ g9]; rfl
          have hfr3 : W1.frozen? ⟨B3, 0, none⟩ = false := by simp [World.frozen?, g9]
          have HG := Lib.hid g9
          clear g7 g8 g9 h9 h10
          have hcv1 := hv1.conv (P := Tryd.prog) (T := 23) (d := 9) Tryd.underlying23 Tryd.underlying5 Tryd.underlying9
          have hcv2 := HCV.out W1 (h1.trans (hb1.mono h1.size))
          have EQ := equal_any _ _ _ _ W1 hcv1 hcv2
          rw [hyx] at EQ
          go_wp2_with (first | (go_at_call 35; refine EQ.mono ?_; rintro e w1 ⟨rfl, rfl⟩) | (at_builtin; refine app_run Tryd.underlying44 hi hz0 hz1 hz2 _ _ _ _ o (c, f, t) _ (B4 + 1) rfl rfl rfl rfl rfl g10 (by omega) g5 ?_; intro g2 p2 w2 hown2 hb2; have hb3 := (hb2.block B3 (by omega)).trans HG.out; have d0 : w2.cell? ⟨B3, 0, none⟩ = some v' := (by rw [cell_of_row w2 B3 0 _ _ _ hb3]; rfl); have f0 : w2.frozen? ⟨B3, 0, none⟩ = false := (by simp [World.frozen?, hb3]); clear hb3))
          go_end0
          exact ⟨rfl, by rw [addR_yes hsh HK.out]; exact RS.put (HH.out.later hb1) (by omega) hb2 hown2⟩
end Go.Proofs.YtpfldcfnbgdceaaDoor
