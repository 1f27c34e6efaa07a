/- What a machine that came in is: a machine in memory, of any numbers. -/
import Derived.Deep.Slices
import Derived.Test.YtoaibhacognbjaaGreatDoorY33
import Derived.Test.YtoaibhacognbjaaGreatDoorY30
import Derived.ProofKit
namespace Go.Proofs.YtoaibhacognbjaaGreatDoor
set_option linter.unusedVariables false
set_option linter.unusedSimpArgs false
set_option maxRecDepth 100000
open Go.RowKit Go.Deep
theorem mem_weightsAllZ {H : Type} {P : Program} {e : TypeId} {d : DataW H} : ∀ {l : List (DataW H)}, d ∈ l → ∀ x ∈ d.weights P e, x ∈ DataW.weightsAll P e l
  | y :: r, h, x, hx => by
    rw [DataW.weightsAll]
    rcases List.mem_cons.1 h with rfl | h
    · exact List.mem_append_left _ hx
    · exact List.mem_append_right _ (mem_weightsAllZ h x hx)
theorem take_oneZ {cs : List Value} {j : Nat} {v : Value} (h : (cs.drop j).take 1 = [v]) : cs[j]? = some v := by
  have : ((cs.drop j).take 1)[0]? = some v := by rw [h]; rfl
  rw [List.getElem?_take_of_lt (by omega), List.getElem?_drop, Nat.add_zero] at this
  exact this
theorem take_twoZ {cs : List Value} {k j : Nat} {v : Value} (hj : j < 2) (h : ((((cs.drop k).take 2).drop j).take 1) = [v]) : cs[k + j]? = some v := by
  have := take_oneZ h
  rw [List.getElem?_take_of_lt hj, List.getElem?_drop] at this
  exact this
theorem wfZ_u8 {n : Int} (h : (Lit.int .u8 n).wf = true) : 0 ≤ n ∧ n < 256 := by
  have h1 : IntKind.u8.min = 0 := by decide
  have h2 : IntKind.u8.max = 255 := by decide
  simp [Lit.wf] at h
  omega
theorem wfZ_i64 {n : Int} (h : (Lit.int .i64 n).wf = true) : -9223372036854775808 ≤ n ∧ n < 9223372036854775808 := by
  have h1 : IntKind.i64.min = -9223372036854775808 := by decide
  have h2 : IntKind.i64.max = 9223372036854775807 := by decide
  simp [Lit.wf] at h
  omega
theorem spot_none {w : World} {g f : Nat} {spot : Option Nat} {j : Nat} {v : Value} (h : w.cell? ((⟨g, f, spot⟩ : Addr).add j) = some v) (hj : j = 0) : spot = none := by
  subst hj
  cases spot with
  | none => rfl
  | some s =>
    exfalso
    unfold World.cell? Addr.add at h
    simp at h
    split at h <;> simp at h
instance edzInh : Inhabited EdZ := ⟨⟨0, 0, 0⟩⟩
section
variable {H : Type} {enc : TypeId × Value → H} {w : World} {base : Nat} {spare : Nat → Bool} {held : Bool} {fuel : Nat}
/-- Weights of a slice: its own, and those of what it holds. -/
theorem wt_len {t e : TypeId} {l r : List (DataW H)} (ht : Tryz.prog.underlying t = some (.slice e)) (hz : (DataW.weights Tryz.prog t (.slice l r)).all (· ≤ reachBytes) = true) : (l.length + r.length) * Tryz.prog.bytesOf e ≤ reachBytes ∧ ∀ d ∈ l, (DataW.weights Tryz.prog e d).all (· ≤ reachBytes) = true := by
  unfold DataW.weights at hz
  rw [ht] at hz
  have hall := List.all_eq_true.1 hz
  refine ⟨of_decide_eq_true (hall _ List.mem_cons_self), fun d hd => List.all_eq_true.2 fun q hq => hall q (List.mem_cons_of_mem _ (List.mem_append_left _ (mem_weightsAllZ hd q hq)))⟩
theorem edgesZ {cs : List Value} {x : DataW H × List MemPlace} (h : DataW.trod enc Tryz.prog w base spare held fuel 167 cs = some x) (hz : (DataW.weights Tryz.prog 167 x.1).all (· ≤ reachBytes) = true) :
    ∃ v l, cs = [v] ∧ EdInZ w v l ∧ l.length ≤ 140737488351232 := by
  rcases open_slice Tryz.underlying167 h with ⟨rfl, -⟩ | ⟨a, len, cap, m, n, D, Pl, rfl, hb, hl, hm, hmm, rfl, hi⟩
  · exact ⟨_, [], rfl, ⟨none, 0, rfl, ⟨Nat.le_refl _, by decide⟩, .inl rfl⟩, by simp⟩
  · have hlm : len ≤ m := by rw [hmm]; split <;> omega
    have h3 : Tryz.prog.cellsOf 169 = 3 := by kernel_rfl
    have c1 : Tryz.prog.cellsOf 3 = 1 := by kernel_rfl
    have c2 : Tryz.prog.cellsOf 98 = 2 := by kernel_rfl
    have c3 : Tryz.prog.cellsOf 5 = 1 := by kernel_rfl
    obtain ⟨M, hM⟩ := choose_lt (α := EdZ) (n := len) (p := fun i e => (w.cell? (a.add (i * 3)) = some (.int .u8 (e.lo : Int)) ∧ w.cell? (a.add (i * 3 + 1)) = some (.int .u8 (e.hi : Int)) ∧ w.cell? (a.add (i * 3 + 2)) = some (.int .i64 e.to)) ∧ e.lo < 256 ∧ e.hi < 256 ∧ -9223372036854775808 ≤ e.to ∧ e.to < 9223372036854775808) (fun i him => by
      obtain ⟨cs', h1, h2⟩ := hi i (by omega)
      rw [h3] at h1
      obtain ⟨-, hlen, hcell⟩ := World.cells?_some h1
      obtain ⟨ys, n', -, hy, -, hyl, hf⟩ := DataW.trod_struct Tryz.underlying169 h2
      have f0 : DataW.trod enc Tryz.prog w base spare held n' 98 ((cs'.drop 0).take (Tryz.prog.cellsOf 98)) = ys[0]? := hf 0 _ rfl
      have f1 : DataW.trod enc Tryz.prog w base spare held n' 3 ((cs'.drop 2).take (Tryz.prog.cellsOf 3)) = ys[1]? := hf 1 _ rfl
      rw [c1] at f1
      rw [c2] at f0
      match ys, hyl with
      | [y0, y1], _ =>
        obtain ⟨zs, n2, -, hy2, -, hzl, hf2⟩ := DataW.trod_struct Tryz.underlying98 (f0.trans rfl)
        have g0 : DataW.trod enc Tryz.prog w base spare held n2 5 ((((cs'.drop 0).take 2).drop 0).take (Tryz.prog.cellsOf 5)) = zs[0]? := hf2 0 _ rfl
        have g1 : DataW.trod enc Tryz.prog w base spare held n2 5 ((((cs'.drop 0).take 2).drop 1).take (Tryz.prog.cellsOf 5)) = zs[1]? := hf2 1 _ rfl
        rw [c3] at g0 g1
        match zs, hzl with
        | [z0, z1], _ =>
          obtain ⟨k0, e0, -, w0⟩ := DataW.trod_int Tryz.underlying5 (g0.trans rfl)
          obtain ⟨k1, e1, -, w1⟩ := DataW.trod_int Tryz.underlying5 (g1.trans rfl)
          obtain ⟨k2, e2, -, w2⟩ := DataW.trod_int Tryz.underlying3 (f1.trans rfl)
          have b0 := wfZ_u8 w0
          have b1 := wfZ_u8 w1
          have b2 := wfZ_i64 w2
          refine ⟨⟨k0.toNat, k1.toNat, k2⟩, ⟨?_, ?_, ?_⟩, by show k0.toNat < 256; omega, by show k1.toNat < 256; omega, b2.1, b2.2⟩
          · have := hcell 0 (by omega)
            rw [add_add, Nat.add_zero] at this
            rw [this, take_twoZ (j := 0) (by decide) e0]
            show some (Value.int .u8 k0) = some (.int .u8 ((k0.toNat : Nat) : Int))
            rw [Int.toNat_of_nonneg b0.1]
          · have := hcell 1 (by omega)
            rw [add_add] at this
            rw [this, take_twoZ (j := 1) (by decide) e1]
            show some (Value.int .u8 k1) = some (.int .u8 ((k1.toNat : Nat) : Int))
            rw [Int.toNat_of_nonneg b1.1]
          · have := hcell 2 (by omega)
            rw [add_add] at this
            rw [this, take_oneZ e2])
    have hby : Tryz.prog.bytesOf 169 = 16 := by kernel_rfl
    have hlb := (wt_len Tryz.underlying167 hz).1
    rw [hby] at hlb
    simp only [List.length_map, List.length_range] at hlb
    unfold reachBytes at hlb
    refine ⟨_, (List.range len).map M, rfl, ⟨some a, cap, by simp, ⟨by simpa using hl, by unfold maxLen at hm; omega⟩, ?_⟩, by simp; omega⟩
    by_cases h0 : len = 0
    · left; rw [h0]; rfl
    · right
      have h00 := (hM 0 (by omega)).1.1
      obtain ⟨g, f, spot⟩ := a
      obtain rfl := spot_none h00 (by simp)
      refine ⟨g, f, rfl, World.block_lt_of_cell? w _ h00, fun i hil => ?_⟩
      have hil' : i < len := by simpa using hil
      have hg : ((List.range len).map M)[i] = M i := by simp
      rw [hg]
      obtain ⟨⟨q0, q1, q2⟩, q3⟩ := hM i hil'
      rw [Addr.add_lit] at q0 q1 q2
      exact ⟨⟨q0, by rw [Nat.add_assoc]; exact q1, by rw [Nat.add_assoc]; exact q2⟩, q3⟩
theorem rowsZ {cs : List Value} {x : DataW H × List MemPlace} (h : DataW.trod enc Tryz.prog w base spare held fuel 73 cs = some x) (hz : (DataW.weights Tryz.prog 73 x.1).all (· ≤ reachBytes) = true) :
    ∃ v l, cs = [v] ∧ EsInZ w v l ∧ ∀ r ∈ l, r.length ≤ 140737488351232 := by
  rcases open_slice1 Tryz.underlying73 (by kernel_rfl) h with ⟨rfl, -⟩ | ⟨a, len, cap, m, n, V, D, Pl, rfl, hb, hl, hm, hmm, rfl, hi⟩
  · exact ⟨_, [], rfl, ⟨none, 0, rfl, ⟨Nat.le_refl _, by decide⟩, .inl rfl⟩, by simp⟩
  · have hlm : len ≤ m := by rw [hmm]; split <;> omega
    have hwt := (wt_len Tryz.underlying73 hz).2
    obtain ⟨M, hM⟩ := choose_lt (α := List EdZ) (n := len) (p := fun i r => w.cell? (a.add i) = some (V i) ∧ EdInZ w (V i) r ∧ r.length ≤ 140737488351232) (fun i him => by
      obtain ⟨h1, h2⟩ := hi i (by omega)
      obtain ⟨v, l, e, h3, h4⟩ := edgesZ h2 (hwt (D i) (List.mem_map.2 ⟨i, by simpa using him, rfl⟩))
      injection e with e
      subst e
      exact ⟨l, h1, h3, h4⟩)
    refine ⟨_, (List.range len).map M, rfl, ⟨some a, cap, by simp, ⟨by simpa using hl, by unfold maxLen at hm; omega⟩, ?_⟩, fun r hr => ?_⟩
    · by_cases h0 : len = 0
      · left; rw [h0]; rfl
      · right
        have h00 := (hM 0 (by omega)).1
        obtain ⟨g, f, spot⟩ := a
        obtain rfl := spot_none h00 (by simp)
        refine ⟨g, f, rfl, World.block_lt_of_cell? w _ h00, fun i hil => ?_⟩
        have hil' : i < len := by simpa using hil
        have hg : ((List.range len).map M)[i] = M i := by simp
        rw [hg]
        obtain ⟨q0, q1, -⟩ := hM i hil'
        rw [Addr.add_lit] at q0
        exact ⟨_, q0, q1⟩
    · obtain ⟨i, hi', rfl⟩ := List.mem_map.1 hr
      exact (hM i (by simpa using hi')).2.2
theorem boolsZ {cs : List Value} {x : DataW H × List MemPlace} (h : DataW.trod enc Tryz.prog w base spare held fuel 74 cs = some x) : ∃ v l, cs = [v] ∧ BlIn w v l := by
  rcases open_slice1 Tryz.underlying74 (by kernel_rfl) h with ⟨rfl, -⟩ | ⟨a, len, cap, m, n, V, D, Pl, rfl, hb, hl, hm, hmm, rfl, hi⟩
  · exact ⟨_, [], rfl, ⟨none, 0, rfl, ⟨Nat.le_refl _, by decide⟩, .inl rfl⟩⟩
  · have hlm : len ≤ m := by rw [hmm]; split <;> omega
    obtain ⟨M, hM⟩ := choose_lt (α := Bool) (n := len) (p := fun i r => w.cell? (a.add i) = some (.bool r)) (fun i him => by
      obtain ⟨h1, h2⟩ := hi i (by omega)
      obtain ⟨b, e, -⟩ := DataW.trod_bool Tryz.underlying4 h2
      injection e with e
      exact ⟨b, by rw [h1, e]⟩)
    refine ⟨_, (List.range len).map M, rfl, ⟨some a, cap, by simp, ⟨by simpa using hl, by unfold maxLen at hm; omega⟩, ?_⟩⟩
    by_cases h0 : len = 0
    · left; rw [h0]; rfl
    · right
      have h00 := hM 0 (by omega)
      obtain ⟨g, f, spot⟩ := a
      obtain rfl := spot_none h00 (by simp)
      refine ⟨g, f, rfl, World.block_lt_of_cell? w _ h00, fun i hil => ?_⟩
      have hil' : i < len := by simpa using hil
      have hg : ((List.range len).map M)[i] = M i := by simp
      rw [hg]
      have q0 := hM i hil'
      rw [Addr.add_lit] at q0
      exact q0
end
theorem machine_came {w : World} {v : Value} (h : Came Tryz.prog w 76 v) : ∃ m, McInZ w v m ∧ ∀ r ∈ m.ed, r.length ≤ 140737488351232 := by
  obtain ⟨H, enc, base, spare, held, fuel, x, r, b0, h1, h2, h3⟩ := h
  obtain ⟨cs, rfl, hsz⟩ := Go.WideShapes.okWide_struct Tryz.underlying76 h3
  have c1 : Tryz.prog.cellsOf 73 = 1 := by kernel_rfl
  have c2 : Tryz.prog.cellsOf 74 = 1 := by kernel_rfl
  have c3 : Tryz.prog.cellsOf 76 = 2 := by kernel_rfl
  rw [c3] at hsz
  obtain ⟨ys, n', -, hy, -, hyl, hf⟩ := DataW.trod_struct Tryz.underlying76 h1
  have f0 : DataW.trod enc Tryz.prog w base spare held n' 73 (((Value.agg cs).cells.toList.drop 0).take (Tryz.prog.cellsOf 73)) = ys[0]? := hf 0 _ rfl
  have f1 : DataW.trod enc Tryz.prog w base spare held n' 74 (((Value.agg cs).cells.toList.drop 1).take (Tryz.prog.cellsOf 74)) = ys[1]? := hf 1 _ rfl
  rw [c1] at f0
  rw [c2] at f1
  match ys, hyl with
  | [y0, y1], _ =>
    have hz : (DataW.weights Tryz.prog 73 y0.1).all (· ≤ reachBytes) = true := by
      rw [hy] at h2
      unfold DataW.weights at h2
      rw [Tryz.underlying76] at h2
      refine List.all_eq_true.2 fun q hq => List.all_eq_true.1 h2 q ?_
      simp [DataW.weightsEach]
      exact .inl hq
    obtain ⟨ve, le, e0, p1, p2⟩ := rowsZ (f0.trans rfl) hz
    obtain ⟨va, la, e1, p3⟩ := boolsZ (f1.trans rfl)
    refine ⟨⟨le, la⟩, ⟨ve, va, ?_, p1, p3⟩, p2⟩
    have q0 := take_oneZ e0
    have q1 := take_oneZ e1
    have hc : (Value.agg cs).cells = cs := rfl
    rw [hc] at q0 q1
    congr 1
    refine Array.ext (by simpa using hsz) fun i h1 h2 => ?_
    match i, h1 with
    | 0, h1 => simpa [h1] using q0
    | 1, h1 => simpa [h1] using q1
    | i + 2, h1 => omega
end Go.Proofs.YtoaibhacognbjaaGreatDoor
