/- Sources: copies of bytes, a content with one place. -/
import Derived.Test.YthmpcdjhighhgaaGreatDoorY19
import Derived.Test.YthmpcdjhighhgaaGreatDoorY29
namespace Go.Proofs.YthmpcdjhighhgaaGreatDoor
set_option linter.unusedVariables false
set_option linter.unusedSimpArgs false
set_option maxRecDepth 100000
open Go.RowKit
/-- 'append(out, row...)' of bytes that lie anywhere. -/
theorem app_BIn {P : Program} {T e : TypeId} {i0 : TypeInfo} (ht : P.underlying T = some (.slice e)) (hi : P.info? e = some i0) (hz0 : i0.zero = some (.int .u8 0)) (hz1 : i0.size = 1) (hz2 : i0.bytes = 1)
    {w : World} {ops : Array Oper} {rest : List Oper} {o : Oper} {a : Act} {Q : Exit → Act → World → Prop} (s x : Operand) (v : Value) (l r : List UInt8) (ad : Addr) (m cap : Nat) (B : Nat)
    (hgd : o.guard = none) (ho : o.op = .call { callee := .builtin .append, args := #[s, x], argTypes := #[T, T] })
    (hs : a.eval s = v) (hx : a.eval x = .slice (some ad) m cap) (hm : m = r.length) (hown : OB e B v l w) (hc : ∀ j (h : j < r.length), w.cell? (ad.add j) = some (.int .u8 r[j].toNat)) (hl : l.length + r.length < 1000000000) (hB : B ≤ w.heap.size)
    (h : ∀ v' w1, OB e B v' (l ++ r) w1 → Below B w w1 → wpList P ops Q rest (a.put o.dst v') w1) :
    wpList P ops Q (o :: rest) a w := by
  subst hm
  refine wpList_append_own _ hgd s x T ho B e i0 (.int .u8 0) 1 1 ht hi hz0 hz1 hz2 rfl (by decide) v l.length _ hs hown ad r.length cap (r.map fun c => Value.int .u8 c.toNat) hx (by simp) ?_ (oneCell_bytes r) ?_ ?_ hB ?_
  · intro j u hj
    rw [List.getElem?_map] at hj
    obtain ⟨y, hy, rfl⟩ := Option.map_eq_some_iff.1 hj
    obtain ⟨hjl, rfl⟩ := List.getElem?_eq_some_iff.1 hy
    exact hc j hjl
  · unfold maxLen; omega
  · omega
  · intro v' w1 hown1 hg _
    exact h v' w1 (by simpa [OB] using hown1) ((Below.refl B w).grown hg hB (fun k hk => (hown.lt k hk).1))
set_option maxHeartbeats 1000000 in
theorem cloneB_any (v : Value) (l : List UInt8) (w : World) (hv : BIn w.heap.size w v l) (hl : l.length ≤ 100000000) : Calls Tryz.prog 46 #[v] w fun e w' => ∃ u, e = .returned u ∧ OB 5 w.heap.size u l w' ∧ Below w.heap.size w w' := by
  obtain ⟨i0, hi, hz0, hz1, hz2⟩ := info_parts info_u8
  obtain ⟨A, n, c, rfl, hn, hc, hcell⟩ := hv
  have hnil := fun w => Lib.run_eql_slice_nil (P := Tryz.prog) w 30 5 A n c 0 0 Tryz.underlying30
  cases A with
  | none =>
    have h0 : l = [] := by
      rcases hcell with h | ⟨ad, h, -⟩
      · exact List.length_eq_zero_iff.1 (by omega)
      · cases h
    subst h0
    simp only [List.length_nil] at hn
    subst hn
    go_enter Tryz.func46, Tryz.ntmps46
    go_wp2_with fail
    go_ret
    exact ⟨_, rfl, ⟨rfl, .inl ⟨rfl, rfl⟩⟩, Below.refl _ _⟩
  | some ad =>
    have HC := Lib.hid (show ∀ w1, Below w.heap.size w w1 → ∀ j (h : j < l.length), w1.cell? (ad.add j) = some (.int .u8 l[j].toNat) from fun w1 hb j hj => by
      rcases hcell with h | ⟨ad', h, hlt, hm⟩
      · omega
      · injection h with h; subst h
        exact (World.cell?_of_block (by rw [Reads_block]; exact hb.block _ hlt)).trans (hm j hj))
    clear hcell
    have h0 := OB.empty 5 w
    have hb0 := (Below.refl w.heap.size w).alloc (Nat.le_refl _) (.cells #[] 5)
    have HN := Lib.hid hn
    clear hn
    go_enter Tryz.func46, Tryz.ntmps46
    go_wp2_with (at_builtin; refine app_BIn Tryz.underlying30 hi hz0 hz1 hz2 _ _ _ [] l ad n c w.heap.size rfl rfl rfl rfl HN.out h0 (HC.out _ hb0) (by simp; omega) (by simp) ?_; intro v1 w1 hown1 hb1)
    go_ret
    exact ⟨_, rfl, by simpa using hown1, hb0.trans hb1⟩
theorem obMono {e : TypeId} {B B' : Nat} {v : Value} {l : List UInt8} {w : World} (h : OB e B v l w) (hB : B' ≤ B) : OB e B' v l w := by
  refine ⟨h.1, h.2.imp id ?_⟩
  rintro ⟨g, cap, cur, h1, h2, h3⟩
  exact ⟨g, cap, cur, h1, Nat.le_trans hB h2, h3⟩
theorem set_rowS {w : World} {G e : Nat} {cs : Array Value} {m : Nat × Nat} (h : w.heap[G]? = some (.cells cs e m)) (j : Nat) (v : Value) : (w.setCell ⟨G, j, none⟩ v).heap[G]? = some (.cells (cs.setIfInBounds j v) e m) := by
  simp [World.setCell, Array.getElem?_modify, h]
/-- A place in a row of one's own. -/
def PlIn (w : World) (g : Nat) (src : Int) (p : ByteArray) (t : Int) : Prop := w.heap[g]? = some (.cells #[.int .i64 src, .string p, .int .i64 t] 45 (0, 0))
theorem PlIn.cells {w : World} {g : Nat} {src : Int} {p : ByteArray} {t : Int} (h : PlIn w g src p t) : (w.cell? ⟨g, 0, none⟩ = some (.int .i64 src) ∧ w.cell? ⟨g, 1, none⟩ = some (.string p) ∧ w.cell? ⟨g, 2, none⟩ = some (.int .i64 t)) ∧ ∀ j, w.frozen? ⟨g, j, none⟩ = false := by
  refine ⟨⟨?_, ?_, ?_⟩, fun j => by unfold PlIn at h; simp [World.frozen?, h]⟩ <;> (rw [cell_of_row _ _ _ _ _ _ h]; rfl)
def SinglePost (l : List UInt8) (p : ByteArray) (t : Int) (w : World) (e : Ending) (w' : World) : Prop := ∃ A n c g, e = .returned (.agg #[.slice A n c, .slice (some ⟨g, 0, none⟩) 1 1]) ∧ OB 5 w.heap.size (.slice A n c) l w' ∧ w.heap.size ≤ g ∧ PlIn w' g 0 p t ∧ Below w.heap.size w w'
set_option maxHeartbeats 1000000 in
theorem single_any (v : Value) (l : List UInt8) (p : ByteArray) (t : Int) (w : World) (hv : BIn w.heap.size w v l) (hl : l.length ≤ 100000000) : Calls Tryz.prog 25 #[v, .string p, .int .i64 t] w (SinglePost l p t w) := by
  have H := Lib.hid hv
  obtain ⟨A, n, c, rfl, -, -, -⟩ := hv
  go_enter Tryz.func25, Tryz.ntmps25
  go_wp2_with fail
  have hb0 : Below w.heap.size w (w.alloc (.cells #[.slice none 0 0, .slice none 0 0] 43)) := (Below.refl _ _).alloc (Nat.le_refl _) _
  refine (cloneB_any _ l _ (H.out.later hb0) hl).mono ?_
  rintro e w1 ⟨u, rfl, hu, hb1⟩
  obtain ⟨A1, n1, c1, rfl⟩ := hu.form_
  have hrow : w1.heap[w.heap.size]? = some (.cells #[.slice none 0 0, .slice none 0 0] 43 (0, 0)) := (hb1.block w.heap.size (by simp)).trans (heap_alloc_new w _)
  have c0 : w1.cell? ⟨w.heap.size, 0, none⟩ = some (.slice none 0 0) := by rw [cell_of_row _ _ _ _ _ _ hrow]; rfl
  have c1' : w1.cell? ⟨w.heap.size, 1, none⟩ = some (.slice none 0 0) := by rw [cell_of_row _ _ _ _ _ _ hrow]; rfl
  have f0 : w1.frozen? ⟨w.heap.size, 0, none⟩ = false := by simp [World.frozen?, hrow]
  have f1 : w1.frozen? ⟨w.heap.size, 1, none⟩ = false := by simp [World.frozen?, hrow]
  have hsz : w.heap.size < w1.heap.size := (Array.getElem?_eq_some_iff.1 hrow).1
  have HU := Lib.hid hu
  have HB := Lib.hid (hb0.trans (hb1.mono hb0.size))
  have hne : w.heap.size ≠ w1.heap.size := by omega
  have hne' : ¬ w1.heap.size = w.heap.size := by omega
  have HR := Lib.hid hrow
  clear hu hb1 hb0 hrow
  go_wp2_with fail
  have hz3 : ((w1.setCell ⟨w.heap.size, 0, none⟩ (.slice A1 n1 c1)).setCell ⟨w.heap.size, 1, none⟩ (.slice (some ⟨w1.heap.size, 0, none⟩) 1 1)).heap.size = w1.heap.size := by simp [World.setCell]
  have hrow2 := set_rowS (set_rowS HR.out 0 (.slice A1 n1 c1)) 1 (.slice (some ⟨w1.heap.size, 0, none⟩) 1 1)
  have hb3 : Below w.heap.size w ((w1.setCell ⟨w.heap.size, 0, none⟩ (.slice A1 n1 c1)).setCell ⟨w.heap.size, 1, none⟩ (.slice (some ⟨w1.heap.size, 0, none⟩) 1 1)) := (HB.out.setCell (p := ⟨w.heap.size, 0, none⟩) (Nat.le_refl _) _).setCell (p := ⟨w.heap.size, 1, none⟩) (Nat.le_refl _) _
  have hu3 : OB 5 w.heap.size (.slice A1 n1 c1) l ((w1.setCell ⟨w.heap.size, 0, none⟩ (.slice A1 n1 c1)).setCell ⟨w.heap.size, 1, none⟩ (.slice (some ⟨w1.heap.size, 0, none⟩) 1 1)) := by
    refine OB.keep (obMono HU.out (by simp)) fun k hk => ?_
    have h1 := (World.ownsRow.lt HU.out k hk).1
    simp at h1
    rw [Below.heap_setCell _ _ _ _ (by dsimp only; omega), Below.heap_setCell _ _ _ _ (by dsimp only; omega)]
  clear hne hne' f0 f1 c0 c1'
  generalize ((w1.setCell ⟨w.heap.size, 0, none⟩ (.slice A1 n1 c1)).setCell ⟨w.heap.size, 1, none⟩ (.slice (some ⟨w1.heap.size, 0, none⟩) 1 1)) = W3 at *
  rw [← hz3] at hrow2 ⊢
  have hb4 := (Below.refl W3.heap.size W3).alloc (Nat.le_refl _) (.cells #[.int .i64 0, .string p, .int .i64 t] 45)
  have hnew : PlIn (W3.alloc (.cells #[.int .i64 0, .string p, .int .i64 t] 45)) W3.heap.size 0 p t := heap_alloc_new W3 _
  have hsz3 : w.heap.size < W3.heap.size := by omega
  have hrow4 := (hb4.block w.heap.size hsz3).trans hrow2
  have c0 : (W3.alloc (.cells #[.int .i64 0, .string p, .int .i64 t] 45)).cell? ⟨w.heap.size, 0, none⟩ = some (.slice A1 n1 c1) := by rw [cell_of_row _ _ _ _ _ _ hrow4]; rfl
  have c1' : (W3.alloc (.cells #[.int .i64 0, .string p, .int .i64 t] 45)).cell? ⟨w.heap.size, 1, none⟩ = some (.slice (some ⟨W3.heap.size, 0, none⟩) 1 1) := by rw [cell_of_row _ _ _ _ _ _ hrow4]; rfl
  have hu4 := hu3.after hb4
  have hb5 := hb3.trans (hb4.mono hb3.size)
  generalize hW4 : (W3.alloc (.cells #[.int .i64 0, .string p, .int .i64 t] 45)) = W4 at *
  exact bodyPost_ret (v := .agg #[.slice A1 n1 c1, .slice (some ⟨W3.heap.size, 0, none⟩) 1 1]) (by simp [results, Tryz.results25, go_sem, c0, c1']) rfl ⟨A1, n1, c1, W3.heap.size, rfl, hu4, by omega, hnew, hb5⟩
end Go.Proofs.YthmpcdjhighhgaaGreatDoor
