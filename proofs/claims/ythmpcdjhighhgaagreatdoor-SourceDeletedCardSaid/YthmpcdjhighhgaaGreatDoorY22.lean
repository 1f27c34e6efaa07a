/- Bytes in memory: as arguments come, as a call has made them. -/
import Derived.Test.YthmpcdjhighhgaaGreatDoorY09
import Derived.Test.YthmpcdjhighhgaaGreatDoorY21
namespace Go.Proofs.YthmpcdjhighhgaaGreatDoor
set_option linter.unusedVariables false
set_option linter.unusedSimpArgs false
set_option maxRecDepth 100000
open Go.RowKit
theorem wf_u8 {n : Int} (h : (Lit.int .u8 n).wf = true) : 0 ≤ n ∧ n < 256 := by
  have h1 : IntKind.u8.min = 0 := by decide
  have h2 : IntKind.u8.max = 255 := by decide
  simp [Lit.wf] at h
  omega
theorem bytesArg_of {w : World} {a : Option Addr} {len cap : Nat} {zs : List Int}
    (h : (a = none ∧ len = 0 ∧ cap = 0 ∧ zs = []) ∨ ∃ x, a = some x ∧ len ≤ cap ∧ cap ≤ maxLen ∧ zs.length = cap ∧ (∀ i, i < zs.length → w.cell? (x.add i) = some (.int .u8 (zs.getD i 0))) ∧ ∀ n ∈ zs, (Lit.int .u8 n).wf = true) :
    ∃ l, BIn w.heap.size w (.slice a len cap) l ∧ len ≤ maxLen := by
  rcases h with ⟨rfl, rfl, rfl, rfl⟩ | ⟨x, rfl, hl, hm, hz, hc, hw⟩
  · exact ⟨[], ⟨_, _, _, rfl, rfl, Nat.le_refl _, .inl rfl⟩, Nat.zero_le _⟩
  · refine ⟨(zs.take len).map fun n => UInt8.ofNat n.toNat, ⟨_, _, _, rfl, by simp; omega, hl, ?_⟩, Nat.le_trans hl hm⟩
    by_cases h0 : len = 0
    · exact .inl h0
    · refine .inr ⟨x, rfl, ?_, fun j hj => ?_⟩
      · have := World.block_lt_of_cell? w _ (hc 0 (by omega))
        rwa [Reads_block] at this
      · have hj' : j < zs.length := by simp at hj; omega
        rw [hc j hj']
        obtain ⟨h1, h2⟩ := wf_u8 (hw (zs.getD j 0) (by rw [List.getD_eq_getElem?_getD, List.getElem?_eq_getElem hj']; exact List.getElem_mem _))
        rw [List.getElem_map, List.getElem_take, List.getD_eq_getElem?_getD, List.getElem?_eq_getElem hj'] at *
        simp only [Option.getD_some] at *
        congr 2
        rw [UInt8.toNat_ofNat']
        omega
theorem BIn.below {B : Nat} {w w1 : World} {v : Value} {l : List UInt8} (h : BIn B w v l) (hb : Below B w w1) : BIn w1.heap.size w1 v l ∨ B > w1.heap.size := by
  by_cases hz : B ≤ w1.heap.size
  · refine .inl ?_
    obtain ⟨A, n, c, h1, h2, h3, h4⟩ := h
    refine ⟨A, n, c, h1, h2, h3, h4.imp id ?_⟩
    rintro ⟨ad, h5, h6, h7⟩
    exact ⟨ad, h5, by omega, fun j hj => (World.cell?_of_block (by rw [Reads_block]; exact hb.block _ h6)).trans (h7 j hj)⟩
  · exact .inr (by omega)
theorem BIn.later {w w1 : World} {v : Value} {l : List UInt8} (h : BIn w.heap.size w v l) (hb : Below w.heap.size w w1) : BIn w1.heap.size w1 v l := by
  rcases h.below hb with h | h
  · exact h
  · have := hb.size; omega
theorem BIn.of_OB {B : Nat} {w : World} {v : Value} {l : List UInt8} (h : OB 5 B v l w) : BIn w.heap.size w v l := by
  rcases h.2 with ⟨h1, h2⟩ | ⟨g, cap, cur, h1, h2, h3, h4⟩
  · exact ⟨_, _, _, h1, h2.symm ▸ rfl, Nat.le_refl _, .inl rfl⟩
  · refine ⟨_, _, _, h1, rfl, h4.1, .inr ⟨_, rfl, (Array.getElem?_eq_some_iff.1 h3).1, fun j hj => ?_⟩⟩
    subst h1
    have := World.ownsRow.cellAt h j (by simpa using hj)
    rw [Addr.add_lit, Nat.zero_add, this]; simp [hj]
theorem BIn.of_RB {w : World} {e : TypeId} {g n c : Nat} {l : List UInt8} (h : RB e g l w) (hn : n = l.length) (hc : n ≤ c) : BIn w.heap.size w (.slice (some ⟨g, 0, none⟩) n c) l :=
  ⟨_, _, _, rfl, hn, hc, .inr ⟨_, rfl, h.lt, fun j hj => by rw [Addr.add_lit, Nat.zero_add]; exact h.cell j hj⟩⟩
end Go.Proofs.YthmpcdjhighhgaaGreatDoor
