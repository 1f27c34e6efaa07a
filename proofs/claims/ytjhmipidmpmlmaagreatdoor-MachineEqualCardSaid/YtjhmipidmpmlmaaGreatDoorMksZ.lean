/- Walk: the maker's Set: a set of bytes, one of eight. -/
import Derived.Test.YtjhmipidmpmlmaaGreatDoorY22
import Derived.Test.YtjhmipidmpmlmaaGreatDoorEqPZ
import Derived.Test.YtjhmipidmpmlmaaGreatDoorAlsZ
namespace Go.Proofs.YtjhmipidmpmlmaaGreatDoor
set_option linter.unusedVariables false
set_option linter.unusedSimpArgs false
set_option maxRecDepth 100000
open Go.RowKit
/-- A value that reads as ranges whatever is written below. -/
def RgUp (B : Nat) (w : World) (v : Value) (rs : List (Nat × Nat)) : Prop := ∀ W, KeepF (List.range B) [] w W → RgIn W v rs
def MsPost (b : Nat) (w : World) (e : Ending) (w' : World) : Prop := ∃ rs v, rs ∈ eqSetsF ∧ e = .returned (.agg #[.int .i64 1, v, .slice none 0 0, .int .i64 0, .int .i64 0]) ∧ RgUp w.heap.size w' v rs ∧ TapeOK b w' ∧ Fr b w w'
theorem rg1 {W : World} {g a b : Nat} {T : TypeId} {m : Nat × Nat} (h : W.heap[g]? = some (.cells #[.int .u8 (a : Int), .int .u8 (b : Int)] T m)) (ha : a < 256) (hb : b < 256) : RgIn W (.slice (some ⟨g, 0, none⟩) 1 1) [(a, b)] :=
  ⟨_, 1, rfl, ⟨Nat.le_refl _, by decide⟩, .inr ⟨g, 0, rfl, (Array.getElem?_eq_some_iff.1 h).1, fun i hi => by
    match i, hi with
    | 0, _ => exact ⟨⟨by rw [cell_of_row _ _ _ _ _ _ h]; rfl, by rw [cell_of_row _ _ _ _ _ _ h]; rfl⟩, ha, hb⟩⟩⟩
theorem rg2 {W : World} {g a b a2 b2 : Nat} {T : TypeId} {m : Nat × Nat} (h : W.heap[g]? = some (.cells #[.int .u8 (a : Int), .int .u8 (b : Int), .int .u8 (a2 : Int), .int .u8 (b2 : Int)] T m)) (ha : a < 256) (hb : b < 256) (ha2 : a2 < 256) (hb2 : b2 < 256) : RgIn W (.slice (some ⟨g, 0, none⟩) 2 2) [(a, b), (a2, b2)] :=
  ⟨_, 2, rfl, ⟨Nat.le_refl _, by decide⟩, .inr ⟨g, 0, rfl, (Array.getElem?_eq_some_iff.1 h).1, fun i hi => by
    match i, hi with
    | 0, _ => exact ⟨⟨by rw [cell_of_row _ _ _ _ _ _ h]; rfl, by rw [cell_of_row _ _ _ _ _ _ h]; rfl⟩, ha, hb⟩
    | 1, _ => exact ⟨⟨by rw [cell_of_row _ _ _ _ _ _ h]; rfl, by rw [cell_of_row _ _ _ _ _ _ h]; rfl⟩, ha2, hb2⟩⟩⟩
theorem rgup1 {B : Nat} {w : World} {g a b : Nat} {T : TypeId} {m : Nat × Nat} (h : w.heap[g]? = some (.cells #[.int .u8 (a : Int), .int .u8 (b : Int)] T m)) (ha : a < 256) (hb : b < 256) (hg : B ≤ g) : RgUp B w (.slice (some ⟨g, 0, none⟩) 1 1) [(a, b)] :=
  fun W hk => rg1 ((hk.blk g (Array.getElem?_eq_some_iff.1 h).1 (fun hm => by have := List.mem_range.1 hm; omega)).trans h) ha hb
theorem rgup2 {B : Nat} {w : World} {g a b a2 b2 : Nat} {T : TypeId} {m : Nat × Nat} (h : w.heap[g]? = some (.cells #[.int .u8 (a : Int), .int .u8 (b : Int), .int .u8 (a2 : Int), .int .u8 (b2 : Int)] T m)) (ha : a < 256) (hb : b < 256) (ha2 : a2 < 256) (hb2 : b2 < 256) (hg : B ≤ g) : RgUp B w (.slice (some ⟨g, 0, none⟩) 2 2) [(a, b), (a2, b2)] :=
  fun W hk => rg2 ((hk.blk g (Array.getElem?_eq_some_iff.1 h).1 (fun hm => by have := List.mem_range.1 hm; omega)).trans h) ha hb ha2 hb2
theorem RgUp.keep {B : Nat} {w w' : World} {v : Value} {rs : List (Nat × Nat)} (h : RgUp B w v rs) (hk : KeepF (List.range B) [] w w') : RgUp B w' v rs := fun W hk2 => h W (hk.tr hk2)
theorem kf_range_fr {b B : Nat} {w w' : World} (hf : Fr b w w') (hb : b < B) : KeepF (List.range B) [] w w' := ⟨hf.os, hf.tape, hf.output, hf.size, fun k hk hn => hf.block k hk (fun e => hn (by injection e with e; simp; omega)), fun k hk => by cases hk⟩
set_option maxHeartbeats 4000000 in
theorem mkset_any (b : Nat) (w : World) (ht : TapeOK b w) : Calls Tryz.prog 8 #[.pointer (some ⟨b, 0, none⟩)] w (MsPost b w) := by
  have HT := Lib.hid ht
  have hbl := ht.lt
  clear ht
  go_enter Tryz.func8, Tryz.ntmps8
  go_wp2_with fail
  refine calls_named fun W0 hW0 => ?_
  have hW : W0 = allocs w [(#[.int .i64 0, .slice none 0 0, .slice none 0 0, .int .i64 0, .int .i64 0], 29), (#[.int .u8 97, .int .u8 98], 56), (#[.int .u8 48, .int .u8 57], 56), (#[.int .u8 97, .int .u8 97], 56), (#[.int .u8 98, .int .u8 98], 56), (#[.int .u8 48, .int .u8 57, .int .u8 97, .int .u8 102], 56), (#[.int .u8 107, .int .u8 107], 56), (#[.int .u8 45, .int .u8 45], 56), (#[.int .u8 0, .int .u8 9, .int .u8 250, .int .u8 255], 56), (#[.slice (some ⟨w.heap.size + 1, 0, none⟩) 1 1, .slice (some ⟨w.heap.size + 1 + 1, 0, none⟩) 1 1, .slice (some ⟨w.heap.size + 1 + 1 + 1, 0, none⟩) 1 1, .slice (some ⟨w.heap.size + 1 + 1 + 1 + 1, 0, none⟩) 1 1, .slice (some ⟨w.heap.size + 1 + 1 + 1 + 1 + 1, 0, none⟩) 2 2, .slice (some ⟨w.heap.size + 1 + 1 + 1 + 1 + 1 + 1, 0, none⟩) 1 1, .slice (some ⟨w.heap.size + 1 + 1 + 1 + 1 + 1 + 1 + 1, 0, none⟩) 1 1, .slice (some ⟨w.heap.size + 1 + 1 + 1 + 1 + 1 + 1 + 1 + 1, 0, none⟩) 2 2], 26)] := hW0
  have g0 : W0.heap[w.heap.size + 1]? = some (.cells #[.int .u8 97, .int .u8 98] 56 (0, 0)) := by rw [hW]; exact allocs_at 1 rfl
  have g1 : W0.heap[w.heap.size + 1 + 1]? = some (.cells #[.int .u8 48, .int .u8 57] 56 (0, 0)) := by rw [hW]; exact allocs_at 2 rfl
  have g2 : W0.heap[w.heap.size + 1 + 1 + 1]? = some (.cells #[.int .u8 97, .int .u8 97] 56 (0, 0)) := by rw [hW]; exact allocs_at 3 rfl
  have g3 : W0.heap[w.heap.size + 1 + 1 + 1 + 1]? = some (.cells #[.int .u8 98, .int .u8 98] 56 (0, 0)) := by rw [hW]; exact allocs_at 4 rfl
  have g4 : W0.heap[w.heap.size + 1 + 1 + 1 + 1 + 1]? = some (.cells #[.int .u8 48, .int .u8 57, .int .u8 97, .int .u8 102] 56 (0, 0)) := by rw [hW]; exact allocs_at 5 rfl
  have g5 : W0.heap[w.heap.size + 1 + 1 + 1 + 1 + 1 + 1]? = some (.cells #[.int .u8 107, .int .u8 107] 56 (0, 0)) := by rw [hW]; exact allocs_at 6 rfl
  have g6 : W0.heap[w.heap.size + 1 + 1 + 1 + 1 + 1 + 1 + 1]? = some (.cells #[.int .u8 45, .int .u8 45] 56 (0, 0)) := by rw [hW]; exact allocs_at 7 rfl
  have g7 : W0.heap[w.heap.size + 1 + 1 + 1 + 1 + 1 + 1 + 1 + 1]? = some (.cells #[.int .u8 0, .int .u8 9, .int .u8 250, .int .u8 255] 56 (0, 0)) := by rw [hW]; exact allocs_at 8 rfl
  have gR : W0.heap[w.heap.size + 1 + 1 + 1 + 1 + 1 + 1 + 1 + 1 + 1]? = some (.cells #[.slice (some ⟨w.heap.size + 1, 0, none⟩) 1 1, .slice (some ⟨w.heap.size + 1 + 1, 0, none⟩) 1 1, .slice (some ⟨w.heap.size + 1 + 1 + 1, 0, none⟩) 1 1, .slice (some ⟨w.heap.size + 1 + 1 + 1 + 1, 0, none⟩) 1 1, .slice (some ⟨w.heap.size + 1 + 1 + 1 + 1 + 1, 0, none⟩) 2 2, .slice (some ⟨w.heap.size + 1 + 1 + 1 + 1 + 1 + 1, 0, none⟩) 1 1, .slice (some ⟨w.heap.size + 1 + 1 + 1 + 1 + 1 + 1 + 1, 0, none⟩) 1 1, .slice (some ⟨w.heap.size + 1 + 1 + 1 + 1 + 1 + 1 + 1 + 1, 0, none⟩) 2 2] 26 (0, 0)) := by rw [hW]; exact allocs_at 9 rfl
  have gB : W0.heap[w.heap.size]? = some (.cells #[.int .i64 0, .slice none 0 0, .slice none 0 0, .int .i64 0, .int .i64 0] 29 (0, 0)) := by rw [hW]; exact allocs_at 0 rfl
  have hz : W0.heap.size = w.heap.size + 10 := by rw [hW]; exact allocs_size _ w
  have hb : Below w.heap.size w W0 := by rw [hW]; exact allocs_below _ w
  have hrow : ∀ c, c < 8 → ∃ v rs, rs ∈ eqSetsF ∧ W0.cell? ⟨w.heap.size + 1 + 1 + 1 + 1 + 1 + 1 + 1 + 1 + 1, c, none⟩ = some v ∧ RgUp (w.heap.size + 1) W0 v rs ∧ v.oneCell' = true := fun c hc => by
    rcases (show c = 0 ∨ c = 1 ∨ c = 2 ∨ c = 3 ∨ c = 4 ∨ c = 5 ∨ c = 6 ∨ c = 7 by omega) with rfl | rfl | rfl | rfl | rfl | rfl | rfl | rfl
    · exact ⟨_, [(97, 98)], by decide, by rw [cell_of_row _ _ _ _ _ _ gR]; rfl, rgup1 (a := 97) (b := 98) g0 (by decide) (by decide) (by omega), rfl⟩
    · exact ⟨_, [(48, 57)], by decide, by rw [cell_of_row _ _ _ _ _ _ gR]; rfl, rgup1 (a := 48) (b := 57) g1 (by decide) (by decide) (by omega), rfl⟩
    · exact ⟨_, [(97, 97)], by decide, by rw [cell_of_row _ _ _ _ _ _ gR]; rfl, rgup1 (a := 97) (b := 97) g2 (by decide) (by decide) (by omega), rfl⟩
    · exact ⟨_, [(98, 98)], by decide, by rw [cell_of_row _ _ _ _ _ _ gR]; rfl, rgup1 (a := 98) (b := 98) g3 (by decide) (by decide) (by omega), rfl⟩
    · exact ⟨_, [(48, 57), (97, 102)], by decide, by rw [cell_of_row _ _ _ _ _ _ gR]; rfl, rgup2 (a := 48) (b := 57) (a2 := 97) (b2 := 102) g4 (by decide) (by decide) (by decide) (by decide) (by omega), rfl⟩
    · exact ⟨_, [(107, 107)], by decide, by rw [cell_of_row _ _ _ _ _ _ gR]; rfl, rgup1 (a := 107) (b := 107) g5 (by decide) (by decide) (by omega), rfl⟩
    · exact ⟨_, [(45, 45)], by decide, by rw [cell_of_row _ _ _ _ _ _ gR]; rfl, rgup1 (a := 45) (b := 45) g6 (by decide) (by decide) (by omega), rfl⟩
    · exact ⟨_, [(0, 9), (250, 255)], by decide, by rw [cell_of_row _ _ _ _ _ _ gR]; rfl, rgup2 (a := 0) (b := 9) (a2 := 250) (b2 := 255) g7 (by decide) (by decide) (by decide) (by decide) (by omega), rfl⟩
  obtain ⟨bR, hbR⟩ : ∃ k, w.heap.size + 1 + 1 + 1 + 1 + 1 + 1 + 1 + 1 + 1 = k := ⟨_, rfl⟩
  rw [hbR] at hrow ⊢
  have HR := Lib.hid (And.intro hrow (And.intro gB (And.intro hb (show w.heap.size ≤ bR ∧ bR < W0.heap.size by omega))))
  have ht0 := HT.out.below hb
  clear hW hW0 g0 g1 g2 g3 g4 g5 g6 g7 gR gB hrow hbR hb hz HT
  refine (next_any b 8 W0 (by decide) (by decide) ht0).mono ?_
  rintro e w1 ⟨r, rfl, hr1, hr2, ht1, hf1⟩
  obtain ⟨c, rfl⟩ : ∃ c : Nat, r = (c : Int) := ⟨r.toNat, by omega⟩
  obtain ⟨v, rs, hrs, hcl, hup, h1c⟩ := HR.out.1 c (by omega)
  obtain ⟨Av, cv, rfl, -⟩ := hup W0 (kf_bel (Below.refl _ _))
  obtain ⟨nv, hnv⟩ : ∃ k, rs.length = k := ⟨_, rfl⟩
  rw [hnv] at hup hcl
  have HNV := Lib.hid hnv
  have hbz := HR.out.2.2.1.size
  have hrm := (HR.out.2.1)
  have hRb := HR.out.2.2.2
  have hcl1 : w1.cell? ⟨bR, c, none⟩ = some (.slice Av nv cv) := (World.cell?_of_block (a := ⟨bR, c, none⟩) (hf1.block bR hRb.2 (fun e => by injection e with e; omega))).trans hcl
  have hB1 : w1.heap[w.heap.size]? = some (.cells #[.int .i64 0, .slice none 0 0, .slice none 0 0, .int .i64 0, .int .i64 0] 29 (0, 0)) := (hf1.block _ (by omega) (fun e => by injection e with e; omega)).trans hrm
  have lB : w.heap.size < w1.heap.size := (Array.getElem?_eq_some_iff.1 hB1).1
  have lR : bR < w1.heap.size := by have := hf1.size; omega
  have z0 : w1.cell? ⟨w.heap.size, 0, none⟩ = some (.int .i64 0) := by rw [cell_of_row _ _ _ _ _ _ hB1]; rfl
  have z1 : w1.cell? ⟨w.heap.size, 1, none⟩ = some (.slice none 0 0) := by rw [cell_of_row _ _ _ _ _ _ hB1]; rfl
  have z2 : w1.cell? ⟨w.heap.size, 2, none⟩ = some (.slice none 0 0) := by rw [cell_of_row _ _ _ _ _ _ hB1]; rfl
  have z3 : w1.cell? ⟨w.heap.size, 3, none⟩ = some (.int .i64 0) := by rw [cell_of_row _ _ _ _ _ _ hB1]; rfl
  have z4 : w1.cell? ⟨w.heap.size, 4, none⟩ = some (.int .i64 0) := by rw [cell_of_row _ _ _ _ _ _ hB1]; rfl
  have f0 : w1.frozen? ⟨w.heap.size, 0, none⟩ = false := by simp [World.frozen?, hB1]
  have f1 : w1.frozen? ⟨w.heap.size, 1, none⟩ = false := by simp [World.frozen?, hB1]
  have f2 : w1.frozen? ⟨w.heap.size, 2, none⟩ = false := by simp [World.frozen?, hB1]
  have f3 : w1.frozen? ⟨w.heap.size, 3, none⟩ = false := by simp [World.frozen?, hB1]
  have f4 : w1.frozen? ⟨w.heap.size, 4, none⟩ = false := by simp [World.frozen?, hB1]
  have HP := Lib.hid (And.intro hrs (And.intro hup (And.intro ht1 (And.intro hf1 (And.intro hB1 (show w.heap.size ≤ W0.heap.size by omega))))))
  have hd0 : decide ((0 : Int) ≤ (c : Int)) = true := decide_eq_true (by omega)
  have hd1 : decide ((c : Int) < 8) = true := decide_eq_true (by omega)
  clear h1c hnv hrs hup ht1 hf1 hB1 hbz hrm hRb hcl
  go_wp2_with fail
  refine post_named fun Wf hWf => ?_
  refine bodyPost_ret (v := .agg #[.int .i64 1, .slice Av nv cv, .slice none 0 0, .int .i64 0, .int .i64 0]) (by rw [hWf]; simp [results, Tryz.results8, go_sem, z0, z1, z2, z3, z4, lB]; try rfl) rfl ?_
  have hm : w.heap.size ∈ [w.heap.size] := List.mem_singleton.2 rfl
  have hkl : KeepF [w.heap.size] [] w1 Wf := by rw [hWf]; exact ((((kf_setO hm).tr (kf_setO hm)).tr (kf_setO hm)).tr (kf_setO hm)).tr (kf_setO hm)
  have hbf : Below w.heap.size w1 Wf := hkl.below (fun k hk => by rw [List.mem_singleton] at hk; omega) (by omega)
  have hf := HP.out.2.2.2.1
  have h0 := HR.out.2.2.1
  refine ⟨rs, _, HP.out.1, rfl, fun W hk => ?_, HP.out.2.2.1.below' hbf hbl, ⟨hbf.os.trans (hf.os.trans h0.os), hbf.tape.trans (hf.tape.trans h0.tape), hbf.output.trans (hf.output.trans h0.output), by have := h0.size; have := hf.size; have := hbf.size; omega, fun k hk hne => (hbf.block k hk).trans ((hf.block k (Nat.lt_of_lt_of_le hk h0.size) hne).trans (h0.block k hk))⟩⟩
  have hw1 : KeepF (List.range (w.heap.size + 1)) [] w1 Wf := ⟨hkl.os, hkl.tape, hkl.output, hkl.size, fun k hk hn => hkl.blk k hk (fun e => hn (by rw [List.mem_singleton] at e; simp; omega)), fun k hk => by cases hk⟩
  have hw2 : KeepF (List.range (w.heap.size + 1)) [] Wf W := ⟨hk.os, hk.tape, hk.output, hk.size, fun k h1 hn => hk.blk k h1 (fun e => hn (by simp at e ⊢; omega)), fun k hk => by cases hk⟩
  have hnv := HNV.out
  subst hnv
  exact HP.out.2.1 W ((kf_range_fr hf (by omega)).tr (hw1.tr hw2))
end Go.Proofs.YtjhmipidmpmlmaaGreatDoor
