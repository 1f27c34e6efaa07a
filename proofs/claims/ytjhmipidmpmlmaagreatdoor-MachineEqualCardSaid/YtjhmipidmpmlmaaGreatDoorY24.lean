/- Walks: the reader of patterns at one text: lists of one part, the sequence, the choice. · Walks: the reader of patterns at one text: the choice. · Walks: the text of a pattern at one pattern: signs and sets. · Walks: the text of a pattern at one pattern. · Walks: pattern.Text and pattern.Parse at one text. · The example's machine. · Walks: pattern.Parse at one text. · Walk: pattern.Parse at one text. -/
import Derived.Test.YtjhmipidmpmlmaaGreatDoorY22
import Derived.Test.YtjhmipidmpmlmaaGreatDoorY21
import Derived.Test.YtjhmipidmpmlmaaGreatDoorY11
import Derived.Test.YtjhmipidmpmlmaaGreatDoorY17
import Derived.Test.YtjhmipidmpmlmaaGreatDoorY06
import Derived.Test.YtjhmipidmpmlmaaGreatDoorY23
namespace Go.Proofs.YtjhmipidmpmlmaaGreatDoor
set_option linter.unusedVariables false
set_option linter.unusedSimpArgs false
set_option maxRecDepth 100000
open Go.RowKit
def ListP (rb : Nat) (d : Int) (w : World) (e : Ending) (w' : World) : Prop := ∃ x, e = .returned x ∧ ItP w.heap.size x w' ∧ RdW rb ⟨#[]⟩ false d w' ∧ KfR rb w w'
set_option maxHeartbeats 4000000 in
theorem list_seq (rb : Nat) (d : Int) (w : World) (h : RdW rb ⟨#[91, 97, 45, 98, 93, 123, 50, 125]⟩ false d w) :
    Calls Tryz.prog 125 #[.pointer (some ⟨rb, 0, none⟩), .int .i64 2, .func (.func 142) #[.pointer (some ⟨rb, 0, none⟩)] #[], .func (.func 143) #[.pointer (some ⟨rb, 0, none⟩)] #[]] w (ListP rb d w) := by
  obtain ⟨-, -, hl⟩ := h.cells
  have HR := Lib.hid h
  clear h
  have hne : ∀ k, w.heap.size ≤ k → k ∉ [rb] := fun k hk hm => by rw [List.mem_singleton] at hm; omega
  go_enter Tryz.func125, Tryz.ntmps125
  go_wp2_with fail
  refine calls_named fun W0 hW0 => ?_
  have hb0 : Below w.heap.size w W0 := by rw [hW0]; exact (Below.refl _ _).alloc (Nat.le_refl _) _
  have hY : W0.heap[w.heap.size]? = some (.cells #[.int .i64 0, .slice none 0 0, .slice none 0 0, .int .i64 0, .int .i64 0] 29 (0, 0)) := by rw [hW0]; exact heap_alloc_new w _
  have hz0 : W0.heap.size = w.heap.size + 1 := by rw [hW0]; simp
  have HT1 := Lib.hid (item_ab rb d W0 (HR.out.later hb0))
  have H0 := Lib.hid (And.intro hb0 hY)
  clear hW0 hb0 hY
  refine HT1.out.mono ?_
  rintro e w1 ⟨x, rfl, hit, hr1, hk1⟩
  obtain ⟨g1, v1, rfl, hg1, hg2, hg3⟩ := id hit
  have hz1 := hk1.size
  have hY1 := (hk1.blk w.heap.size (by omega) (hne _ (Nat.le_refl _))).trans H0.out.2
  have hbA : Below w1.heap.size w1 (w1.alloc (.cells #[.int .i64 4, .slice none 0 0, .slice (some ⟨g1, 0, none⟩) 1 1, .int .i64 2, .int .i64 2] 29)) := (Below.refl _ _).alloc (Nat.le_refl _) _
  obtain ⟨⟨c0, c1, c2⟩, -, lr1⟩ := hr1.cells
  have H1 := Lib.hid (And.intro hit (And.intro hr1 (And.intro hk1 hY1)))
  clear hit hr1 hk1 hY1 hbA hg1 hg2 hg3
  have lr2 : rb < w1.heap.size + 1 := by omega
  go_wp2_with fail
  refine wp_loop_rounds 1 ?_
  rw [rounds_succ]
  go_wp2_with fail
  refine calls_named fun W2 hW2 => ?_
  have hb2 : Below w1.heap.size w1 W2 := by rw [hW2]; exact ((Below.refl _ _).alloc (Nat.le_refl _) _).alloc (by simp) _
  have hK2 : W2.heap[w1.heap.size]? = some (.cells #[.int .i64 4, .slice none 0 0, .slice (some ⟨g1, 0, none⟩) 1 1, .int .i64 2, .int .i64 2] 29 (0, 0)) := by rw [hW2, old_alloc _ _ _ (by simp)]; exact heap_alloc_new w1 _
  have hL2 : W2.heap[w1.heap.size + 1]? = some (.cells #[.int .i64 2, .slice none 0 0, .slice (some ⟨w1.heap.size, 0, none⟩) 1 1, .int .i64 0, .int .i64 0] 29 (0, 0)) := by
    rw [hW2]; simpa using heap_alloc_new (w1.alloc (.cells #[.int .i64 4, .slice none 0 0, .slice (some ⟨g1, 0, none⟩) 1 1, .int .i64 2, .int .i64 2] 29)) (.cells #[.int .i64 2, .slice none 0 0, .slice (some ⟨w1.heap.size, 0, none⟩) 1 1, .int .i64 0, .int .i64 0] 29)
  have hz2 : W2.heap.size = w1.heap.size + 2 := by rw [hW2]; simp
  have HT2 := Lib.hid (more_nil rb false d W2 (H1.out.2.1.later hb2))
  have H2 := Lib.hid (And.intro hb2 (And.intro hK2 hL2))
  clear hW2 hb2 hK2 hL2 c0 c1 c2
  refine HT2.out.mono ?_
  rintro e w3 ⟨rfl, hr3, hk3⟩
  have hz3 := hk3.size
  have hK3 := (hk3.blk w1.heap.size (by omega) (hne _ (by omega))).trans H2.out.2.1
  have hL3 := (hk3.blk (w1.heap.size + 1) (by omega) (hne _ (by omega))).trans H2.out.2.2
  have hY3 := (hk3.blk w.heap.size (by omega) (hne _ (Nat.le_refl _))).trans ((H2.out.1.block w.heap.size (by omega)).trans H1.out.2.2.2)
  obtain ⟨k0, k1, k2, k3, k4⟩ := cells5 hK3
  obtain ⟨l0, l1, l2, l3, l4⟩ := cells5 hL3
  obtain ⟨y0, y1, y2, y3, y4⟩ := cells5 hY3
  have fy : ∀ j, j < 5 → w3.frozen? ⟨w.heap.size, j, none⟩ = false := fun j _ => by simp [World.frozen?, hY3]
  have fy0 := fy 0 (by decide)
  have fy1 := fy 1 (by decide)
  have fy2 := fy 2 (by decide)
  have fy3 := fy 3 (by decide)
  have fy4 := fy 4 (by decide)
  have m1 : w1.heap.size + 1 < w3.heap.size := by omega
  have m2 : w1.heap.size < w3.heap.size := by omega
  have m3 : w.heap.size < w3.heap.size := by omega
  have H3 := Lib.hid (And.intro hr3 hk3)
  clear hr3 hk3 hK3 hL3 hY3 fy
  go_wp2_with fail
  refine post_named fun Wf hWf => ?_
  obtain ⟨u1, u2, u3, -⟩ := set5 hWf
  refine bodyPost_ret (v := .agg #[.int .i64 4, .slice none 0 0, .slice (some ⟨g1, 0, none⟩) 1 1, .int .i64 2, .int .i64 2]) (by rw [hWf]; simp [results, Tryz.results125, go_sem, y0, y1, y2, y3, y4, m3]; try rfl) rfl ?_
  have hkf : KeepF [w.heap.size] [] w3 Wf := ⟨u3.1, u3.2.1, u3.2.2, by omega, fun k _ hn => u1 k (fun e => hn (by simp [e])), fun k hk => by cases hk⟩
  have hit := (((H1.out.1.keep (KeepF.of_below (fp := []) H2.out.1) (fun k hk => by cases hk)).keep H3.out.2 (fun k hk => by rw [List.mem_singleton] at hk; omega)).keep hkf (fun k hk => by simp at hk; omega)).mono (show w.heap.size ≤ W0.heap.size by omega)
  have k1' := H1.out.2.2.1
  have k2' := H2.out.1
  have k3' := H3.out.2
  have kb := H0.out.1
  refine ⟨_, rfl, hit, H3.out.1.keep (u1 rb (by omega)), ?_, ?_, ?_, by omega, fun k hk hn => ?_, fun k hk => .inl hk⟩
  · rw [u3.1, k3'.os, k2'.os, k1'.os, kb.os]
  · rw [u3.2.1, k3'.tape, k2'.tape, k1'.tape, kb.tape]
  · rw [u3.2.2, k3'.output, k2'.output, k1'.output, kb.output]
  · rw [u1 k (by omega), k3'.blk k (by omega) hn, k2'.block k (by omega), k1'.blk k (by omega) hn, kb.block k hk]
set_option maxHeartbeats 4000000 in
theorem seq_ab (rb : Nat) (d : Int) (w : World) (h : RdW rb ⟨#[91, 97, 45, 98, 93, 123, 50, 125]⟩ false d w) : Calls Tryz.prog 126 #[.pointer (some ⟨rb, 0, none⟩)] w (ListP rb d w) := by
  obtain ⟨-, -, hl⟩ := h.cells
  have HR := Lib.hid h
  clear h
  have hne : ∀ k, w.heap.size ≤ k → k ∉ [rb] := fun k hk hm => by rw [List.mem_singleton] at hm; omega
  go_enter Tryz.func126, Tryz.ntmps126
  go_wp2_with fail
  refine calls_named fun W0 hW0 => ?_
  have hb0 : Below w.heap.size w W0 := by rw [hW0]; exact (Below.refl _ _).alloc (Nat.le_refl _) _
  have hY : W0.heap[w.heap.size]? = some (.cells #[.int .i64 0, .slice none 0 0, .slice none 0 0, .int .i64 0, .int .i64 0] 29 (0, 0)) := by rw [hW0]; exact heap_alloc_new w _
  have hz0 : W0.heap.size = w.heap.size + 1 := by rw [hW0]; simp
  have HT1 := Lib.hid (list_seq rb d W0 (HR.out.later hb0))
  have H0 := Lib.hid (And.intro hb0 hY)
  clear hW0 hb0 hY
  refine HT1.out.mono ?_
  rintro e w1 ⟨x, rfl, hit, hr1, hk1⟩
  obtain ⟨g1, v1, rfl, hg1, hg2, hg3⟩ := id hit
  have hz1 := hk1.size
  have hY3 := (hk1.blk w.heap.size (by omega) (hne _ (Nat.le_refl _))).trans H0.out.2
  obtain ⟨y0, y1, y2, y3, y4⟩ := cells5 hY3
  have fy : ∀ j, j < 5 → w1.frozen? ⟨w.heap.size, j, none⟩ = false := fun j _ => by simp [World.frozen?, hY3]
  have fy0 := fy 0 (by decide)
  have fy1 := fy 1 (by decide)
  have fy2 := fy 2 (by decide)
  have fy3 := fy 3 (by decide)
  have fy4 := fy 4 (by decide)
  have m3 : w.heap.size < w1.heap.size := by omega
  have H1 := Lib.hid (And.intro hit (And.intro hr1 hk1))
  clear hit hr1 hk1 hY3 fy hg1 hg2 hg3
  go_wp2_with fail
  refine post_named fun Wf hWf => ?_
  obtain ⟨u1, u2, u3, -⟩ := set5 hWf
  refine bodyPost_ret (v := .agg #[.int .i64 4, .slice none 0 0, .slice (some ⟨g1, 0, none⟩) 1 1, .int .i64 2, .int .i64 2]) (by rw [hWf]; simp [results, Tryz.results126, go_sem, y0, y1, y2, y3, y4, m3]; try rfl) rfl ?_
  have hkf : KeepF [w.heap.size] [] w1 Wf := ⟨u3.1, u3.2.1, u3.2.2, by omega, fun k _ hn => u1 k (fun e => hn (by simp [e])), fun k hk => by cases hk⟩
  have hit := (H1.out.1.keep hkf (fun k hk => by simp at hk; omega)).mono (show w.heap.size ≤ W0.heap.size by omega)
  have k1' := H1.out.2.2
  have kb := H0.out.1
  refine ⟨_, rfl, hit, H1.out.2.1.keep (u1 rb (by omega)), ?_, ?_, ?_, by omega, fun k hk hn => ?_, fun k hk => .inl hk⟩
  · rw [u3.1, k1'.os, kb.os]
  · rw [u3.2.1, k1'.tape, kb.tape]
  · rw [u3.2.2, k1'.output, kb.output]
  · rw [u1 k (by omega), k1'.blk k (by omega) hn, kb.block k hk]
set_option maxHeartbeats 4000000 in
theorem list_cho (rb : Nat) (d : Int) (w : World) (bx : Nat) (hbx : bx < w.heap.size) (hb : w.cell? ⟨bx, 0, none⟩ = some (.pointer (some ⟨rb, 0, none⟩))) (hbn : bx ≠ rb) (h : RdW rb ⟨#[91, 97, 45, 98, 93, 123, 50, 125]⟩ false d w) :
    Calls Tryz.prog 125 #[.pointer (some ⟨rb, 0, none⟩), .int .i64 3, .func (.func 126) #[.pointer (some ⟨rb, 0, none⟩)] #[], .func (.func 127) #[] #[.pointer (some ⟨bx, 0, none⟩)]] w (ListP rb d w) := by
  obtain ⟨-, -, hl⟩ := h.cells
  have HR := Lib.hid h
  have HBX := Lib.hid (And.intro hbx (And.intro hb hbn))
  clear h hb hbn hbx
  have hne : ∀ k, w.heap.size ≤ k → k ∉ [rb] := fun k hk hm => by rw [List.mem_singleton] at hm; omega
  go_enter Tryz.func125, Tryz.ntmps125
  go_wp2_with fail
  refine calls_named fun W0 hW0 => ?_
  have hb0 : Below w.heap.size w W0 := by rw [hW0]; exact (Below.refl _ _).alloc (Nat.le_refl _) _
  have hY : W0.heap[w.heap.size]? = some (.cells #[.int .i64 0, .slice none 0 0, .slice none 0 0, .int .i64 0, .int .i64 0] 29 (0, 0)) := by rw [hW0]; exact heap_alloc_new w _
  have hz0 : W0.heap.size = w.heap.size + 1 := by rw [hW0]; simp
  have HT1 := Lib.hid (seq_ab rb d W0 (HR.out.later hb0))
  have H0 := Lib.hid (And.intro hb0 hY)
  clear hW0 hb0 hY
  refine HT1.out.mono ?_
  rintro e w1 ⟨x, rfl, hit, hr1, hk1⟩
  obtain ⟨g1, v1, rfl, hg1, hg2, hg3⟩ := id hit
  have hz1 := hk1.size
  have hY1 := (hk1.blk w.heap.size (by omega) (hne _ (Nat.le_refl _))).trans H0.out.2
  have hbA : Below w1.heap.size w1 (w1.alloc (.cells #[.int .i64 4, .slice none 0 0, .slice (some ⟨g1, 0, none⟩) 1 1, .int .i64 2, .int .i64 2] 29)) := (Below.refl _ _).alloc (Nat.le_refl _) _
  obtain ⟨⟨c0, c1, c2⟩, -, lr1⟩ := hr1.cells
  have H1 := Lib.hid (And.intro hit (And.intro hr1 (And.intro hk1 hY1)))
  clear hit hr1 hk1 hY1 hbA hg1 hg2 hg3
  have lr2 : rb < w1.heap.size + 1 := by omega
  go_wp2_with fail
  refine wp_loop_rounds 1 ?_
  rw [rounds_succ]
  go_wp2_with fail
  refine calls_named fun W2 hW2 => ?_
  have hb2 : Below w1.heap.size w1 W2 := by rw [hW2]; exact ((Below.refl _ _).alloc (Nat.le_refl _) _).alloc (by simp) _
  have hK2 : W2.heap[w1.heap.size]? = some (.cells #[.int .i64 4, .slice none 0 0, .slice (some ⟨g1, 0, none⟩) 1 1, .int .i64 2, .int .i64 2] 29 (0, 0)) := by rw [hW2, old_alloc _ _ _ (by simp)]; exact heap_alloc_new w1 _
  have hL2 : W2.heap[w1.heap.size + 1]? = some (.cells #[.int .i64 3, .slice none 0 0, .slice (some ⟨w1.heap.size, 0, none⟩) 1 1, .int .i64 0, .int .i64 0] 29 (0, 0)) := by
    rw [hW2]; simpa using heap_alloc_new (w1.alloc (.cells #[.int .i64 4, .slice none 0 0, .slice (some ⟨g1, 0, none⟩) 1 1, .int .i64 2, .int .i64 2] 29)) (.cells #[.int .i64 3, .slice none 0 0, .slice (some ⟨w1.heap.size, 0, none⟩) 1 1, .int .i64 0, .int .i64 0] 29)
  have hz2 : W2.heap.size = w1.heap.size + 2 := by rw [hW2]; simp
  have HT2 := Lib.hid (choice1_any rb bx ⟨#[]⟩ false d W2 (H1.out.2.1.later hb2) ((hb2.cell (p := ⟨bx, 0, none⟩) (by have := HBX.out.1; show bx < w1.heap.size; omega)).trans ((World.cell?_of_block (a := ⟨bx, 0, none⟩) (H1.out.2.2.1.blk bx (by have := HBX.out.1; omega) (fun hm => HBX.out.2.2 (List.mem_singleton.1 hm)))).trans ((H0.out.1.cell (p := ⟨bx, 0, none⟩) HBX.out.1).trans HBX.out.2.1))) rfl rfl)
  have H2 := Lib.hid (And.intro hb2 (And.intro hK2 hL2))
  clear hW2 hb2 hK2 hL2 c0 c1 c2
  refine HT2.out.mono ?_
  rintro e w3 ⟨rfl, hr3, hk3⟩
  have hz3 := hk3.size
  have hK3 := (hk3.blk w1.heap.size (by omega) (hne _ (by omega))).trans H2.out.2.1
  have hL3 := (hk3.blk (w1.heap.size + 1) (by omega) (hne _ (by omega))).trans H2.out.2.2
  have hY3 := (hk3.blk w.heap.size (by omega) (hne _ (Nat.le_refl _))).trans ((H2.out.1.block w.heap.size (by omega)).trans H1.out.2.2.2)
  obtain ⟨k0, k1, k2, k3, k4⟩ := cells5 hK3
  obtain ⟨l0, l1, l2, l3, l4⟩ := cells5 hL3
  obtain ⟨y0, y1, y2, y3, y4⟩ := cells5 hY3
  have fy : ∀ j, j < 5 → w3.frozen? ⟨w.heap.size, j, none⟩ = false := fun j _ => by simp [World.frozen?, hY3]
  have fy0 := fy 0 (by decide)
  have fy1 := fy 1 (by decide)
  have fy2 := fy 2 (by decide)
  have fy3 := fy 3 (by decide)
  have fy4 := fy 4 (by decide)
  have m1 : w1.heap.size + 1 < w3.heap.size := by omega
  have m2 : w1.heap.size < w3.heap.size := by omega
  have m3 : w.heap.size < w3.heap.size := by omega
  have H3 := Lib.hid (And.intro hr3 hk3)
  clear hr3 hk3 hK3 hL3 hY3 fy
  go_wp2_with fail
  refine post_named fun Wf hWf => ?_
  obtain ⟨u1, u2, u3, -⟩ := set5 hWf
  refine bodyPost_ret (v := .agg #[.int .i64 4, .slice none 0 0, .slice (some ⟨g1, 0, none⟩) 1 1, .int .i64 2, .int .i64 2]) (by rw [hWf]; simp [results, Tryz.results125, go_sem, y0, y1, y2, y3, y4, m3]; try rfl) rfl ?_
  have hkf : KeepF [w.heap.size] [] w3 Wf := ⟨u3.1, u3.2.1, u3.2.2, by omega, fun k _ hn => u1 k (fun e => hn (by simp [e])), fun k hk => by cases hk⟩
  have hit := (((H1.out.1.keep (KeepF.of_below (fp := []) H2.out.1) (fun k hk => by cases hk)).keep H3.out.2 (fun k hk => by rw [List.mem_singleton] at hk; omega)).keep hkf (fun k hk => by simp at hk; omega)).mono (show w.heap.size ≤ W0.heap.size by omega)
  have k1' := H1.out.2.2.1
  have k2' := H2.out.1
  have k3' := H3.out.2
  have kb := H0.out.1
  refine ⟨_, rfl, hit, H3.out.1.keep (u1 rb (by omega)), ?_, ?_, ?_, by omega, fun k hk hn => ?_, fun k hk => .inl hk⟩
  · rw [u3.1, k3'.os, k2'.os, k1'.os, kb.os]
  · rw [u3.2.1, k3'.tape, k2'.tape, k1'.tape, kb.tape]
  · rw [u3.2.2, k3'.output, k2'.output, k1'.output, kb.output]
  · rw [u1 k (by omega), k3'.blk k (by omega) hn, k2'.block k (by omega), k1'.blk k (by omega) hn, kb.block k hk]
end Go.Proofs.YtjhmipidmpmlmaaGreatDoor
namespace Go.Proofs.YtjhmipidmpmlmaaGreatDoor
set_option linter.unusedVariables false
set_option linter.unusedSimpArgs false
set_option maxRecDepth 100000
open Go.RowKit
set_option maxHeartbeats 4000000 in
theorem choice_ab (rb : Nat) (w : World) (h : RdW rb ⟨#[91, 97, 45, 98, 93, 123, 50, 125]⟩ false 0 w) : Calls Tryz.prog 96 #[.pointer (some ⟨rb, 0, none⟩)] w (ListP rb 0 w) := by
  obtain ⟨⟨c0, c1, c2⟩, ⟨f0, f1, f2⟩, hl⟩ := h.cells
  have HR := Lib.hid h
  clear h
  have hne : ∀ k, w.heap.size ≤ k → k ∉ [rb] := fun k hk hm => by rw [List.mem_singleton] at hm; omega
  have l1 : rb < w.heap.size + 1 := by omega
  have l2 : rb < w.heap.size + 1 + 1 := by omega
  have n1 : ¬ w.heap.size = rb := by omega
  have n2 : ¬ rb = w.heap.size := by omega
  go_enter Tryz.func96, Tryz.ntmps96
  go_wp2_with fail
  refine calls_named fun W0 hW0 => ?_
  obtain ⟨Wd, hWd⟩ : ∃ W, W = w.setCell ⟨rb, 2, none⟩ (.int .i64 1) := ⟨_, rfl⟩
  rw [← hWd] at hW0
  have hzd : Wd.heap.size = w.heap.size := by rw [hWd]; simp [World.setCell]
  have hrd : RdW rb ⟨#[91, 97, 45, 98, 93, 123, 50, 125]⟩ false 1 Wd := by
    rw [hWd]
    have := set_row3 HR.out 2 (.int .i64 1)
    simpa [RdW] using this
  have hkd : KfR rb w Wd := by rw [hWd]; exact kfr_set
  have hbd : Below Wd.heap.size Wd W0 := by rw [hW0]; exact ((Below.refl _ _).alloc (Nat.le_refl _) _).alloc (by simp) _
  have hz0 : W0.heap.size = w.heap.size + 2 := by rw [hW0]; simp [hzd]
  have hX : W0.heap[w.heap.size]? = some (.cells #[.pointer (some ⟨rb, 0, none⟩)] 131 (0, 0)) := by
    rw [hW0, old_alloc _ _ _ (by simp [hzd])]
    have := heap_alloc_new Wd (.cells #[.pointer (some ⟨rb, 0, none⟩)] 131)
    rwa [hzd] at this
  have hY : W0.heap[w.heap.size + 1]? = some (.cells #[.int .i64 0, .slice none 0 0, .slice none 0 0, .int .i64 0, .int .i64 0] 29 (0, 0)) := by
    rw [hW0]
    have := heap_alloc_new (Wd.alloc (.cells #[.pointer (some ⟨rb, 0, none⟩)] 131)) (.cells #[.int .i64 0, .slice none 0 0, .slice none 0 0, .int .i64 0, .int .i64 0] 29)
    simpa [hzd] using this
  have HT1 := Lib.hid (list_cho rb 1 W0 w.heap.size (by omega) (by rw [cell_of_row _ _ _ _ _ _ hX]; rfl) (by omega) (hrd.later hbd))
  have H0 := Lib.hid (And.intro hkd (And.intro hbd (And.intro hX hY)))
  clear hW0 hWd hrd hkd hbd hX hY c0 c1 c2 f0 f1 f2
  refine HT1.out.mono ?_
  rintro e w1 ⟨x, rfl, hit, hr1, hk1⟩
  obtain ⟨g1, v1, rfl, hg1, hg2, hg3⟩ := id hit
  have hz1 := hk1.size
  have hX1 := (hk1.blk w.heap.size (by omega) (hne _ (Nat.le_refl _))).trans H0.out.2.2.1
  have hY1 := (hk1.blk (w.heap.size + 1) (by omega) (hne _ (by omega))).trans H0.out.2.2.2
  obtain ⟨⟨c0, c1, c2⟩, ⟨f0, f1, f2⟩, lr1⟩ := hr1.cells
  have x0 : w1.cell? ⟨w.heap.size, 0, none⟩ = some (.pointer (some ⟨rb, 0, none⟩)) := by rw [cell_of_row _ _ _ _ _ _ hX1]; rfl
  obtain ⟨y0, y1, y2, y3, y4⟩ := cells5 hY1
  have fy : ∀ j, j < 5 → w1.frozen? ⟨w.heap.size + 1, j, none⟩ = false := fun j _ => by simp [World.frozen?, hY1]
  have fy0 := fy 0 (by decide)
  have fy1 := fy 1 (by decide)
  have fy2 := fy 2 (by decide)
  have fy3 := fy 3 (by decide)
  have fy4 := fy 4 (by decide)
  have m1 : w.heap.size < w1.heap.size := by omega
  have m2 : w.heap.size + 1 < w1.heap.size := by omega
  have m3 : w.heap.size < w1.heap.size + 1 := by omega
  have m4 : w.heap.size + 1 < w1.heap.size + 1 := by omega
  have m5 : rb < w1.heap.size + 1 := by omega
  have n3 : ¬ w.heap.size + 1 = rb := by omega
  have n4 : ¬ rb = w.heap.size + 1 := by omega
  have n5 : ¬ w1.heap.size = rb := by omega
  have n6 : ¬ w1.heap.size = w.heap.size + 1 := by omega
  have H1 := Lib.hid (And.intro hit (And.intro hr1 hk1))
  clear hit hr1 hk1 hX1 hY1 fy hg1 hg2 hg3
  go_wp2_with fail
  refine post_named fun Wf hWf => ?_
  obtain ⟨Wr, hWr⟩ : ∃ W, W = w1.setCell ⟨rb, 2, none⟩ (.int .i64 0) := ⟨_, rfl⟩
  rw [← hWr] at hWf
  obtain ⟨W5, hW5⟩ : ∃ W, W = ((((Wr.setCell ⟨w.heap.size + 1, 0, none⟩ (.int .i64 4)).setCell ⟨w.heap.size + 1, 1, none⟩ (.slice none 0 0)).setCell ⟨w.heap.size + 1, 2, none⟩ (.slice (some ⟨g1, 0, none⟩) 1 1)).setCell ⟨w.heap.size + 1, 3, none⟩ (.int .i64 2)).setCell ⟨w.heap.size + 1, 4, none⟩ (.int .i64 2) := ⟨_, rfl⟩
  rw [← hW5] at hWf
  obtain ⟨u1, u2, u3, u4⟩ := set5 hW5
  have hzr : Wr.heap.size = w1.heap.size := by rw [hWr]; simp [World.setCell]
  have hsr : ∀ k, k ≠ rb → Wr.heap[k]? = w1.heap[k]? := fun k hk => by rw [hWr]; exact Below.heap_setCell _ _ _ _ hk
  have hb5 : Below W5.heap.size W5 Wf := by rw [hWf]; exact (Below.refl _ _).alloc (Nat.le_refl _) _
  have hrf : RdW rb ⟨#[]⟩ false 0 Wf := by
    have h1 : RdW rb ⟨#[]⟩ false 0 Wr := by
      rw [hWr]
      have := set_row3 H1.out.2.1 2 (.int .i64 0)
      simpa [RdW] using this
    exact (h1.keep (u1 rb (by omega))).later hb5
  have hY1 : w1.heap[w.heap.size + 1]? = some (.cells #[.int .i64 0, .slice none 0 0, .slice none 0 0, .int .i64 0, .int .i64 0] 29 (0, 0)) := (H1.out.2.2.blk (w.heap.size + 1) (by omega) (hne _ (by omega))).trans H0.out.2.2.2
  have hYf : Wf.heap[w.heap.size + 1]? = some (.cells #[.int .i64 4, .slice none 0 0, .slice (some ⟨g1, 0, none⟩) 1 1, .int .i64 2, .int .i64 2] 29 (0, 0)) := (hb5.block _ (by omega)).trans (u4 ((hsr (w.heap.size + 1) (by omega)).trans hY1))
  have hzf := hb5.size
  have l9 : w.heap.size + 1 < Wf.heap.size := by omega
  obtain ⟨q0, q1, q2, q3, q4⟩ := cells5 hYf
  refine bodyPost_ret (v := .agg #[.int .i64 4, .slice none 0 0, .slice (some ⟨g1, 0, none⟩) 1 1, .int .i64 2, .int .i64 2]) (by simp [results, Tryz.results96, go_sem, q0, q1, q2, q3, q4, l9]; try rfl) rfl ?_
  have hkf : KeepF [rb, w.heap.size + 1] [] w1 Wf := by
    have hos : Wr.os = w1.os ∧ Wr.tape = w1.tape ∧ Wr.output = w1.output := by rw [hWr]; exact ⟨rfl, rfl, rfl⟩
    exact ⟨hb5.os.trans (u3.1.trans hos.1), hb5.tape.trans (u3.2.1.trans hos.2.1), hb5.output.trans (u3.2.2.trans hos.2.2), by omega, fun k hk hn => (hb5.block k (by omega)).trans ((u1 k (fun e => hn (by simp [e]))).trans (hsr k (fun e => hn (by simp [e])))), fun k hk => by cases hk⟩
  have hit := (H1.out.1.keep hkf (fun k hk => by simp at hk; omega)).mono (show w.heap.size ≤ W0.heap.size by omega)
  have k1' := H1.out.2.2
  have kd := H0.out.1
  have kb := H0.out.2.1
  refine ⟨_, rfl, hit, hrf, ?_, ?_, ?_, by omega, fun k hk hn => ?_, fun k hk => .inl hk⟩
  · rw [hkf.os, k1'.os, kb.os, kd.os]
  · rw [hkf.tape, k1'.tape, kb.tape, kd.tape]
  · rw [hkf.output, k1'.output, kb.output, kd.output]
  · rw [hkf.blk k (by omega) (fun hm => by simp at hm; rcases hm with hm | hm; exact hn (by simp [hm]); omega), k1'.blk k (by omega) hn, kb.block k (by omega), kd.blk k hk hn]
end Go.Proofs.YtjhmipidmpmlmaaGreatDoor
namespace Go.Proofs.YtjhmipidmpmlmaaGreatDoor
set_option linter.unusedVariables false
set_option linter.unusedSimpArgs false
set_option maxRecDepth 100000
open Go.RowKit
theorem sign_at (c : Nat) (t : ByteArray) (w : World) (h1 : 33 ≤ c) (h2 : c ≤ 126) (hib : Lib.indexByte [92, 91, 93, 40, 41, 123, 125, 124, 45] c.toUInt8 = -1) (hcv : ∀ w, (convert 21 9 (.int .i32 (c : Int))).run Tryz.prog w = .ok (.string t) w) :
    Calls Tryz.prog 158 #[.int .u8 (c : Int)] w fun e w' => e = .returned (.string t) ∧ w' = w := by
  have HI := Lib.hid (Tryz.strings_IndexByte ⟨#[92, 91, 93, 40, 41, 123, 125, 124, 45]⟩ (c : Int) w)
  have d1 : decide ((c : Int) < 33) = false := decide_eq_false (by omega)
  have d2 : decide ((126 : Int) < (c : Int)) = false := decide_eq_false (by omega)
  have d1' : decide (c < 33) = false := decide_eq_false (by omega)
  have d2' : decide (126 < c) = false := decide_eq_false (by omega)
  go_enter Tryz.func158, Tryz.ntmps158
  go_wp2_with fail
  refine HI.out.mono ?_
  rintro e w2 ⟨rfl, hw2⟩
  subst hw2
  have hib' : Lib.indexByte [92, 91, 93, 40, 41, 123, 125, 124, 45] ((c : Int).toNat.toUInt8) = -1 := hib
  rw [show Lib.indexByte (⟨#[92, 91, 93, 40, 41, 123, 125, 124, 45]⟩ : ByteArray).data.toList ((c : Int).toNat.toUInt8) = -1 from hib']
  have hd : decide ((0 : Int) ≤ -1) = false := by decide
  go_wp2_with fail
  go_ret
  exact ⟨rfl, rfl⟩
theorem bufKeep {b : Nat} {l' : List UInt8} {fp fp' : List Nat} {w w' : World} (h : BuK b l' fp' w') (hk : KeepF fp fp' w w') {k : Nat} (hn : k ∉ fp) (hl : k < w.heap.size) : k ∉ fp' ∧ w'.heap[k]? = w.heap[k]? :=
  ⟨fun hm => (hk.new k hm).elim hn (fun h => by omega), hk.blk k hl hn⟩
set_option maxHeartbeats 4000000 in
theorem wset_ab (b : Nat) (l : List UInt8) (fp : List Nat) (q c : Nat) (w : World) (h : BuK b l fp w) (hl : l.length ≤ 1000000) (hq : w.cell? ⟨q, 0, none⟩ = some (.int .u8 97) ∧ w.cell? ⟨q, 1, none⟩ = some (.int .u8 98)) (hqn : q ∉ fp) (hqs : q < w.heap.size) :
    Calls Tryz.prog 145 #[.pointer (some ⟨b, 0, none⟩), .slice (some ⟨q, 0, none⟩) 1 c] w fun e w' => e = .returned (.tuple #[]) ∧ ∃ fp', BuK b (l ++ [91, 97, 45, 98, 93]) fp' w' ∧ KeepF fp fp' w w' := by
  have S97 := Lib.hid (fun w => sign_at 97 ⟨#[97]⟩ w (by decide) (by decide) rfl (fun _ => by kernel_rfl))
  have S98 := Lib.hid (fun w => sign_at 98 ⟨#[98]⟩ w (by decide) (by decide) rfl (fun _ => by kernel_rfl))
  obtain ⟨q0, q1⟩ := hq
  have HB := Lib.hid h
  have HQ := Lib.hid (And.intro q0 (And.intro q1 (And.intro hqn hqs)))
  have H1 := Lib.hid (byte_K b l fp 91 91 rfl w h (by omega))
  clear h hqn
  go_enter Tryz.func145, Tryz.ntmps145
  go_wp2_with fail
  go_quiet (fail)
  go_wp2_with fail
  refine calls_named fun W0 hW0 => ?_
  have hb0 : Below w.heap.size w W0 := by rw [hW0]; exact below_drewN (Below.refl _ _) _
  have H1 := Lib.hid (byte_K b l fp 91 91 rfl W0 (HB.out.below hb0) (by omega))
  have HB0 := Lib.hid hb0
  clear hW0 hb0 q0 q1 hqs
  refine H1.out.mono ?_
  rintro e w1 ⟨rfl, fp1, hk1, kf1⟩
  have hqs0 : q < W0.heap.size := by have := HB0.out.size; have := HQ.out.2.2.2; omega
  obtain ⟨n1, e1⟩ := bufKeep hk1 kf1 HQ.out.2.2.1 hqs0
  have q0 := (World.cell?_of_block (a := ⟨q, 0, none⟩) e1).trans ((HB0.out.cell (p := ⟨q, 0, none⟩) HQ.out.2.2.2).trans HQ.out.1)
  have q1 := (World.cell?_of_block (a := ⟨q, 1, none⟩) e1).trans ((HB0.out.cell (p := ⟨q, 1, none⟩) HQ.out.2.2.2).trans HQ.out.2.1)
  have hz1 := kf1.size
  have ql : q < w1.heap.size := by omega
  have H2 := Lib.hid (And.intro hk1 kf1)
  clear hk1 kf1 n1 e1
  go_wp2_with fail
  refine wp_loop_rounds 2 ?_
  rw [rounds_succ]
  go_wp2_with fail
  refine calls_named fun W1 hW1 => ?_
  have hbW : Below w1.heap.size w1 W1 := by rw [hW1]; exact (Below.refl _ _).alloc (Nat.le_refl _) _
  have hX1 : W1.heap[w1.heap.size]? = some (.cells #[.int .u8 97, .int .u8 98] 56 (0, 0)) := by rw [hW1]; exact heap_alloc_new w1 _
  have hzW : W1.heap.size = w1.heap.size + 1 := by rw [hW1]; simp
  clear hW1 q0 q1
  refine (S97.out W1).mono ?_
  rintro e w2 ⟨rfl, hw2⟩
  rw [hw2]
  clear hw2
  have hbk1 := H2.out.1.below hbW
  have H3 := Lib.hid (str_K b (l ++ [91]) fp1 ⟨#[97]⟩ W1 hbk1 (by rw [List.length_append, List.length_singleton]; omega) (by decide))
  have hnx : w1.heap.size ∉ fp1 := fun hm => by have := H2.out.1.lt _ hm; omega
  have HW := Lib.hid (And.intro hbW (And.intro hX1 hnx))
  obtain ⟨x0, x1⟩ : W1.cell? ⟨w1.heap.size, 0, none⟩ = some (.int .u8 97) ∧ W1.cell? ⟨w1.heap.size, 1, none⟩ = some (.int .u8 98) := by constructor <;> (rw [cell_of_row _ _ _ _ _ _ hX1]; rfl)
  clear hbW hX1 hbk1 hnx
  go_wp2_with fail
  refine H3.out.mono ?_
  rintro e w3 ⟨rfl, fp3, hk3, kf3⟩
  obtain ⟨n3, e3⟩ := bufKeep hk3 kf3 HW.out.2.2 (by omega)
  have hX3 := e3.trans HW.out.2.1
  have hz3 := kf3.size
  clear x0 x1
  obtain ⟨x0, x1⟩ : w3.cell? ⟨w1.heap.size, 0, none⟩ = some (.int .u8 97) ∧ w3.cell? ⟨w1.heap.size, 1, none⟩ = some (.int .u8 98) := by constructor <;> (rw [cell_of_row _ _ _ _ _ _ hX3]; rfl)
  have xl : w1.heap.size < w3.heap.size := by omega
  have H4 := Lib.hid (And.intro hk3 ((H2.out.2.trans (KeepF.of_below HW.out.1)).trans kf3))
  clear hk3 kf3 n3 e3 hX3
  go_wp2_with fail
  refine (S98.out w3).mono ?_
  rintro e w4 ⟨rfl, hw4⟩
  rw [hw4]
  clear hw4
  go_wp2_with fail
  have H5 := Lib.hid (str_K b (l ++ [91] ++ bl ⟨#[97]⟩) fp3 (({ data := #[45] } : ByteArray) ++ { data := #[98] }) w3 H4.out.1 (by rw [List.length_append, List.length_append, List.length_singleton, show (bl ⟨#[97]⟩).length = 1 from rfl]; omega) (by decide))
  refine H5.out.mono ?_
  rintro e w5 ⟨rfl, fp5, hk5, kf5⟩
  have hz5 := kf5.size
  have H6 := Lib.hid (And.intro hk5 (H4.out.2.trans kf5))
  clear hk5 kf5 x0 x1
  go_wp2_with fail
  rw [rounds_succ]
  go_wp2_with fail
  have H7 := Lib.hid (byte_K b _ fp5 93 93 rfl w5 H6.out.1 (by rw [List.length_append, List.length_append, List.length_append, List.length_singleton, show (bl ⟨#[97]⟩).length = 1 from rfl, show (bl (({ data := #[45] } : ByteArray) ++ { data := #[98] })).length = 2 from rfl]; omega))
  refine H7.out.mono ?_
  rintro e w7 ⟨rfl, fp7, hk7, kf7⟩
  have H8 := Lib.hid (And.intro hk7 (H6.out.2.trans kf7))
  clear hk7 kf7
  go_wp2_with fail
  go_end0
  refine ⟨rfl, fp7, ?_, (KeepF.of_below HB0.out).trans H8.out.2⟩
  have := H8.out.1
  rw [show l ++ [91] ++ bl ⟨#[97]⟩ ++ bl (({ data := #[45] } : ByteArray) ++ { data := #[98] }) ++ [93] = l ++ [91, 97, 45, 98, 93] by
    rw [List.append_assoc, List.append_assoc, List.append_assoc]; rfl] at this
  exact this
end Go.Proofs.YtjhmipidmpmlmaaGreatDoor
namespace Go.Proofs.YtjhmipidmpmlmaaGreatDoor
set_option linter.unusedVariables false
set_option linter.unusedSimpArgs false
set_option maxRecDepth 100000
open Go.RowKit
def factW2 (b N g1 q cp : Nat) : Nat → Nat → Value → World → Prop
  | c, 0, x, w => x = .pointer (some ⟨b, 0, none⟩)
  | c, 1, x, w => x = .pointer (some ⟨N, 2, none⟩)
  | c, 2, x, w => x = .slice (some ⟨g1, 0, none⟩) 1 1
  | c, 3, x, w => x = .pointer (some ⟨g1, 0, none⟩)
  | c, 4, x, w => x = .agg #[.int .i64 1, .slice (some ⟨q, 0, none⟩) 1 cp, .slice none 0 0, .int .i64 0, .int .i64 0]
  | c, 5, x, w => x = .pointer (some ⟨N, 2, none⟩)
  | c, 6, x, w => x = .slice (some ⟨g1, 0, none⟩) 1 1
  | c, 7, x, w => x = .pointer (some ⟨g1, 0, none⟩)
  | c, 8, x, w => x = .pointer (some ⟨g1, 0, none⟩)
  | c, 9, x, w => x = .int .i64 1
  | c, 10, x, w => x = .bool false
  | _, _, _, _ => True
def setV (q c : Nat) : Value := .agg #[.int .i64 1, .slice (some ⟨q, 0, none⟩) 1 c, .slice none 0 0, .int .i64 0, .int .i64 0]
set_option maxHeartbeats 4000000 in
theorem write_set_ab (b : Nat) (l : List UInt8) (fp : List Nat) (q c : Nat) (w : World) (h : BuK b l fp w) (hl : l.length ≤ 1000000) (hq : w.cell? ⟨q, 0, none⟩ = some (.int .u8 97) ∧ w.cell? ⟨q, 1, none⟩ = some (.int .u8 98)) (hqn : q ∉ fp) (hqs : q < w.heap.size) :
    Calls Tryz.prog 129 #[.pointer (some ⟨b, 0, none⟩), .agg #[.int .i64 1, .slice (some ⟨q, 0, none⟩) 1 c, .slice none 0 0, .int .i64 0, .int .i64 0]] w fun e w' => e = .returned (.tuple #[]) ∧ ∃ fp', BuK b (l ++ [91, 97, 45, 98, 93]) fp' w' ∧ KeepF fp fp' w w' := by
  have HB := Lib.hid h
  have HQ := Lib.hid (And.intro hq (And.intro hqn hqs))
  clear h hq hqn hqs
  go_enter Tryz.func129, Tryz.ntmps129
  go_wp2_with fail
  refine calls_named fun W0 hW0 => ?_
  have hb0 : Below w.heap.size w W0 := by rw [hW0]; exact (Below.refl _ _).alloc (Nat.le_refl _) _
  have H1 := Lib.hid (wset_ab b l fp q c W0 (HB.out.below hb0) hl ⟨(hb0.cell (p := ⟨q, 0, none⟩) HQ.out.2.2).trans HQ.out.1.1, (hb0.cell (p := ⟨q, 1, none⟩) HQ.out.2.2).trans HQ.out.1.2⟩ HQ.out.2.1 (Nat.lt_of_lt_of_le HQ.out.2.2 hb0.size))
  have HB0 := Lib.hid hb0
  clear hW0 hb0
  refine H1.out.mono ?_
  rintro e w1 ⟨rfl, fp1, hk1, kf1⟩
  have H2 := Lib.hid (And.intro hk1 kf1)
  clear hk1 kf1
  go_wp2_with fail
  go_end0
  exact ⟨rfl, fp1, H2.out.1, (KeepF.of_below HB0.out).trans H2.out.2⟩
set_option maxHeartbeats 4000000 in
theorem kid_ab (b : Nat) (l : List UInt8) (fp : List Nat) (q c : Nat) (w : World) (h : BuK b l fp w) (hl : l.length ≤ 1000000) (hq : w.cell? ⟨q, 0, none⟩ = some (.int .u8 97) ∧ w.cell? ⟨q, 1, none⟩ = some (.int .u8 98)) (hqn : q ∉ fp) (hqs : q < w.heap.size) :
    Calls Tryz.prog 146 #[.pointer (some ⟨b, 0, none⟩), .agg #[.int .i64 1, .slice (some ⟨q, 0, none⟩) 1 c, .slice none 0 0, .int .i64 0, .int .i64 0], .bool false] w fun e w' => e = .returned (.tuple #[]) ∧ ∃ fp', BuK b (l ++ [91, 97, 45, 98, 93]) fp' w' ∧ KeepF fp fp' w w' := by
  have HB := Lib.hid h
  have HQ := Lib.hid (And.intro hq (And.intro hqn hqs))
  clear h hq hqn hqs
  go_enter Tryz.func146, Tryz.ntmps146
  go_wp2_with fail
  refine calls_named fun W0 hW0 => ?_
  have hb0 : Below w.heap.size w W0 := by rw [hW0]; exact (Below.refl _ _).alloc (Nat.le_refl _) _
  have H1 := Lib.hid (write_set_ab b l fp q c W0 (HB.out.below hb0) hl ⟨(hb0.cell (p := ⟨q, 0, none⟩) HQ.out.2.2).trans HQ.out.1.1, (hb0.cell (p := ⟨q, 1, none⟩) HQ.out.2.2).trans HQ.out.1.2⟩ HQ.out.2.1 (Nat.lt_of_lt_of_le HQ.out.2.2 hb0.size))
  have HB0 := Lib.hid hb0
  clear hW0 hb0
  refine H1.out.mono ?_
  rintro e w1 ⟨rfl, fp1, hk1, kf1⟩
  have H2 := Lib.hid (And.intro hk1 kf1)
  clear hk1 kf1
  go_wp2_with fail
  go_end0
  exact ⟨rfl, fp1, H2.out.1, (KeepF.of_below HB0.out).trans H2.out.2⟩
set_option maxHeartbeats 4000000 in
theorem write_rep_ab (b : Nat) (l : List UInt8) (fp : List Nat) (g1 q cp : Nat) (w : World) (h : BuK b l fp w) (hl : l.length ≤ 100000) (hq : w.cell? ⟨q, 0, none⟩ = some (.int .u8 97) ∧ w.cell? ⟨q, 1, none⟩ = some (.int .u8 98)) (hqn : q ∉ fp) (hqs : q < w.heap.size)
    (hg : w.heap[g1]? = some (.cells #[.int .i64 1, .slice (some ⟨q, 0, none⟩) 1 cp, .slice none 0 0, .int .i64 0, .int .i64 0] 29 (0, 0))) (hgn : g1 ∉ fp) (hvr : VrOK w) (hlo : ∀ k ∈ fp, nG ≤ k) :
    Calls Tryz.prog 129 #[.pointer (some ⟨b, 0, none⟩), .agg #[.int .i64 4, .slice none 0 0, .slice (some ⟨g1, 0, none⟩) 1 1, .int .i64 2, .int .i64 2]] w fun e w' => e = .returned (.tuple #[]) ∧ ∃ fp', BuK b (l ++ [91, 97, 45, 98, 93, 123, 50, 125]) fp' w' ∧ KeepF fp fp' w w' := by
  have lgw : g1 < w.heap.size := (Array.getElem?_eq_some_iff.1 hg).1
  have HB := Lib.hid h
  have HQ := Lib.hid (And.intro hq (And.intro hqn hqs))
  have HG := Lib.hid (And.intro hg hgn)
  have HV := Lib.hid (And.intro hvr hlo)
  clear h hq hqn hqs hg hgn hvr hlo
  go_enter Tryz.func129, Tryz.ntmps129
  go_wp2_with fail
  refine wp_named fun W hW => ?_
  have hbW : Below w.heap.size w W := by rw [hW]; exact (Below.refl _ _).alloc (Nat.le_refl _) _
  have hN : W.heap[w.heap.size]? = some (.cells #[.int .i64 4, .slice none 0 0, .slice (some ⟨g1, 0, none⟩) 1 1, .int .i64 2, .int .i64 2] 29 (0, 0)) := by rw [hW]; exact heap_alloc_new w _
  have hgW := (hbW.block g1 lgw).trans HG.out.1
  obtain ⟨b0, b1, b2, b3, b4⟩ := cells5 hN
  obtain ⟨k0, k1, k2, k3, k4⟩ := cells5 hgW
  have hzW := hbW.size
  have lb : w.heap.size < W.heap.size := (Array.getElem?_eq_some_iff.1 hN).1
  have lg : g1 < W.heap.size := by omega
  have hS0 : Below W.heap.size W W.drew := (Below.refl _ _).drew
  have HW := Lib.hid (And.intro hbW hN)
  clear hW hbW hN hgW
  refine wp_region_chain 11 [] (factW2 b w.heap.size g1 q cp) (fun _ w' => Below W.heap.size W w') (by kernel_rfl) (by kernel_rfl) (by kernel_rfl) (by kernel_rfl) (by kernel_rfl) (by kernel_rfl) (by decide) hS0 ?_ ?_
  · simp only [List.take_succ_cons, List.take_zero]
    refine HSteps.pure (by decide) ?_ (HSteps.pure (by decide) ?_ (HSteps.pure (by decide) ?_ (HSteps.pure (by decide) ?_ (HSteps.pure (by decide) ?_ (HSteps.pure (by decide) ?_ (HSteps.pure (by decide) ?_ (HSteps.pure (by decide) ?_ (HSteps.pure (by decide) ?_ (HSteps.pure (by decide) ?_ (HSteps.pure (by decide) ?_ (HSteps.nil)))))))))))
    · intro v wz c hlo hS hE K hK
      simp only [putAll, Act.put, List.setIfInBounds_toArray, List.set_cons_zero, List.set_cons_succ, Nat.zero_add, Nat.reduceAdd, List.take_succ_cons, List.take_zero] at hK ⊢
      have HX := Lib.hid hS
      clear hS hE hlo
      go_wp2_with fail
      exact hK.out _ rfl
    · intro v wz c hlo hS hE K hK
      simp only [putAll, Act.put, List.setIfInBounds_toArray, List.set_cons_zero, List.set_cons_succ, Nat.zero_add, Nat.reduceAdd, List.take_succ_cons, List.take_zero] at hK ⊢
      have HX := Lib.hid hS
      clear hS hE hlo
      go_wp2_with fail
      exact hK.out _ rfl
    · intro v wz c hlo hS hE K hK
      simp only [putAll, Act.put, List.setIfInBounds_toArray, List.set_cons_zero, List.set_cons_succ, Nat.zero_add, Nat.reduceAdd, List.take_succ_cons, List.take_zero] at hK ⊢
      have e1 : v 1 = _ := hE.1 rfl
      rw [e1] at hK ⊢
      have b2z := (hS.cell (p := ⟨w.heap.size, 2, none⟩) lb).trans b2
      have lbz : w.heap.size < wz.heap.size := by have := hS.size; omega
      have HX := Lib.hid hS
      clear hS hE hlo
      go_wp2_with fail
      exact hK.out _ rfl
    · intro v wz c hlo hS hE K hK
      simp only [putAll, Act.put, List.setIfInBounds_toArray, List.set_cons_zero, List.set_cons_succ, Nat.zero_add, Nat.reduceAdd, List.take_succ_cons, List.take_zero] at hK ⊢
      have e2 : v 2 = _ := hE.1 rfl
      rw [e2] at hK ⊢
      have HX := Lib.hid hS
      clear hS hE hlo
      go_wp2_with fail
      exact hK.out _ rfl
    · intro v wz c hlo hS hE K hK
      simp only [putAll, Act.put, List.setIfInBounds_toArray, List.set_cons_zero, List.set_cons_succ, Nat.zero_add, Nat.reduceAdd, List.take_succ_cons, List.take_zero] at hK ⊢
      have e3 : v 3 = _ := hE.1 rfl
      rw [e3] at hK ⊢
      have y0 := (hS.cell (p := ⟨g1, 0, none⟩) lg).trans k0
      have y1 := (hS.cell (p := ⟨g1, 1, none⟩) lg).trans k1
      have y2 := (hS.cell (p := ⟨g1, 2, none⟩) lg).trans k2
      have y3 := (hS.cell (p := ⟨g1, 3, none⟩) lg).trans k3
      have y4 := (hS.cell (p := ⟨g1, 4, none⟩) lg).trans k4
      have lgz : g1 < wz.heap.size := by have := hS.size; omega
      have HX := Lib.hid hS
      clear hS hE hlo
      go_wp2_with fail
      exact hK.out _ rfl
    · intro v wz c hlo hS hE K hK
      simp only [putAll, Act.put, List.setIfInBounds_toArray, List.set_cons_zero, List.set_cons_succ, Nat.zero_add, Nat.reduceAdd, List.take_succ_cons, List.take_zero] at hK ⊢
      have HX := Lib.hid hS
      clear hS hE hlo
      go_wp2_with fail
      exact hK.out _ rfl
    · intro v wz c hlo hS hE K hK
      simp only [putAll, Act.put, List.setIfInBounds_toArray, List.set_cons_zero, List.set_cons_succ, Nat.zero_add, Nat.reduceAdd, List.take_succ_cons, List.take_zero] at hK ⊢
      have e5 : v 5 = _ := hE.1 rfl
      rw [e5] at hK ⊢
      have b2z := (hS.cell (p := ⟨w.heap.size, 2, none⟩) lb).trans b2
      have lbz : w.heap.size < wz.heap.size := by have := hS.size; omega
      have HX := Lib.hid hS
      clear hS hE hlo
      go_wp2_with fail
      exact hK.out _ rfl
    · intro v wz c hlo hS hE K hK
      simp only [putAll, Act.put, List.setIfInBounds_toArray, List.set_cons_zero, List.set_cons_succ, Nat.zero_add, Nat.reduceAdd, List.take_succ_cons, List.take_zero] at hK ⊢
      have e6 : v 6 = _ := hE.1 rfl
      rw [e6] at hK ⊢
      have HX := Lib.hid hS
      clear hS hE hlo
      go_wp2_with fail
      exact hK.out _ rfl
    · intro v wz c hlo hS hE K hK
      simp only [putAll, Act.put, List.setIfInBounds_toArray, List.set_cons_zero, List.set_cons_succ, Nat.zero_add, Nat.reduceAdd, List.take_succ_cons, List.take_zero] at hK ⊢
      have e7 : v 7 = _ := hE.1 rfl
      rw [e7] at hK ⊢
      have HX := Lib.hid hS
      clear hS hE hlo
      go_wp2_with fail
      exact hK.out _ rfl
    · intro v wz c hlo hS hE K hK
      simp only [putAll, Act.put, List.setIfInBounds_toArray, List.set_cons_zero, List.set_cons_succ, Nat.zero_add, Nat.reduceAdd, List.take_succ_cons, List.take_zero] at hK ⊢
      have e8 : v 8 = _ := hE.1 rfl
      rw [e8] at hK ⊢
      have y0 := (hS.cell (p := ⟨g1, 0, none⟩) lg).trans k0
      have lgz : g1 < wz.heap.size := by have := hS.size; omega
      have HX := Lib.hid hS
      clear hS hE hlo
      go_wp2_with fail
      exact hK.out _ rfl
    · intro v wz c hlo hS hE K hK
      simp only [putAll, Act.put, List.setIfInBounds_toArray, List.set_cons_zero, List.set_cons_succ, Nat.zero_add, Nat.reduceAdd, List.take_succ_cons, List.take_zero] at hK ⊢
      have e9 : v 9 = _ := hE.1 rfl
      rw [e9] at hK ⊢
      have HX := Lib.hid hS
      clear hS hE hlo
      go_wp2_with fail
      exact hK.out _ rfl
  · intro v wz hS hF
    have e0 : v 0 = _ := hF 0 (by decide)
    have e1 : v 1 = _ := hF 1 (by decide)
    have e2 : v 2 = _ := hF 2 (by decide)
    have e3 : v 3 = _ := hF 3 (by decide)
    have e4 : v 4 = _ := hF 4 (by decide)
    have e5 : v 5 = _ := hF 5 (by decide)
    have e6 : v 6 = _ := hF 6 (by decide)
    have e7 : v 7 = _ := hF 7 (by decide)
    have e8 : v 8 = _ := hF 8 (by decide)
    have e9 : v 9 = _ := hF 9 (by decide)
    have e10 : v 10 = _ := hF 10 (by decide)
    simp only [putAll, Act.put, List.setIfInBounds_toArray, List.set_cons_zero, List.set_cons_succ, Nat.zero_add, Nat.reduceAdd, List.take_succ_cons, List.take_zero, List.drop_succ_cons, List.drop_zero, e0, e1, e2, e3, e4, e5, e6, e7, e8, e9, e10]
    clear hF e0 e1 e2 e3 e4 e5 e6 e7 e8 e9 e10
    have hS2 := HW.out.1.trans (hS.mono hzW)
    have H1 := Lib.hid (kid_ab b l fp q cp wz (HB.out.below hS2) (by omega) ⟨(hS2.cell (p := ⟨q, 0, none⟩) HQ.out.2.2).trans HQ.out.1.1, (hS2.cell (p := ⟨q, 1, none⟩) HQ.out.2.2).trans HQ.out.1.2⟩ HQ.out.2.1 (Nat.lt_of_lt_of_le HQ.out.2.2 hS2.size))
    have HS2 := Lib.hid (And.intro hS2 hS)
    clear hS hS2
    go_wp2_with fail
    refine H1.out.mono ?_
    rintro e w1 ⟨rfl, fp1, hk1, kf1⟩
    have hnN : w.heap.size ∉ fp := fun hm => by have := HB.out.lt _ hm; omega
    have hzz := HS2.out.2.size
    obtain ⟨n1, e1⟩ := bufKeep hk1 kf1 hnN (show w.heap.size < wz.heap.size by omega)
    have hN1 := e1.trans ((HS2.out.2.block w.heap.size lb).trans HW.out.2)
    clear b0 b1 b2 b3 b4
    obtain ⟨b0, b1, b2, b3, b4⟩ := cells5 hN1
    have hz1 := kf1.size
    have lb1 : w.heap.size < w1.heap.size := by omega
    have H2 := Lib.hid (And.intro hk1 (And.intro ((KeepF.of_below HS2.out.1).trans kf1) (And.intro n1 hN1)))
    clear hk1 kf1 n1 e1 hN1 k0 k1 k2 k3 k4
    have hv1 : VrOK w1 := HV.out.1.of_low (by omega) fun k hk => H2.out.2.1.blk k (by have := HV.out.1.low; omega) fun hm => by have := HV.out.2 k hm; omega
    have HI := Lib.hid (itoa_any 2 (by decide) w1 hv1)
    clear hv1
    go_wp2_with fail
    refine HI.out.mono ?_
    rintro e w2 ⟨rfl, hb2⟩
    have hbk2 := H2.out.1.below hb2
    have hnd : bs (Lib.decDigits 2) = ⟨#[50]⟩ := by rw [Lib.decDigits]; rfl
    rw [hnd]
    have H3 := Lib.hid (str_K b (l ++ [91, 97, 45, 98, 93]) fp1 (({ data := #[123] } : ByteArray) ++ { data := #[50] }) w2 hbk2 (by rw [List.length_append]; simp; omega) (by decide))
    have hN2 := (hb2.block w.heap.size lb1).trans H2.out.2.2.2
    have hz2 := hb2.size
    have HB2 := Lib.hid hb2
    clear hbk2 hb2 b0 b1 b2 b3 b4
    go_wp2_with fail
    refine H3.out.mono ?_
    rintro e w3 ⟨rfl, fp3, hk3, kf3⟩
    obtain ⟨n3, e3⟩ := bufKeep hk3 kf3 H2.out.2.2.1 (show w.heap.size < w2.heap.size by omega)
    have hN3 := e3.trans hN2
    obtain ⟨b0, b1, b2, b3, b4⟩ := cells5 hN3
    have hz3 := kf3.size
    have lb3 : w.heap.size < w3.heap.size := by omega
    have H4 := Lib.hid (And.intro hk3 ((H2.out.2.1.trans (KeepF.of_below HB2.out)).trans kf3))
    clear hk3 kf3 n3 e3 hN3 hN2
    go_wp2_with fail
    have H5 := Lib.hid (byte_K b _ fp3 125 125 rfl w3 H4.out.1 (by rw [List.length_append, List.length_append, show (bl (({ data := #[123] } : ByteArray) ++ { data := #[50] })).length = 2 from rfl]; simp; omega))
    refine H5.out.mono ?_
    rintro e w5 ⟨rfl, fp5, hk5, kf5⟩
    have H6 := Lib.hid (And.intro hk5 (H4.out.2.trans kf5))
    clear hk5 kf5
    go_wp2_with fail
    go_end0
    refine ⟨rfl, fp5, ?_, H6.out.2⟩
    have := H6.out.1
    rw [show l ++ [91, 97, 45, 98, 93] ++ bl (({ data := #[123] } : ByteArray) ++ { data := #[50] }) ++ [125] = l ++ [91, 97, 45, 98, 93, 123, 50, 125] by
      rw [List.append_assoc, List.append_assoc]; rfl] at this
    exact this
end Go.Proofs.YtjhmipidmpmlmaaGreatDoor
namespace Go.Proofs.YtjhmipidmpmlmaaGreatDoor
set_option linter.unusedVariables false
set_option linter.unusedSimpArgs false
set_option maxRecDepth 100000
open Go.RowKit
/-- The pattern of the example. -/
def ndAB : Nd := .mk 4 [] [.mk 1 [(97, 98)] [] 0 0] 2 2
theorem valid_AB : validF ndAB = 0 := by decide
/-- Where the example's nodes lie. -/
theorem ItP.lie {B : Nat} {x : Value} {w : World} (h : ItP B x w) : ∃ g q c, x = .agg #[.int .i64 4, .slice none 0 0, .slice (some ⟨g, 0, none⟩) 1 1, .int .i64 2, .int .i64 2] ∧ (B ≤ g ∧ B ≤ q) ∧ (g < w.heap.size ∧ q < w.heap.size) ∧
    w.heap[g]? = some (.cells #[.int .i64 1, .slice (some ⟨q, 0, none⟩) 1 c, .slice none 0 0, .int .i64 0, .int .i64 0] 29 (0, 0)) ∧ (w.cell? ⟨q, 0, none⟩ = some (.int .u8 97) ∧ w.cell? ⟨q, 1, none⟩ = some (.int .u8 98)) ∧ (1 ≤ c ∧ c ≤ 9223372036854775807) := by
  obtain ⟨g, v, h1, h2, h3, h4⟩ := h
  obtain ⟨A, c, e, hc, hor⟩ := h4.cells rgC_E
  obtain ⟨q, hA, hq, hql, hcell⟩ := hor.resolve_left (by simp)
  have hcm : c ≤ 9223372036854775807 := by
    obtain ⟨A', c', e', -, h'⟩ := own_form (show w.ownsRow _ _ _ _ _ _ from h4)
    rw [e] at e'; injection e' with _ _ e3; rw [e3]; exact h'
  subst hA
  subst e
  have q0 := (hcell 0 (by decide) 0 (by decide)).1
  have q1 := (hcell 0 (by decide) 1 (by decide)).1
  exact ⟨g, q, c, h1, ⟨h2, hq⟩, ⟨(Array.getElem?_eq_some_iff.1 h3).1, hql⟩, h3, ⟨q0, q1⟩, ⟨hc, hcm⟩⟩
theorem ItP.nd {B : Nat} {x : Value} {w : World} (h : ItP B x w) : ∃ vs : List Value, x = .agg vs.toArray ∧ NdIn w ndAB vs := by
  obtain ⟨g, q, c, rfl, -, ⟨hg, hq⟩, hrow, ⟨q0, q1⟩, hc1, hc2⟩ := h.lie
  refine ⟨[.int .i64 4, .slice none 0 0, .slice (some ⟨g, 0, none⟩) 1 1, .int .i64 2, .int .i64 2], rfl, ?_⟩
  unfold ndAB
  have h1 : RgIn w (.slice none 0 0) [] := ⟨none, 0, rfl, ⟨by simp, by simp⟩, .inl rfl⟩
  have h2 : RgIn w (.slice (some ⟨q, 0, none⟩) 1 c) [(97, 98)] := ⟨some ⟨q, 0, none⟩, c, rfl, ⟨hc1, hc2⟩, .inr ⟨q, 0, rfl, hq, fun i hi => by
    have : i = 0 := by simp at hi; omega
    subst this
    exact ⟨⟨q0, q1⟩, (by show 97 < 256; decide), (by show 98 < 256; decide)⟩⟩⟩
  have hk : NdIn w (.mk 1 [(97, 98)] [] 0 0) [.int .i64 1, .slice (some ⟨q, 0, none⟩) 1 c, .slice none 0 0, .int .i64 0, .int .i64 0] := ⟨_, _, rfl, h2, none, 0, rfl, ⟨by simp, by simp⟩, .inl rfl⟩
  refine ⟨_, _, rfl, h1, _, 1, rfl, ⟨by simp, by simp⟩, .inr ⟨g, 0, rfl, hg, ⟨_, fun j hj => ?_, hk⟩, trivial⟩⟩
  obtain ⟨k0, k1, k2, k3, k4⟩ := cells5 hrow
  match j, hj with
  | 0, _ => exact k0
  | 1, _ => exact k1
  | 2, _ => exact k2
  | 3, _ => exact k3
  | 4, _ => exact k4
theorem string_K (B b : Nat) (l : List UInt8) (fp : List Nat) (w : World) (h : BuK b l fp w) (hB : ∀ k ∈ fp, B ≤ k) (hBw : B ≤ w.heap.size) : Calls Tryz.prog 63 #[.pointer (some ⟨b, 0, none⟩)] w fun e w' => e = .returned (.string (bs l)) ∧ Below B w w' := by
  obtain ⟨p, v, hp, rfl, hn, hb, ho⟩ := h
  have ho' : w.ownsRow B 5 1 v (Lib.byteCells l).length (Lib.byteCells l) := by
    rw [Lib.byteCells_length]
    refine ⟨ho.1, ?_⟩
    rcases ho.2 with h3 | ⟨g, cap, cur, h3, h4, rest⟩
    · exact .inl h3
    · exact .inr ⟨g, cap, cur, h3, hB g (by simp [h3, blk, Value.ownBlock]), rest⟩
  refine builder_string B b l w ?_ hBw
  rcases hp with rfl | rfl
  · exact .inl ⟨hB b (by simp), v, hb, ho', hn⟩
  · exact .inr ⟨hB b (by simp), v, hb, ho', hn⟩
set_option maxHeartbeats 4000000 in
theorem text_AB (B : Nat) (x : Value) (w : World) (hit : ItP B x w) (hvr : VrOK w) : Calls Tryz.prog 97 #[x] w fun e w' => e = .returned (.tuple #[.string ⟨#[91, 97, 45, 98, 93, 123, 50, 125]⟩, .int .i64 0]) ∧ Below w.heap.size w w' := by
  obtain ⟨vs, hx, hnd⟩ := hit.nd
  have HV := Lib.hid (fun W (hb : Below w.heap.size w W) => valid_any ndAB vs W (hnd.later hb))
  obtain ⟨g, q, c, hx2, -, ⟨hg, hq⟩, hrow, hqc, hc⟩ := hit.lie
  have hvs : Value.agg vs.toArray = .agg #[.int .i64 4, .slice none 0 0, .slice (some ⟨g, 0, none⟩) 1 1, .int .i64 2, .int .i64 2] := hx.symm.trans hx2
  rw [hvs] at HV
  subst hx2
  have H0 := Lib.hid (And.intro hrow (And.intro hqc (And.intro hg hq)))
  have HVR := Lib.hid hvr
  clear hx hvs hnd hrow hqc hit hvr
  rw [valid_AB] at HV
  go_enter Tryz.func97, Tryz.ntmps97
  go_wp2_with fail
  refine calls_named fun W0 hW0 => ?_
  have hb0 : Below w.heap.size w W0 := by rw [hW0]; exact (Below.refl _ _).alloc (Nat.le_refl _) _
  have hN : W0.heap[w.heap.size]? = some (.cells #[.int .i64 4, .slice none 0 0, .slice (some ⟨g, 0, none⟩) 1 1, .int .i64 2, .int .i64 2] 29 (0, 0)) := by rw [hW0]; exact heap_alloc_new w _
  have hz0 : W0.heap.size = w.heap.size + 1 := by rw [hW0]; simp
  refine (HV.out W0 hb0).mono ?_
  rintro e w1 ⟨rfl, hb1⟩
  have hN1 := (hb1.block w.heap.size (by omega)).trans hN
  obtain ⟨b0, b1, b2, b3, b4⟩ := cells5 hN1
  have hz1 := hb1.size
  have lb1 : w.heap.size < w1.heap.size := by omega
  have lb2 : w.heap.size < w1.heap.size + 1 := by omega
  have H1 := Lib.hid (And.intro (hb0.trans (hb1.mono hb0.size)) hN1)
  clear hW0 hb0 hN hb1 hN1
  go_wp2_with fail
  refine calls_named fun W2 hW2 => ?_
  have hb2 : Below w1.heap.size w1 W2 := by rw [hW2]; exact (Below.refl _ _).alloc (Nat.le_refl _) _
  have hB2 : W2.heap[w1.heap.size]? = some (.cells #[.pointer none, .slice none 0 0] 98 (0, 0)) := by rw [hW2]; exact heap_alloc_new w1 _
  have hw2 : Below w.heap.size w W2 := H1.out.1.trans (hb2.mono H1.out.1.size)
  have H2 := Lib.hid (write_rep_ab w1.heap.size [] [w1.heap.size] g q c W2 (BuK.fresh hB2) (by simp) ⟨(hw2.cell (p := ⟨q, 0, none⟩) H0.out.2.2.2).trans H0.out.2.1.1, (hw2.cell (p := ⟨q, 1, none⟩) H0.out.2.2.2).trans H0.out.2.1.2⟩ (fun hm => by have := List.mem_singleton.1 hm; omega) (Nat.lt_of_lt_of_le hq hw2.size) ((hw2.block g hg).trans H0.out.1) (fun hm => by have := List.mem_singleton.1 hm; omega) (HVR.out.later hw2) (fun k hk => by have := List.mem_singleton.1 hk; have := HVR.out.low; omega))
  have HW2 := Lib.hid hw2
  clear hW2 hb2 hB2 hw2 b0 b1 b2 b3 b4
  refine H2.out.mono ?_
  rintro e w3 ⟨rfl, fp3, hk3, kf3⟩
  have hw2s := HW2.out.size
  have HS := Lib.hid (string_K w.heap.size _ _ fp3 w3 hk3 (fun k hk => by
    rcases kf3.new k hk with h | h
    · have := List.mem_singleton.1 h; omega
    · omega) (Nat.le_trans hw2s kf3.size))
  have hbw3 : Below w.heap.size w w3 := HW2.out.trans (kf3.below (fun k hk => by have := List.mem_singleton.1 hk; omega) HW2.out.size)
  have HB3 := Lib.hid hbw3
  clear hk3 kf3 hbw3
  go_wp2_with fail
  refine HS.out.mono ?_
  rintro e w4 ⟨rfl, hb4⟩
  have HB4 := Lib.hid (HB3.out.trans hb4)
  clear hb4
  go_wp2_with fail
  refine post_named fun Wf hWf => ?_
  subst hWf
  refine bodyPost_ret (v := .tuple #[.string (bs ([] ++ [91, 97, 45, 98, 93, 123, 50, 125])), .int .i64 0]) (by simp [results, Tryz.results97, go_sem]; try rfl) rfl ?_
  exact ⟨rfl, HB4.out⟩
end Go.Proofs.YtjhmipidmpmlmaaGreatDoor
namespace Go.Proofs.YtjhmipidmpmlmaaGreatDoor
set_option linter.unusedVariables false
set_option linter.unusedSimpArgs false
set_option maxRecDepth 100000
open Go.RowKit
def mcAB : Mc := ⟨[[⟨97, 98, 1⟩], [⟨97, 98, 2⟩], []], [false, false, true]⟩
theorem abT (c t : Nat) : trn [⟨97, 98, t⟩] c = if 97 ≤ c ∧ c ≤ 98 then some t else none := rfl
theorem ab2 : ∀ w, acF mcAB w 2 = true ↔ w = []
  | [] => by decide
  | c :: w => by
    rw [acF_cons]
    show (match trn [] c with | none => false | some t => acF mcAB w t) = true ↔ _
    simp [trn]
theorem ab1 : ∀ w, acF mcAB w 1 = true ↔ ∃ d, w = [d] ∧ 97 ≤ d ∧ d ≤ 98
  | [] => by
    constructor
    · intro h; exact absurd h (by decide)
    · rintro ⟨d, h, -⟩; cases h
  | c :: w => by
    rw [acF_cons]
    show (match trn [⟨97, 98, 2⟩] c with | none => false | some t => acF mcAB w t) = true ↔ _
    rw [abT]
    by_cases h : 97 ≤ c ∧ c ≤ 98
    · rw [if_pos h]
      show acF mcAB w 2 = true ↔ _
      rw [ab2]
      constructor
      · rintro rfl; exact ⟨c, rfl, h⟩
      · rintro ⟨d, h1, -⟩; injection h1
    · rw [if_neg h]
      constructor
      · intro h1; cases h1
      · rintro ⟨d, h1, h2⟩; injection h1 with h1 _; subst h1; exact absurd h2 h
theorem ab0 : ∀ w, acF mcAB w 0 = true ↔ ∃ c d, w = [c, d] ∧ (97 ≤ c ∧ c ≤ 98) ∧ 97 ≤ d ∧ d ≤ 98
  | [] => by
    constructor
    · intro h; exact absurd h (by decide)
    · rintro ⟨c, d, h, -⟩; cases h
  | c :: w => by
    rw [acF_cons]
    show (match trn [⟨97, 98, 1⟩] c with | none => false | some t => acF mcAB w t) = true ↔ _
    rw [abT]
    by_cases h : 97 ≤ c ∧ c ≤ 98
    · rw [if_pos h]
      show acF mcAB w 1 = true ↔ _
      rw [ab1]
      constructor
      · rintro ⟨d, rfl, h1⟩; exact ⟨c, d, rfl, h, h1⟩
      · rintro ⟨c', d, h1, -, h2⟩; injection h1 with _ h1; exact ⟨d, h1, h2⟩
    · rw [if_neg h]
      constructor
      · intro h1; cases h1
      · rintro ⟨c', d, h1, h2, -⟩; injection h1 with h1 _; subst h1; exact absurd h2 h
theorem canon_AB : Canon mcAB where
  len := rfl
  srt := by
    intro r hr
    simp only [mcAB, List.mem_cons, List.not_mem_nil, or_false] at hr
    rcases hr with rfl | rfl | rfl <;> simp [SortE]
  mx := by
    intro r hr
    simp only [mcAB, List.mem_cons, List.not_mem_nil, or_false] at hr
    rcases hr with rfl | rfl | rfl <;> simp [MaxE]
  to := by decide
  live := by
    intro s hs
    match s, hs with
    | 0, _ => exact ⟨[97, 97], by decide⟩
    | 1, _ => exact ⟨[97], by decide⟩
    | 2, _ => exact ⟨[], by decide⟩
    | s + 3, hs => exact absurd hs (by show ¬ s + 3 < 3; omega)
  dist := by
    intro s t hs ht h
    have hs3 : s < 3 := hs
    have ht3 : t < 3 := ht
    have h1 := h []
    have h2 := h [97]
    have h3 : ∀ s, s < 3 → ∀ t, t < 3 → acF mcAB [] s = acF mcAB [] t → acF mcAB [97] s = acF mcAB [97] t → s = t := by decide
    exact h3 s hs3 t ht3 h1 h2
  meet := by simp [mcAB, meetR, meetE, topE]
theorem lang_AB (w : List Nat) : langN ndAB w ↔ ∃ c d, w = [c, d] ∧ (97 ≤ c ∧ c ≤ 98) ∧ 97 ≤ d ∧ d ≤ 98 := by
  have hk : ∀ u, langN (.mk 1 [(97, 98)] [] 0 0) u ↔ ∃ c, u = [c] ∧ 97 ≤ c ∧ c ≤ 98 := fun u => by
    rw [langN]
    show (if 1 = 1 then _ else _) ↔ _
    rw [if_pos rfl]
    simp [inR]
  have h0 : langN ndAB w ↔ ∃ j : Nat, (2 : Int) ≤ (j : Int) ∧ (j : Int) ≤ 2 ∧ powL (langN (.mk 1 [(97, 98)] [] 0 0)) j w := by
    unfold ndAB
    rw [langN]
    exact Iff.rfl
  rw [h0]
  constructor
  · rintro ⟨j, h1, h2, h⟩
    obtain rfl : j = 2 := by omega
    obtain ⟨u, v, rfl, ⟨u1, v1, rfl, h3, h4⟩, h5⟩ := h
    obtain ⟨c, rfl, hc⟩ := (hk _).1 h4
    obtain ⟨d, rfl, hd⟩ := (hk _).1 h5
    have h3 : u1 = [] := h3
    subst h3
    exact ⟨c, d, rfl, hc, hd⟩
  · rintro ⟨c, d, rfl, hc, hd⟩
    exact ⟨2, by decide, by decide, [c], [d], rfl, ⟨[], [c], rfl, rfl, (hk _).2 ⟨c, rfl, hc⟩⟩, (hk _).2 ⟨d, rfl, hd⟩⟩
theorem pos_AB : posF ndAB = 2 := by decide
theorem cm_AB {w w' : World} {e : Ending} (h : CmPost ndAB w e w') : Below w.heap.size w w' ∧ ∃ rv, e = .returned (.tuple #[rv, .int .i64 0]) ∧ McUp w.heap.size w' rv mcAB := by
  obtain ⟨hb, h⟩ := h
  refine ⟨hb, ?_⟩
  rcases h with ⟨h1, -⟩ | ⟨-, h1, -⟩ | ⟨-, -, b, x, gs, rows, acs, i, hw, hf, hs, hc, h⟩
  · exact absurd valid_AB h1
  · rw [pos_AB] at h1; omega
  · have hct := hc.count
    rw [hw.len, hf, pos_AB] at hct
    rcases h with ⟨h1, -⟩ | ⟨rfl, -, rv, m', rfl, hup, hle⟩
    · omega
    · have hd := (hc.done hs).2.2
      have hl : ∀ u, acF ⟨rows, acs⟩ u 0 = acF mcAB u 0 := fun u => by
        rw [Bool.eq_iff_iff, hd, hw.lang, lang_AB, ab0]
      have hlv : LiveS ⟨rows, acs⟩ 0 := ⟨[97, 97], by rw [hl]; decide⟩
      rcases hle.1 with ⟨-, hcan, hla⟩ | ⟨h1, -⟩
      · have := Canon.unique hcan canon_AB fun u => by rw [hla, hl]
        subst this
        exact ⟨rv, rfl, hup⟩
      · exact absurd hlv h1
end Go.Proofs.YtjhmipidmpmlmaaGreatDoor
namespace Go.Proofs.YtjhmipidmpmlmaaGreatDoor
set_option linter.unusedVariables false
set_option linter.unusedSimpArgs false
set_option maxRecDepth 100000
open Go.RowKit
def RdP (w : World) (e : Ending) (w' : World) : Prop := ∃ x, e = .returned (.tuple #[x, .int .i64 0]) ∧ ItP w.heap.size x w' ∧ Below w.heap.size w w'
set_option maxHeartbeats 4000000 in
theorem read_AB (w : World) (hvr : VrOK w) : Calls Tryz.prog 71 #[.string ⟨#[91, 97, 45, 98, 93, 123, 50, 125]⟩] w (RdP w) := by
  have HVR := Lib.hid hvr
  clear hvr
  go_enter Tryz.func71, Tryz.ntmps71
  go_wp2_with fail
  refine calls_named fun W0 hW0 => ?_
  have hb0 : Below w.heap.size w W0 := by rw [hW0]; exact ((Below.refl _ _).alloc (Nat.le_refl _) _).alloc (by simp) _
  have hY : W0.heap[w.heap.size]? = some (.cells #[.int .i64 0, .slice none 0 0, .slice none 0 0, .int .i64 0, .int .i64 0] 29 (0, 0)) := by rw [hW0, old_alloc _ _ _ (by simp)]; exact heap_alloc_new w _
  have hR : RdW (w.heap.size + 1) ⟨#[91, 97, 45, 98, 93, 123, 50, 125]⟩ false 0 W0 := by rw [hW0]; simpa [RdW] using heap_alloc_new (w.alloc (.cells #[.int .i64 0, .slice none 0 0, .slice none 0 0, .int .i64 0, .int .i64 0] 29)) (.cells #[.string ⟨#[91, 97, 45, 98, 93, 123, 50, 125]⟩, .bool false, .int .i64 0] 133)
  have hz0 : W0.heap.size = w.heap.size + 2 := by rw [hW0]; simp
  have H1 := Lib.hid (choice_ab (w.heap.size + 1) W0 hR)
  have H0 := Lib.hid (And.intro hb0 hY)
  clear hW0 hb0 hY hR
  refine H1.out.mono ?_
  rintro e w1 ⟨x, rfl, hit, hr1, hk1⟩
  obtain ⟨g1, v1, rfl, hg1, hg2, hg3⟩ := id hit
  have hz1 := hk1.size
  have hbA : Below w1.heap.size w1 (w1.alloc (.cells #[.int .i64 4, .slice none 0 0, .slice (some ⟨g1, 0, none⟩) 1 1, .int .i64 2, .int .i64 2] 29)) := (Below.refl _ _).alloc (Nat.le_refl _) _
  have hbw1 : Below w.heap.size w w1 := H0.out.1.trans (hk1.below (fun k hk => by rw [List.mem_singleton] at hk; omega) H0.out.1.size)
  have hbwA := hbw1.trans (hbA.mono hbw1.size)
  have H2 := Lib.hid (text_AB _ _ _ (hit.keep (KeepF.of_below (fp := []) hbA) (fun k hk => by cases hk)) (HVR.out.later hbwA))
  have hYA := (hbA.block w.heap.size (by omega)).trans ((hk1.blk w.heap.size (by omega) (by simp)).trans H0.out.2)
  have hNA := heap_alloc_new w1 (.cells #[.int .i64 4, .slice none 0 0, .slice (some ⟨g1, 0, none⟩) 1 1, .int .i64 2, .int .i64 2] 29)
  have hrA := hr1.later hbA
  have hitA := hit.keep (KeepF.of_below (fp := []) hbA) (fun k hk => by cases hk)
  have HA := Lib.hid (And.intro hbwA (And.intro hYA (And.intro hNA (And.intro hrA hitA))))
  clear hit hr1 hk1 hbA hbw1 hbwA hYA hNA hrA hitA hg1 hg2 hg3
  go_wp2_with fail
  refine H2.out.mono ?_
  rintro e w2 ⟨rfl, hb2⟩
  have hsA : (w1.alloc (.cells #[.int .i64 4, .slice none 0 0, .slice (some ⟨g1, 0, none⟩) 1 1, .int .i64 2, .int .i64 2] 29)).heap.size = w1.heap.size + 1 := by simp
  have hz2 := hb2.size
  rw [hsA] at hz2
  have hY2 := (hb2.block w.heap.size (by rw [hsA]; omega)).trans HA.out.2.1
  have hN2 := (hb2.block w1.heap.size (by rw [hsA]; omega)).trans HA.out.2.2.1
  have hr2 := HA.out.2.2.2.1.later hb2
  have hit2 := HA.out.2.2.2.2.keep (KeepF.of_below (fp := []) hb2) (fun k hk => by cases hk)
  have hbw2 := HA.out.1.trans (hb2.mono (by rw [hsA]; omega))
  obtain ⟨⟨c0, c1, c2⟩, -, lr2⟩ := hr2.cells
  obtain ⟨k0, k1, k2, k3, k4⟩ := cells5 hN2
  obtain ⟨y0, y1, y2, y3, y4⟩ := cells5 hY2
  have fy : ∀ j, j < 5 → w2.frozen? ⟨w.heap.size, j, none⟩ = false := fun j _ => by simp [World.frozen?, hY2]
  have fy0 := fy 0 (by decide)
  have fy1 := fy 1 (by decide)
  have fy2 := fy 2 (by decide)
  have fy3 := fy 3 (by decide)
  have fy4 := fy 4 (by decide)
  have m1 : w1.heap.size < w2.heap.size := by omega
  have m3 : w.heap.size < w2.heap.size := by omega
  have H3 := Lib.hid (And.intro hit2 hbw2)
  clear hY2 hN2 hr2 hit2 hbw2 hb2 hsA fy
  go_wp2_with fail
  refine post_named fun Wf hWf => ?_
  obtain ⟨u1, u2, u3, -⟩ := set5 hWf
  refine bodyPost_ret (v := .tuple #[.agg #[.int .i64 4, .slice none 0 0, .slice (some ⟨g1, 0, none⟩) 1 1, .int .i64 2, .int .i64 2], .int .i64 0]) (by rw [hWf]; simp [results, Tryz.results71, go_sem, y0, y1, y2, y3, y4, m3]; try rfl) rfl ?_
  have hkf : KeepF [w.heap.size] [] w2 Wf := ⟨u3.1, u3.2.1, u3.2.2, by omega, fun k _ hn => u1 k (fun e => hn (by simp [e])), fun k hk => by cases hk⟩
  exact ⟨_, rfl, (H3.out.1.keep hkf (fun k hk => by simp at hk; omega)).mono (show w.heap.size ≤ W0.heap.size by omega), H3.out.2.trans (hkf.below (fun k hk => by simp at hk; omega) H3.out.2.size)⟩
end Go.Proofs.YtjhmipidmpmlmaaGreatDoor
namespace Go.Proofs.YtjhmipidmpmlmaaGreatDoor
set_option linter.unusedVariables false
set_option linter.unusedSimpArgs false
set_option maxRecDepth 100000
open Go.RowKit
set_option maxHeartbeats 4000000 in
theorem parse_AB (w : World) (hvr : VrOK w) : Calls Tryz.prog 40 #[.string ⟨#[91, 97, 45, 98, 93, 123, 50, 125]⟩] w (RdP w) := by
  have HVR := Lib.hid hvr
  clear hvr
  go_enter Tryz.func40, Tryz.ntmps40
  go_wp2_with fail
  refine calls_named fun W0 hW0 => ?_
  have hb0 : Below w.heap.size w W0 := by rw [hW0]; exact (Below.refl _ _).alloc (Nat.le_refl _) _
  have hY : W0.heap[w.heap.size]? = some (.cells #[.int .i64 0, .slice none 0 0, .slice none 0 0, .int .i64 0, .int .i64 0] 29 (0, 0)) := by rw [hW0]; exact heap_alloc_new w _
  have hz0 : W0.heap.size = w.heap.size + 1 := by rw [hW0]; simp
  have H1 := Lib.hid (read_AB W0 (HVR.out.later hb0))
  have H0 := Lib.hid (And.intro hb0 hY)
  clear hW0 hb0 hY
  refine H1.out.mono ?_
  rintro e w2 ⟨x, rfl, hit, hb2⟩
  obtain ⟨g1, v1, rfl, hg1, hg2, hg3⟩ := id hit
  have hz2 := hb2.size
  have hY2 := (hb2.block w.heap.size (by omega)).trans H0.out.2
  have hbw2 := H0.out.1.trans (hb2.mono (by omega))
  obtain ⟨y0, y1, y2, y3, y4⟩ := cells5 hY2
  have fy : ∀ j, j < 5 → w2.frozen? ⟨w.heap.size, j, none⟩ = false := fun j _ => by simp [World.frozen?, hY2]
  have fy0 := fy 0 (by decide)
  have fy1 := fy 1 (by decide)
  have fy2 := fy 2 (by decide)
  have fy3 := fy 3 (by decide)
  have fy4 := fy 4 (by decide)
  have m3 : w.heap.size < w2.heap.size := by omega
  have H3 := Lib.hid (And.intro hit hbw2)
  clear hY2 hit hbw2 hb2 fy hg1 hg2 hg3
  go_wp2_with fail
  refine post_named fun Wf hWf => ?_
  obtain ⟨u1, u2, u3, -⟩ := set5 hWf
  refine bodyPost_ret (v := .tuple #[.agg #[.int .i64 4, .slice none 0 0, .slice (some ⟨g1, 0, none⟩) 1 1, .int .i64 2, .int .i64 2], .int .i64 0]) (by rw [hWf]; simp [results, Tryz.results40, go_sem, y0, y1, y2, y3, y4, m3]; try rfl) rfl ?_
  have hkf : KeepF [w.heap.size] [] w2 Wf := ⟨u3.1, u3.2.1, u3.2.2, by omega, fun k _ hn => u1 k (fun e => hn (by simp [e])), fun k hk => by cases hk⟩
  exact ⟨_, rfl, (H3.out.1.keep hkf (fun k hk => by simp at hk; omega)).mono (show w.heap.size ≤ W0.heap.size by omega), H3.out.2.trans (hkf.below (fun k hk => by simp at hk; omega) H3.out.2.size)⟩
end Go.Proofs.YtjhmipidmpmlmaaGreatDoor
