/- The sort of runs, in the words of lists. -/
import Derived.Shelf.SlSortCmp.NoneTotal
import Derived.Test.YtpfldcfnbgdceaaDoorRunD
namespace Go.Proofs.YtpfldcfnbgdceaaDoor
set_option linter.unusedVariables false
set_option linter.unusedSimpArgs false
set_option maxRecDepth 100000
open Go.RowKit
/-- A slice value that reads as these runs. -/
def RC (v : Value) (o : List Rn) (w : World) : Prop := ∃ A c, v = .slice A o.length c ∧ (o = [] ∨ ∃ g, A = some ⟨g, 0, none⟩ ∧ g < w.heap.size ∧
  ∀ i (h : i < o.length), w.cell? ⟨g, i * 3 + 0, none⟩ = some (.int .i64 (o[i].1 : Int)) ∧ w.cell? ⟨g, i * 3 + 1, none⟩ = some (.int .i64 (o[i].2.1 : Int)) ∧ w.cell? ⟨g, i * 3 + 2, none⟩ = some (.int .i64 (o[i].2.2 : Int)))
theorem cellsR_get : ∀ (o : List Rn) (i c : Nat) (h : i < o.length), c < 3 → (cellsR o)[i * 3 + c]? = (encR o[i])[c]?
  | a :: r, 0, c, _, hc => by
    show (cellsR (a :: r))[0 * 3 + c]? = _
    rw [Nat.zero_mul, Nat.zero_add]
    show (encR a ++ cellsR r)[c]? = _
    rw [List.getElem?_append_left (by simp [encR]; omega)]; rfl
  | a :: r, i + 1, c, h, hc => by
    show (encR a ++ cellsR r)[(i + 1) * 3 + c]? = _
    rw [List.getElem?_append_right (by simp [encR]; omega), show (i + 1) * 3 + c - (encR a).length = i * 3 + c by simp [encR]; omega, cellsR_get r i c (by simpa using h) hc]
    rfl
theorem own_holds {B n : Nat} {T : TypeId} {g cap : Nat} {o : List Rn} {w : World} (h : w.ownsRow B T 3 (.slice (some ⟨g, 0, none⟩) n cap) n (cellsR o)) :
    ∀ j, j < o.length * 3 → w.cell? ⟨g, j, none⟩ = (cellsR o)[j]? ∧ w.frozen? ⟨g, j, none⟩ = false := by
  intro j hj
  rcases h.2 with ⟨h1, -⟩ | ⟨g', cap', cur, h1, hB, hg, -, -, -, ht⟩
  · cases h1
  · injection h1 with h2 h3 h4
    injection h2 with h2
    injection h2 with h2
    subst h2
    have hz : (cellsR o).length = n * 3 := h.1
    refine ⟨?_, by simp [World.frozen?, hg]⟩
    rw [cell_of_row w g j _ _ _ hg, ← ht, List.getElem?_take, if_pos (by rw [cellsR_len] at hz; omega)]
    simp
theorem RC.of_own {B : Nat} {T : TypeId} {v : Value} {o : List Rn} {w : World} (h : w.ownsRow B T 3 v o.length (cellsR o)) : RC v o w := by
  have h' := h
  rcases h.2 with ⟨h1, h0⟩ | ⟨g, cap, cur, rfl, hB, hg, -⟩
  · exact ⟨none, 0, by rw [h1, h0], .inl (List.length_eq_zero_iff.1 h0)⟩
  · refine ⟨_, _, rfl, .inr ⟨g, rfl, (Array.getElem?_eq_some_iff.1 hg).1, fun i hi => ?_⟩⟩
    have hc := own_holds h'
    refine ⟨?_, ?_, ?_⟩
    · rw [(hc (i * 3 + 0) (by omega)).1, cellsR_get o i 0 hi (by omega)]; rfl
    · rw [(hc (i * 3 + 1) (by omega)).1, cellsR_get o i 1 hi (by omega)]; rfl
    · rw [(hc (i * 3 + 2) (by omega)).1, cellsR_get o i 2 hi (by omega)]; rfl
theorem grown_sort (w : World) (blk n : Nat) (d : Array Rn) (os : Array Obj) (hblk : blk < w.heap.size) : w.grownBy (sortWorldK encR 3 w blk 0 n d os) (some blk) := by
  refine ⟨rfl, rfl, rfl, ?_, fun k hk hne => ?_⟩
  · show w.heap.size ≤ (w.heap.modify blk _ ++ os).size
    simp
  · show (w.heap.modify blk _ ++ os)[k]? = w.heap[k]?
    rw [Array.getElem?_append_left (by simpa using hk), Array.getElem?_modify, if_neg (by intro e; exact hne (by rw [e]))]
theorem holds_of_own {B : Nat} {T : TypeId} {g cap : Nat} {o : List Rn} {w : World} (h : w.ownsRow B T 3 (.slice (some ⟨g, 0, none⟩) o.length cap) o.length (cellsR o)) : Sort.HoldsK encR 3 w g 0 o.toArray := by
  intro j hj
  rw [Sort.size_flatK] at hj
  have hj' : j < o.length * 3 := by simpa using hj
  obtain ⟨h1, h2⟩ := own_holds h j hj'
  rw [Nat.zero_add]
  refine ⟨?_, h2⟩
  have hd : j / 3 < o.length := by omega
  rw [h1, Sort.get_flatK _ _ _ _ hj]
  have e := cellsR_get o (j / 3) (j % 3) hd (by omega)
  rw [show j / 3 * 3 + j % 3 = j by omega] at e
  rw [e]
  have e2 : o.toArray[j / 3]! = o[j / 3] := by simp [hd]
  rw [e2]
  have hl : (encR o[j / 3]).length = 3 := rfl
  simp only [id]
  rw [List.getElem?_eq_getElem (by rw [hl]; omega)]
  simp [hl, show j % 3 < 3 by omega]
theorem sort_any (o : List Rn) (v : Value) (B : Nat) (W : World) (hown : W.ownsRow B 48 3 v o.length (cellsR o)) (ho : o.length ≤ 1000000) :
    Calls Tryd.prog 46 #[v, .func (.func 47) #[] #[]] W fun e w' => e = .returned (.tuple #[]) ∧ ∃ o' : List Rn, o'.Perm o ∧ o'.Pairwise (fun a b => ltR b a = false) ∧ RC v o' w' ∧ W.grownBy w' v.ownBlock := by
  have h' := hown
  rcases hown.2 with ⟨h1, h0⟩ | ⟨g, cap, cur, rfl, hB, hg, -⟩
  · obtain rfl : o = [] := List.length_eq_zero_iff.1 h0
    subst h1
    refine (AnyF.slices_SortFunc_none Tryd.sortRun none 0 _ W).mono ?_
    rintro e w' ⟨rfl, rfl⟩
    exact ⟨rfl, [], List.Perm.refl _, List.Pairwise.nil, ⟨none, 0, rfl, .inl rfl⟩, World.grownBy.refl _ _⟩
  · have hblk := (Array.getElem?_eq_some_iff.1 hg).1
    have hH := holds_of_own h'
    have S := sort_raw g cap o.toArray W hH hblk (by simp; omega)
    rw [show o.toArray.size = o.length from by simp] at S
    refine S.mono ?_
    rintro e w' ⟨rfl, d', n, os, hp, hs, rfl⟩
    obtain ⟨hsz, -, hperm⟩ := hp
    have hsz' : d'.size = o.length := by simpa using hsz
    have hx : (d'.extract 0 o.length).toList = d'.toList := by rw [← hsz']; simp
    have hx2 : (o.toArray.extract 0 o.length).toList = o := by simp
    rw [hx, hx2] at hperm
    have hl : d'.toList.length = o.length := by simpa using hsz'
    refine ⟨rfl, d'.toList, hperm, ?_, ?_, grown_sort W g n d' os hblk⟩
    · rw [List.pairwise_iff_getElem]
      intro i j hi hj hij
      have h := hs i j (Nat.zero_le _) hij (by omega)
      rw [ltOf_cfR] at h
      have hi' : i < d'.size := by simpa using hi
      have hj' : j < d'.size := by simpa using hj
      rw [getElem!_pos d' i hi', getElem!_pos d' j hj'] at h
      simpa using h
    · have hH2 := holdsK_sortWorldK_c (enc := encR) (k := 3) (w := W) (blk := g) (off := 0) o.toArray d' n os hH hblk hsz
      refine ⟨_, _, by rw [hl], .inr ⟨g, rfl, Nat.lt_of_lt_of_le hblk (grown_sort W g n d' os hblk).size, fun i hi => ?_⟩⟩
      have hi' : i < d'.size := by simpa using hi
      have e : d'[i]! = d'.toList[i] := by rw [getElem!_pos d' i hi']; simp
      refine ⟨?_, ?_, ?_⟩
      · have := (Sort.HoldsK.cell hH2 (i := i) (c := 0) hi' (by omega)).1
        rw [e, Nat.zero_add] at this; exact this
      · have := (Sort.HoldsK.cell hH2 (i := i) (c := 1) hi' (by omega)).1
        rw [e, Nat.zero_add] at this; exact this
      · have := (Sort.HoldsK.cell hH2 (i := i) (c := 2) hi' (by omega)).1
        rw [e, Nat.zero_add] at this; exact this
end Go.Proofs.YtpfldcfnbgdceaaDoor
