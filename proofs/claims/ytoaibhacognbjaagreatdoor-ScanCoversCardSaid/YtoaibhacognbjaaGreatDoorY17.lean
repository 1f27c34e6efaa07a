/- The memory of the subsets of a compile: groups of positions and their numbers. · Walks: one of two parts. · Writing a pattern out: what it costs, what it leaves. · Walks: a repetition written out. · The builder with one position more. -/
import Derived.Test.YtoaibhacognbjaaGreatDoorY12
import Derived.Test.YtoaibhacognbjaaGreatDoorY02
import Derived.Test.YtoaibhacognbjaaGreatDoorY16
import Derived.Test.YtoaibhacognbjaaGreatDoorY11
namespace Go.Proofs.YtoaibhacognbjaaGreatDoor
set_option linter.unusedVariables false
set_option linter.unusedSimpArgs false
set_option maxRecDepth 100000
open Go.RowKit
open Go.Maps (Keyed)
/-- The number of a group that is known. -/
def idxV (gs : List (List Nat)) (l : List Nat) : Option Value := if l ∈ gs then some (.int .i64 ((gs.idxOf l : Nat) : Int)) else none
def SaysG (F : Lit → Option Value) (gs : List (List Nat)) : Prop := ∀ l, F (.string (nameG l)) = idxV gs l
theorem SaysG.put {F : Lit → Option Value} {gs : List (List Nat)} (h : SaysG F gs) (l : List Nat) (hl : l ∉ gs) (n : Int) (hn : n = (gs.length : Int)) : SaysG (updV F (.string (nameG l)) (some (.int .i64 n))) (gs ++ [l]) := by
  intro x
  subst hn
  unfold updV
  by_cases e : x = l
  · subst e
    rw [if_pos (by simp [Lit.sameKey])]
    unfold idxV
    rw [if_pos (by simp), List.idxOf_append, if_neg hl]
    simp
  · rw [if_neg (by simp only [Lit.sameKey, beq_iff_eq]; exact fun h => e (nameG_inj h)), h x]
    unfold idxV
    by_cases hx : x ∈ gs
    · rw [if_pos hx, if_pos (by simp [hx]), List.idxOf_append, if_pos hx]
    · rw [if_neg hx, if_neg (by simp [hx, e])]
/-- Where a value's cells lie, ints lie. -/
def TI (w : World) (v : Value) : Prop := ∀ g, v.ownBlock = some g → ∃ cs m, w.heap[g]? = some (.cells cs 3 m)
theorem TI.keep {fp fp' : List Nat} {w w' : World} {v : Value} (h : TI w v) (ho : outOf fp v) (hk : KeepF fp fp' w w') : TI w' v := fun g hg => by
  obtain ⟨cs, m, e⟩ := h g hg
  exact ⟨cs, m, (hk.blk g (Array.getElem?_eq_some_iff.1 e).1 (ho g hg)).trans e⟩
theorem TI.later {w w' : World} {v : Value} (h : TI w v) (hb : Below w.heap.size w w') : TI w' v := h.keep (fp := []) (fp' := []) (fun _ _ h => by cases h) (KeepF.of_below hb)
theorem TI.of_own {w : World} {B : Nat} {k : Nat} {v : Value} {n : Nat} {xs : List Value} (h : w.ownsRow B 3 k v n xs) : TI w v := fun g hg => by
  rcases h.2 with ⟨h1, -⟩ | ⟨g', cap, cur, h1, -, hg', -⟩
  · subst h1; simp [Value.ownBlock] at hg
  · subst h1; simp [Value.ownBlock] at hg; subst hg; exact ⟨_, _, hg'⟩
theorem TI.nil (w : World) : TI w (.slice none 0 0) := fun g hg => by simp [Value.ownBlock] at hg
/-- A row of other elements is another block. -/
theorem TI.ne {w : World} {v u : Value} (h : TI w v) {B k n : Nat} {e : TypeId} {xs : List Value} (hu : w.ownsRow B e k u n xs) (he : e ≠ 3) : ∀ g, v.ownBlock = some g → u.ownBlock ≠ some g := fun g hg hug => by
  obtain ⟨cs, m, h1⟩ := h g hg
  rcases hu.2 with ⟨h2, -⟩ | ⟨g', cap, cur, h2, -, hg', -⟩
  · subst h2; simp [Value.ownBlock] at hug
  · subst h2; simp [Value.ownBlock] at hug; subst hug
    rw [hg'] at h1
    injection h1 with h1
    injection h1 with _ h3 _
    exact he h3
def fpG (s mb : Nat) (vg : Value) : List Nat := s :: mb :: blk vg
/-- The struct at block s: three fields that stay, the map at block mb, the groups. -/
structure SbS (B s mb : Nat) (v0 v1 v2 : Value) (gs : List (List Nat)) (vg : Value) (gv : List Value) (F : Lit → Option Value) (w : World) : Prop where
  ne : s ≠ mb ∧ vg.ownBlock ≠ some s ∧ vg.ownBlock ≠ some mb
  hs : B ≤ s ∧ B ≤ mb ∧ B ≤ w.heap.size
  cs : w.heap[s]? = some (.cells #[v0, v1, v2, .map (some mb), vg] 182 (0, 0))
  mv : MV Tryz.prog 9 mb gs.length F w
  says : SaysG F gs
  own : w.ownsRow B 22 1 vg gs.length gv
  gvs : ∀ i (h : i < gs.length), ∃ v, gv[i]? = some v ∧ IL w v gs[i] ∧ outOf (fpG s mb vg) v ∧ TI w v
def SbI (B s mb : Nat) (v0 v1 v2 : Value) (gs : List (List Nat)) (fp : List Nat) (w : World) : Prop := ∃ vg gv F, fp = fpG s mb vg ∧ SbS B s mb v0 v1 v2 gs vg gv F w
section
variable {B s mb : Nat} {v0 v1 v2 : Value} {gs : List (List Nat)} {vg : Value} {gv : List Value} {F : Lit → Option Value} {w w' : World} {fp : List Nat}
theorem SbS.lt (h : SbS B s mb v0 v1 v2 gs vg gv F w) : ∀ k ∈ fpG s mb vg, B ≤ k ∧ k < w.heap.size := by
  intro k hk
  unfold fpG at hk
  rcases List.mem_cons.1 hk with rfl | hk
  · exact ⟨h.hs.1, (Array.getElem?_eq_some_iff.1 h.cs).1⟩
  · rcases List.mem_cons.1 hk with rfl | hk
    · exact ⟨h.hs.2.1, h.mv.lt⟩
    · exact h.own.lt k (mem_blk.1 hk)
theorem SbI.lt (h : SbI B s mb v0 v1 v2 gs fp w) : ∀ k ∈ fp, B ≤ k ∧ k < w.heap.size := by
  obtain ⟨vg, gv, F, rfl, h⟩ := h; exact h.lt
theorem SbS.same (h : SbS B s mb v0 v1 v2 gs vg gv F w) (hk : ∀ k ∈ fpG s mb vg, w'.heap[k]? = w.heap[k]?) (hz : w.heap.size ≤ w'.heap.size) (hil : ∀ v l, IL w v l → outOf (fpG s mb vg) v → TI w v → IL w' v l ∧ TI w' v) : SbS B s mb v0 v1 v2 gs vg gv F w' := by
  refine ⟨h.ne, ⟨h.hs.1, h.hs.2.1, Nat.le_trans h.hs.2.2 hz⟩, (hk s (by simp [fpG])).trans h.cs, h.mv.kept (hk mb (by simp [fpG])), h.says, own_same h.own fun g hg => hk g (by simp [fpG, mem_blk, hg]), fun i hi => ?_⟩
  obtain ⟨v, h1, h2, h3, h4⟩ := h.gvs i hi
  exact ⟨v, h1, (hil v _ h2 h3 h4).1, h3, (hil v _ h2 h3 h4).2⟩
theorem SbI.later (h : SbI B s mb v0 v1 v2 gs fp w) (hb : Below w.heap.size w w') : SbI B s mb v0 v1 v2 gs fp w' := by
  obtain ⟨vg, gv, F, rfl, h⟩ := h
  exact ⟨vg, gv, F, rfl, h.same (fun k hk => hb.block k (h.lt k hk).2) hb.size fun v l hi _ ht => ⟨hi.later hb, ht.later hb⟩⟩
theorem SbI.B_le (h : SbI B s mb v0 v1 v2 gs fp w) : B ≤ w.heap.size := by
  obtain ⟨vg, gv, F, rfl, h⟩ := h; exact h.hs.2.2
end
theorem IL.ne_cells {w : World} {v : Value} {l : List Nat} (h : IL w v l) (hl : l ≠ []) {N : Nat} (hN : ∀ j u, w.cell? ⟨N, j, none⟩ = some u → ∀ x : Int, u ≠ .int .i64 x) : v.ownBlock ≠ some N := by
  rcases h with ⟨h1, -⟩ | ⟨g, f, c, rfl, h0, hg, hc, hcell⟩
  · exact absurd h1 hl
  · intro e
    simp [Value.ownBlock] at e
    subst e
    have h0' : 0 < l.length := by cases l with | nil => exact absurd rfl hl | cons a r => simp
    exact hN _ _ (hcell 0 h0') _ rfl
/-- A new group: the map is longer, then the row. -/
theorem SbS.add {B s mb : Nat} {v0 v1 v2 : Value} {gs : List (List Nat)} {vg : Value} {gv : List Value} {F : Lit → Option Value} {w w1 w2 w3 : World} (h : SbS B s mb v0 v1 v2 gs vg gv F w) {l : List Nat} {v vg' : Value} (hv : IL w v l) (ho : outOf (fpG s mb vg) v) (ht : TI w v) (hl : l ∉ gs)
    {n : Int} (hn : n = (gs.length : Int)) (hg1 : w.grownBy w1 (some mb)) (hm : MV Tryz.prog 9 mb (gs.length + 1) (updV F (.string (nameG l)) (some (.int .i64 n))) w1)
    (hb : Below w1.heap.size w1 w2) (hg2 : w2.grownBy w3 vg.ownBlock) (hown : w3.ownsRow B 22 1 vg' (gs.length + 1) (gv ++ [v])) (hf : vg'.ownBlock = vg.ownBlock ∨ ∃ g, vg'.ownBlock = some g ∧ w2.heap.size ≤ g) :
    SbI B s mb v0 v1 v2 (gs ++ [l]) (fpG s mb vg') (w3.setCell ⟨s, 4, none⟩ vg') ∧ KeepF (fpG s mb vg) (fpG s mb vg') w (w3.setCell ⟨s, 4, none⟩ vg') := by
  obtain ⟨n1, n2, n3⟩ := h.ne
  have hlt := h.lt
  have hls : s < w.heap.size := (hlt s (by simp [fpG])).2
  have hlm : mb < w.heap.size := (hlt mb (by simp [fpG])).2
  have z1 := hg1.size
  have z2 := hb.size
  have z3 := hg2.size
  have hz3 : (w3.setCell ⟨s, 4, none⟩ vg').heap.size = w3.heap.size := by simp [World.setCell]
  have hblk : ∀ k, k < w.heap.size → k ∉ fpG s mb vg → (w3.setCell ⟨s, 4, none⟩ vg').heap[k]? = w.heap[k]? := fun k hk hn => by
    unfold fpG at hn
    simp only [List.mem_cons, not_or, mem_blk] at hn
    rw [Below.heap_setCell _ _ _ _ hn.1, hg2.block k (by omega) (fun e => hn.2.2 e.symm), hb.block k (by omega), hg1.block k hk (fun e => hn.2.1 (by injection e))]
  have hnew : ∀ g, vg'.ownBlock = some g → vg.ownBlock = some g ∨ w.heap.size ≤ g := fun g hg => by
    rcases hf with hf | ⟨g', hf, hg'⟩
    · left; rw [← hf]; exact hg
    · right; rw [hf] at hg; injection hg with hg; omega
  have hkf : KeepF (fpG s mb vg) (fpG s mb vg') w (w3.setCell ⟨s, 4, none⟩ vg') := by
    refine ⟨hg2.os.trans (hb.os.trans hg1.os), hg2.tape.trans (hb.tape.trans hg1.tape), hg2.output.trans (hb.output.trans hg1.output), by rw [hz3]; omega, hblk, fun k hk => ?_⟩
    unfold fpG at hk ⊢
    simp only [List.mem_cons, mem_blk] at hk ⊢
    rcases hk with hk | hk | hk
    · exact .inl (.inl hk)
    · exact .inl (.inr (.inl hk))
    · exact (hnew k hk).imp (fun h => .inr (.inr h)) id
  have hns : vg'.ownBlock ≠ some s := fun e => (hnew s e).elim n2 fun h => by omega
  have hnm : vg'.ownBlock ≠ some mb := fun e => (hnew mb e).elim n3 fun h => by omega
  refine ⟨⟨vg', gv ++ [v], _, rfl, ⟨n1, hns, hnm⟩, ⟨h.hs.1, h.hs.2.1, by rw [hz3]; have := h.hs.2.2; omega⟩, ?_, ?_, h.says.put l hl n hn, ?_, fun i hi => ?_⟩, hkf⟩
  · have e1 : w3.heap[s]? = some (.cells #[v0, v1, v2, .map (some mb), vg] 182 (0, 0)) := by
      rw [hg2.block s (by omega) (fun e => n2 e.symm), hb.block s (by omega), hg1.block s hls (fun e => n1 (by injection e)), h.cs]
    have := set_row3 e1 4 vg'
    simpa using this
  · rw [List.length_append]
    exact hm.kept (by rw [Below.heap_setCell _ _ _ _ (fun e => n1 e.symm), hg2.block mb (by omega) (fun e => n3 e.symm), hb.block mb (by omega)])
  · rw [List.length_append]
    exact own_same hown fun g hg => Below.heap_setCell _ _ _ _ (fun e => hns (by rw [hg, e]))
  · rw [List.length_append, List.length_singleton] at hi
    have hgl : gv.length = gs.length := by have := h.own.1; omega
    by_cases hil : i < gs.length
    · obtain ⟨u, u1, u2, u3, u4⟩ := h.gvs i hil
      obtain ⟨k1, k2⟩ := u2.keep u3 hkf
      refine ⟨u, by rw [List.getElem?_append_left (by omega)]; exact u1, ?_, k2, u4.keep u3 hkf⟩
      rw [List.getElem_append_left hil]; exact k1
    · have : i = gs.length := by omega
      subst this
      obtain ⟨k1, k2⟩ := hv.keep ho hkf
      refine ⟨v, by rw [← hgl]; simp, ?_, k2, ht.keep ho hkf⟩
      rw [List.getElem_append_right (Nat.le_refl _)]
      simpa using k1
theorem SbI.cells {B s mb : Nat} {v0 v1 v2 : Value} {gs : List (List Nat)} {fp : List Nat} {w : World} (h : SbI B s mb v0 v1 v2 gs fp w) : s < w.heap.size ∧ w.cell? ⟨s, 0, none⟩ = some v0 ∧ w.cell? ⟨s, 1, none⟩ = some v1 ∧ w.cell? ⟨s, 2, none⟩ = some v2 := by
  obtain ⟨vg, gv, F, rfl, h⟩ := h
  refine ⟨(Array.getElem?_eq_some_iff.1 h.cs).1, ?_, ?_, ?_⟩ <;> (rw [cell_of_row _ _ _ _ _ _ h.cs]; rfl)
/-- A row of other elements grows: nothing else has turned. -/
theorem SbI.grown {B s mb : Nat} {v0 v1 v2 : Value} {gs : List (List Nat)} {fp : List Nat} {w w' : World} (h : SbI B s mb v0 v1 v2 gs fp w) {B1 k n : Nat} {e : TypeId} {u : Value} {xs : List Value} (hu : w.ownsRow B1 e k u n xs) (he : e ≠ 3) (ho : outOf fp u) (hg : w.grownBy w' u.ownBlock) : SbI B s mb v0 v1 v2 gs fp w' := by
  obtain ⟨vg, gv, F, rfl, h⟩ := h
  refine ⟨vg, gv, F, rfl, h.same (fun k hk => hg.block k (h.lt k hk).2 fun e => ho k e.symm hk) hg.size fun v l hi _ ht => ?_⟩
  have hn := ht.ne hu he
  refine ⟨?_, fun g hgv => ?_⟩
  · rcases hi with hi | ⟨g, f, c, rfl, h0, hg', hc, hcell⟩
    · exact .inl hi
    · exact .inr ⟨g, f, c, rfl, h0, Nat.lt_of_lt_of_le hg' hg.size, hc, fun i hi => (World.cell?_of_block (a := ⟨g, f + i, none⟩) (hg.block g hg' fun e => hn g rfl e.symm)).trans (hcell i hi)⟩
  · obtain ⟨cs, m, e1⟩ := ht g hgv
    exact ⟨cs, m, (hg.block g (Array.getElem?_eq_some_iff.1 e1).1 fun e => hn g hgv e.symm).trans e1⟩
theorem KeepF.grown {fp fp' : List Nat} {w w1 w' : World} {r : Option Nat} (hk : KeepF fp fp' w w1) (hg : w1.grownBy w' r) (hr : ∀ g, r = some g → w.heap.size ≤ g) : KeepF fp fp' w w' :=
  ⟨hg.os.trans hk.os, hg.tape.trans hk.tape, hg.output.trans hk.output, Nat.le_trans hk.size hg.size, fun k h1 h2 => (hg.block k (Nat.lt_of_lt_of_le h1 hk.size) fun e => by have := hr k e.symm; omega).trans (hk.blk k h1 h2), hk.new⟩
end Go.Proofs.YtoaibhacognbjaaGreatDoor
namespace Go.Proofs.YtoaibhacognbjaaGreatDoor
set_option linter.unusedVariables false
set_option linter.unusedSimpArgs false
set_option maxRecDepth 100000
open Go.RowKit
theorem _root_.Go.World.ownsRow.base_mono {w : World} {B B' : Nat} {e : TypeId} {k : Nat} {v : Value} {n : Nat} {xs : List Value} (h : w.ownsRow B e k v n xs) (hB : B' ≤ B) : w.ownsRow B' e k v n xs := by
  refine ⟨h.1, ?_⟩
  rcases h.2 with h1 | ⟨g, cap, cur, h1, h2, rest⟩
  · exact .inl h1
  · exact .inr ⟨g, cap, cur, h1, Nat.le_trans hB h2, rest⟩
theorem own_later {w w' : World} {B : Nat} {e : TypeId} {k : Nat} {v : Value} {n : Nat} {xs : List Value} (h : w.ownsRow B e k v n xs) (hb : Below w.heap.size w w') : w'.ownsRow B e k v n xs := own_same h fun g hg => hb.block g (h.lt g hg).2
/-- What the region of 'either' has left. -/
def factEi (N B0 : Nat) (A1 A2 B1 B2 : Option Addr) (n1 c1 n2 c2 m1 d1 m2 d2 : Nat) (ex ey : Bool) (xf xl yf yl : List Nat) : Nat → Nat → Value → World → Prop
  | c, 0, x, w => x = .pointer (some ⟨N, 0, none⟩)
  | c, 1, x, w => x = .slice A1 n1 c1
  | c, 2, x, w => x = .pointer (some ⟨N + 1, 0, none⟩)
  | c, 3, x, w => x = .slice B1 m1 d1
  | c, 4, x, w => ∃ g, x = .slice (some ⟨g, 0, none⟩) 2 2 ∧ g < w.heap.size ∧ w.cell? ⟨g, 0, none⟩ = some (.slice A1 n1 c1) ∧ w.cell? ⟨g, 1, none⟩ = some (.slice B1 m1 d1)
  | c, 5, x, w => ∃ A c', x = .slice A (n1 + m1) c' ∧ w.ownsRow B0 3 1 x (n1 + m1) (ints (xf ++ yf))
  | c, 6, x, w => x = .pointer (some ⟨N, 1, none⟩)
  | c, 7, x, w => x = .slice A2 n2 c2
  | c, 8, x, w => x = .pointer (some ⟨N + 1, 1, none⟩)
  | c, 9, x, w => x = .slice B2 m2 d2
  | c, 10, x, w => ∃ g, x = .slice (some ⟨g, 0, none⟩) 2 2 ∧ g < w.heap.size ∧ w.cell? ⟨g, 0, none⟩ = some (.slice A2 n2 c2) ∧ w.cell? ⟨g, 1, none⟩ = some (.slice B2 m2 d2)
  | c, 11, x, w => ∃ A c', x = .slice A (n2 + m2) c' ∧ w.ownsRow B0 3 1 x (n2 + m2) (ints (xl ++ yl))
  | c, 12, x, w => x = .pointer (some ⟨N, 2, none⟩)
  | c, 13, x, w => x = .bool ex
  | c, 14, x, w => x = .bool ex
  | c, 15, x, w => x = cond ex undef (.pointer (some ⟨N + 1, 2, none⟩))
  | c, 16, x, w => x = cond ex undef (.bool ey)
  | c, 17, x, w => x = .bool (ex || ey)
  | c, 18, x, w => ∃ a1 k1 a2 k2, x = .agg #[.slice a1 (n1 + m1) k1, .slice a2 (n2 + m2) k2, .bool (ex || ey)] ∧ w.ownsRow B0 3 1 (.slice a1 (n1 + m1) k1) (n1 + m1) (ints (xf ++ yf)) ∧ w.ownsRow B0 3 1 (.slice a2 (n2 + m2) k2) (n2 + m2) (ints (xl ++ yl))
  | _, _, _, _ => True
theorem factEi_bl {N B0 : Nat} {A1 A2 B1 B2 : Option Addr} {n1 c1 n2 c2 m1 d1 m2 d2 : Nat} {ex ey : Bool} {xf xl yf yl : List Nat} {u u' : World} (hb : Below u.heap.size u u') {c j : Nat} {x : Value}
    (h : factEi N B0 A1 A2 B1 B2 n1 c1 n2 c2 m1 d1 m2 d2 ex ey xf xl yf yl c j x u) : factEi N B0 A1 A2 B1 B2 n1 c1 n2 c2 m1 d1 m2 d2 ex ey xf xl yf yl c j x u' := by
  match j with
  | 0 | 1 | 2 | 3 | 6 | 7 | 8 | 9 | 12 | 13 | 14 | 15 | 16 | 17 => exact h
  | 4 | 10 =>
    obtain ⟨g, e, hg, h0, h1⟩ := h
    exact ⟨g, e, Nat.lt_of_lt_of_le hg hb.size, (hb.cell (p := ⟨g, 0, none⟩) hg).trans h0, (hb.cell (p := ⟨g, 1, none⟩) hg).trans h1⟩
  | 5 | 11 =>
    obtain ⟨A, c', e, ho⟩ := h
    exact ⟨A, c', e, own_later ho hb⟩
  | 18 =>
    obtain ⟨a1, k1, a2, k2, e, h1, h2⟩ := h
    exact ⟨a1, k1, a2, k2, e, own_later h1 hb, own_later h2 hb⟩
  | _ + 19 => exact trivial
set_option maxHeartbeats 4000000 in
theorem either_any (xf xl yf yl : List Nat) (ex ey : Bool) (vx1 vx2 vy1 vy2 : Value) (w : World) (hx1 : IL w vx1 xf) (hx2 : IL w vx2 xl) (hy1 : IL w vy1 yf) (hy2 : IL w vy2 yl) (hyf : yf ≠ []) (hyl : yl ≠ [])
    (h1 : xf.length ≤ 10000000) (h2 : xl.length ≤ 10000000) (h3 : yf.length ≤ 10000000) (h4 : yl.length ≤ 10000000) :
    Calls Tryz.prog 169 #[.agg #[vx1, vx2, .bool ex], .agg #[vy1, vy2, .bool ey]] w fun e w' => ∃ v1 v2, e = .returned (.agg #[v1, v2, .bool (ex || ey)]) ∧ w'.ownsRow w.heap.size 3 1 v1 (xf.length + yf.length) (ints (xf ++ yf)) ∧ w'.ownsRow w.heap.size 3 1 v2 (xl.length + yl.length) (ints (xl ++ yl)) ∧ Below w.heap.size w w' := by
  obtain ⟨A1, c1, rfl, hc1⟩ := hx1.form
  obtain ⟨A2, c2, rfl, hc2⟩ := hx2.form
  obtain ⟨B1, d1, rfl, hd1⟩ := hy1.form
  obtain ⟨B2, d2, rfl, hd2⟩ := hy2.form
  have HI := Lib.hid (And.intro hx1 (And.intro hx2 (And.intro hy1 hy2)))
  obtain ⟨n1, hn1⟩ : ∃ n, xf.length = n := ⟨_, rfl⟩
  obtain ⟨n2, hn2⟩ : ∃ n, xl.length = n := ⟨_, rfl⟩
  obtain ⟨m1, hm1⟩ : ∃ n, yf.length = n := ⟨_, rfl⟩
  obtain ⟨m2, hm2⟩ : ∃ n, yl.length = n := ⟨_, rfl⟩
  rw [hn1, hn2, hm1, hm2] at HI
  rw [hn1] at h1 hc1 ⊢
  rw [hn2] at h2 hc2 ⊢
  rw [hm1] at h3 hd1 ⊢
  rw [hm2] at h4 hd2 ⊢
  have HN := Lib.hid (And.intro hn1 (And.intro hn2 (And.intro hm1 hm2)))
  clear hx1 hx2 hy1 hy2 hn1 hn2 hm1 hm2
  go_enter Tryz.func169, Tryz.ntmps169
  go_wp2_with fail
  obtain ⟨N, hN⟩ : ∃ N, N = w.heap.size := ⟨_, rfl⟩
  obtain ⟨WA, hWA⟩ : ∃ W, W = (((w.alloc (.cells #[.slice A1 n1 c1, .slice A2 n2 c2, .bool ex] 184)).alloc (.cells #[.slice B1 m1 d1, .slice B2 m2 d2, .bool ey] 184)).alloc (.cells #[.slice none 0 0, .slice none 0 0, .bool false] 184)) := ⟨_, rfl⟩
  have hbA : Below w.heap.size w WA := by rw [hWA]; exact (((Below.refl _ _).alloc (Nat.le_refl _) _).alloc (by simp) _).alloc (by simp; omega) _
  have hzA : WA.heap.size = w.heap.size + 3 := by rw [hWA]; simp
  have r0 : WA.heap[w.heap.size]? = some (.cells #[.slice A1 n1 c1, .slice A2 n2 c2, .bool ex] 184 (0, 0)) := by rw [hWA, old_alloc _ _ _ (by simp; omega), old_alloc _ _ _ (by simp)]; exact heap_alloc_new w _
  have r1 : WA.heap[w.heap.size + 1]? = some (.cells #[.slice B1 m1 d1, .slice B2 m2 d2, .bool ey] 184 (0, 0)) := by rw [hWA, old_alloc _ _ _ (by simp)]; simpa using heap_alloc_new (w.alloc _) _
  have r2 : WA.heap[w.heap.size + 1 + 1]? = some (.cells #[.slice none 0 0, .slice none 0 0, .bool false] 184 (0, 0)) := by rw [hWA]; simpa using heap_alloc_new ((w.alloc _).alloc _) _
  rw [← hWA]
  obtain ⟨p0, p1, p2⟩ := cells3 r0
  obtain ⟨q0, q1, q2⟩ := cells3 r1
  have I1 := Lib.hid (HI.out.1.later hbA)
  have I2 := Lib.hid (HI.out.2.1.later hbA)
  have J1 := Lib.hid (HI.out.2.2.1.later hbA)
  have J2 := Lib.hid (HI.out.2.2.2.later hbA)
  have HBA := Lib.hid hbA
  have hsz : w.heap.size ≤ WA.heap.size := by omega
  rw [← hN] at r2 p0 p1 p2 q0 q1 q2 ⊢
  have HR2 := Lib.hid r2
  have l1 : N < WA.heap.size := by omega
  have l2 : N + 1 < WA.heap.size := by omega
  have l3 : N + 1 + 1 < WA.heap.size := by omega
  have HNN := Lib.hid hN
  have hS0 : Below WA.heap.size WA WA.drew := (Below.refl _ _).drew
  clear hbA hzA r0 r1 r2 hWA hN
  refine wp_region_chain 19 [] (factEi N WA.heap.size A1 A2 B1 B2 n1 c1 n2 c2 m1 d1 m2 d2 ex ey xf xl yf yl) (fun _ w' => Below WA.heap.size WA w') (by kernel_rfl) (by kernel_rfl) (by kernel_rfl) (by kernel_rfl) (by kernel_rfl) (by kernel_rfl) (by decide) hS0 ?_ ?_
  · simp only [List.take_succ_cons, List.take_zero]
    refine HSteps.pure (by decide) ?_ (HSteps.pure (by decide) ?_ (HSteps.pure (by decide) ?_ (HSteps.pure (by decide) ?_ (HSteps.free (by decide) ?_ (HSteps.free (by decide) ?_ (HSteps.pure (by decide) ?_ (HSteps.pure (by decide) ?_ (HSteps.pure (by decide) ?_ (HSteps.pure (by decide) ?_ (HSteps.free (by decide) ?_ (HSteps.free (by decide) ?_ (HSteps.pure (by decide) ?_ (HSteps.pure (by decide) ?_ (HSteps.pure (by decide) ?_ (HSteps.pure (by decide) ?_ (HSteps.pure (by decide) ?_ (HSteps.pure (by decide) ?_ (HSteps.pure (by decide) ?_ (HSteps.nil)))))))))))))))))))
    · intro v wz c hlo hS hE K hK
      simp only [putAll, Act.put, List.setIfInBounds_toArray, List.set_cons_zero, List.set_cons_succ, Nat.zero_add, Nat.reduceAdd, List.take_succ_cons, List.take_zero] at hK ⊢
      have HX := Lib.hid hS
      clear hS hE hlo
      go_wp2_with fail
      exact hK.out _ rfl
    · intro v wz c hlo hS hE K hK
      simp only [putAll, Act.put, List.setIfInBounds_toArray, List.set_cons_zero, List.set_cons_succ, Nat.zero_add, Nat.reduceAdd, List.take_succ_cons, List.take_zero] at hK ⊢
      have e0 : v 0 = _ := hE.1 rfl
      rw [e0] at hK ⊢
      have c1 := (hS.cell (p := ⟨N, 0, none⟩) l1).trans p0
      have HX := Lib.hid hS
      clear hS hE hlo
      go_wp2_with fail
      exact hK.out _ rfl
    · intro v wz c hlo hS hE K hK
      simp only [putAll, Act.put, List.setIfInBounds_toArray, List.set_cons_zero, List.set_cons_succ, Nat.zero_add, Nat.reduceAdd, List.take_succ_cons, List.take_zero] at hK ⊢
      have HX := Lib.hid hS
      clear hS hE hlo
      go_wp2_with fail
      exact hK.out _ rfl
    · intro v wz c hlo hS hE K hK
      simp only [putAll, Act.put, List.setIfInBounds_toArray, List.set_cons_zero, List.set_cons_succ, Nat.zero_add, Nat.reduceAdd, List.take_succ_cons, List.take_zero] at hK ⊢
      have e2 : v 2 = _ := hE.1 rfl
      rw [e2] at hK ⊢
      have c1 := (hS.cell (p := ⟨N + 1, 0, none⟩) l2).trans q0
      have HX := Lib.hid hS
      clear hS hE hlo
      go_wp2_with fail
      exact hK.out _ rfl
    · intro v wz c hlo hS hE K hK
      simp only [putAll, Act.put, List.setIfInBounds_toArray, List.set_cons_zero, List.set_cons_succ, Nat.zero_add, Nat.reduceAdd, List.take_succ_cons, List.take_zero] at hK ⊢
      have e1 : v 1 = _ := hE.1 rfl
      have e3 : v 3 = _ := hE.2.1 rfl
      rw [e1, e3] at hK ⊢
      have hbz : Below wz.heap.size wz (wz.alloc (.cells #[.slice A1 n1 c1, .slice B1 m1 d1] 22)) := (Below.refl _ _).alloc (Nat.le_refl _) _
      have HX := Lib.hid hS
      have HBZ := Lib.hid hbz
      clear hS hE hlo hbz
      go_wp2_with fail
      exact hK.out _ _ (fun j y _ h => factEi_bl HBZ.out h) (HX.out.trans (HBZ.out.mono HX.out.size)) ⟨wz.heap.size, rfl, by simp, by go_simp, by go_simp⟩
    · intro v wz c hlo hS hE K hK
      simp only [putAll, Act.put, List.setIfInBounds_toArray, List.set_cons_zero, List.set_cons_succ, Nat.zero_add, Nat.reduceAdd, List.take_succ_cons, List.take_zero] at hK ⊢
      have E4 := hE.1 rfl
      obtain ⟨g, e4, hg, g0, g1⟩ := E4
      rw [e4] at hK ⊢
      have hz := hS.size
      have hcc := concat_any _ _ xf yf g 2 wz (I1.out.later hS) (J1.out.later hS) hyf (by have := HN.out; omega) hg (by decide) g0 g1
      have HCC := Lib.hid hcc
      have HX := Lib.hid hS
      clear hS hE hlo hcc g0 g1
      go_wp2_with fail
      refine HCC.out.mono ?_
      rintro e w1 ⟨v1, rfl, hown, hb⟩
      rw [List.length_append, HN.out.1, HN.out.2.2.1] at hown
      have hown2 : w1.ownsRow WA.heap.size 3 1 v1 _ _ := hown.base_mono hz
      obtain ⟨A', c', rfl, -, -⟩ := own_form hown2
      have HO := Lib.hid hown2
      have HB := Lib.hid hb
      clear hown hown2 hb
      go_wp2_with fail
      exact hK.out _ _ (fun j y _ h => factEi_bl HB.out h) (HX.out.trans (HB.out.mono HX.out.size)) ⟨A', c', rfl, HO.out⟩
    · intro v wz c hlo hS hE K hK
      simp only [putAll, Act.put, List.setIfInBounds_toArray, List.set_cons_zero, List.set_cons_succ, Nat.zero_add, Nat.reduceAdd, List.take_succ_cons, List.take_zero] at hK ⊢
      have HX := Lib.hid hS
      clear hS hE hlo
      go_wp2_with fail
      exact hK.out _ rfl
    · intro v wz c hlo hS hE K hK
      simp only [putAll, Act.put, List.setIfInBounds_toArray, List.set_cons_zero, List.set_cons_succ, Nat.zero_add, Nat.reduceAdd, List.take_succ_cons, List.take_zero] at hK ⊢
      have e6 : v 6 = _ := hE.1 rfl
      rw [e6] at hK ⊢
      have c1 := (hS.cell (p := ⟨N, 1, none⟩) l1).trans p1
      have HX := Lib.hid hS
      clear hS hE hlo
      go_wp2_with fail
      exact hK.out _ rfl
    · intro v wz c hlo hS hE K hK
      simp only [putAll, Act.put, List.setIfInBounds_toArray, List.set_cons_zero, List.set_cons_succ, Nat.zero_add, Nat.reduceAdd, List.take_succ_cons, List.take_zero] at hK ⊢
      have HX := Lib.hid hS
      clear hS hE hlo
      go_wp2_with fail
      exact hK.out _ rfl
    · intro v wz c hlo hS hE K hK
      simp only [putAll, Act.put, List.setIfInBounds_toArray, List.set_cons_zero, List.set_cons_succ, Nat.zero_add, Nat.reduceAdd, List.take_succ_cons, List.take_zero] at hK ⊢
      have e8 : v 8 = _ := hE.1 rfl
      rw [e8] at hK ⊢
      have c1 := (hS.cell (p := ⟨N + 1, 1, none⟩) l2).trans q1
      have HX := Lib.hid hS
      clear hS hE hlo
      go_wp2_with fail
      exact hK.out _ rfl
    · intro v wz c hlo hS hE K hK
      simp only [putAll, Act.put, List.setIfInBounds_toArray, List.set_cons_zero, List.set_cons_succ, Nat.zero_add, Nat.reduceAdd, List.take_succ_cons, List.take_zero] at hK ⊢
      have e7 : v 7 = _ := hE.1 rfl
      have e9 : v 9 = _ := hE.2.1 rfl
      rw [e7, e9] at hK ⊢
      have hbz : Below wz.heap.size wz (wz.alloc (.cells #[.slice A2 n2 c2, .slice B2 m2 d2] 22)) := (Below.refl _ _).alloc (Nat.le_refl _) _
      have HX := Lib.hid hS
      have HBZ := Lib.hid hbz
      clear hS hE hlo hbz
      go_wp2_with fail
      exact hK.out _ _ (fun j y _ h => factEi_bl HBZ.out h) (HX.out.trans (HBZ.out.mono HX.out.size)) ⟨wz.heap.size, rfl, by simp, by go_simp, by go_simp⟩
    · intro v wz c hlo hS hE K hK
      simp only [putAll, Act.put, List.setIfInBounds_toArray, List.set_cons_zero, List.set_cons_succ, Nat.zero_add, Nat.reduceAdd, List.take_succ_cons, List.take_zero] at hK ⊢
      have E10 := hE.1 rfl
      obtain ⟨g, e4, hg, g0, g1⟩ := E10
      rw [e4] at hK ⊢
      have hz := hS.size
      have hcc := concat_any _ _ xl yl g 2 wz (I2.out.later hS) (J2.out.later hS) hyl (by have := HN.out; omega) hg (by decide) g0 g1
      have HCC := Lib.hid hcc
      have HX := Lib.hid hS
      clear hS hE hlo hcc g0 g1
      go_wp2_with fail
      refine HCC.out.mono ?_
      rintro e w1 ⟨v1, rfl, hown, hb⟩
      rw [List.length_append, HN.out.2.1, HN.out.2.2.2] at hown
      have hown2 : w1.ownsRow WA.heap.size 3 1 v1 _ _ := hown.base_mono hz
      obtain ⟨A', c', rfl, -, -⟩ := own_form hown2
      have HO := Lib.hid hown2
      have HB := Lib.hid hb
      clear hown hown2 hb
      go_wp2_with fail
      exact hK.out _ _ (fun j y _ h => factEi_bl HB.out h) (HX.out.trans (HB.out.mono HX.out.size)) ⟨A', c', rfl, HO.out⟩
    · intro v wz c hlo hS hE K hK
      simp only [putAll, Act.put, List.setIfInBounds_toArray, List.set_cons_zero, List.set_cons_succ, Nat.zero_add, Nat.reduceAdd, List.take_succ_cons, List.take_zero] at hK ⊢
      have HX := Lib.hid hS
      clear hS hE hlo
      go_wp2_with fail
      exact hK.out _ rfl
    · intro v wz c hlo hS hE K hK
      simp only [putAll, Act.put, List.setIfInBounds_toArray, List.set_cons_zero, List.set_cons_succ, Nat.zero_add, Nat.reduceAdd, List.take_succ_cons, List.take_zero] at hK ⊢
      have e12 : v 12 = _ := hE.1 rfl
      rw [e12] at hK ⊢
      have c1 := (hS.cell (p := ⟨N, 2, none⟩) l1).trans p2
      have HX := Lib.hid hS
      clear hS hE hlo
      go_wp2_with fail
      exact hK.out _ rfl
    · intro v wz c hlo hS hE K hK
      simp only [putAll, Act.put, List.setIfInBounds_toArray, List.set_cons_zero, List.set_cons_succ, Nat.zero_add, Nat.reduceAdd, List.take_succ_cons, List.take_zero] at hK ⊢
      have e13 : v 13 = _ := hE.1 rfl
      rw [e13] at hK ⊢
      have HX := Lib.hid hS
      clear hS hE hlo
      go_wp2_with fail
      exact hK.out _ rfl
    · intro v wz c hlo hS hE K hK
      simp only [putAll, Act.put, List.setIfInBounds_toArray, List.set_cons_zero, List.set_cons_succ, Nat.zero_add, Nat.reduceAdd, List.take_succ_cons, List.take_zero] at hK ⊢
      have e14 : v 14 = _ := hE.1 rfl
      rw [e14] at hK ⊢
      cases ex
      all_goals
        have HX := Lib.hid hS
        clear hS hE hlo
        go_wp2_with fail
        exact hK.out _ rfl
    · intro v wz c hlo hS hE K hK
      simp only [putAll, Act.put, List.setIfInBounds_toArray, List.set_cons_zero, List.set_cons_succ, Nat.zero_add, Nat.reduceAdd, List.take_succ_cons, List.take_zero] at hK ⊢
      have e15 : v 15 = _ := hE.1 rfl
      have e14 : v 14 = _ := hE.2.1 rfl
      rw [e15, e14] at hK ⊢
      have c1 := (hS.cell (p := ⟨N + 1, 2, none⟩) l2).trans q2
      cases ex
      all_goals
        have HX := Lib.hid hS
        clear hS hE hlo
        go_wp2_with fail
        exact hK.out _ rfl
    · intro v wz c hlo hS hE K hK
      simp only [putAll, Act.put, List.setIfInBounds_toArray, List.set_cons_zero, List.set_cons_succ, Nat.zero_add, Nat.reduceAdd, List.take_succ_cons, List.take_zero] at hK ⊢
      have e14 : v 14 = _ := hE.1 rfl
      have e16 : v 16 = _ := hE.2.1 rfl
      rw [e14, e16] at hK ⊢
      cases ex
      all_goals
        have HX := Lib.hid hS
        clear hS hE hlo
        go_wp2_with fail
        exact hK.out _ rfl
    · intro v wz c hlo hS hE K hK
      simp only [putAll, Act.put, List.setIfInBounds_toArray, List.set_cons_zero, List.set_cons_succ, Nat.zero_add, Nat.reduceAdd, List.take_succ_cons, List.take_zero] at hK ⊢
      have e17 : v 17 = _ := hE.2.2.1 rfl
      rw [e17] at hK ⊢
      have E5 := hE.1 rfl
      have E11 := hE.2.1 rfl
      obtain ⟨a1, k1, h5, o5⟩ := E5
      obtain ⟨a2, k2, h11, o11⟩ := E11
      rw [h5] at o5
      rw [h11] at o11
      rw [h5, h11] at hK ⊢
      have HO := Lib.hid (And.intro o5 o11)
      have HX := Lib.hid hS
      clear hS hE hlo o5 o11 h5 h11
      go_wp2_with fail
      exact hK.out _ ⟨a1, k1, a2, k2, rfl, HO.out.1, HO.out.2⟩
  · intro v wz hS hF
    have e0 : v 0 = _ := hF 0 (by decide)
    have e1 : v 1 = _ := hF 1 (by decide)
    have e2 : v 2 = _ := hF 2 (by decide)
    have e3 : v 3 = _ := hF 3 (by decide)
    have e6 : v 6 = _ := hF 6 (by decide)
    have e7 : v 7 = _ := hF 7 (by decide)
    have e8 : v 8 = _ := hF 8 (by decide)
    have e9 : v 9 = _ := hF 9 (by decide)
    have e12 : v 12 = _ := hF 12 (by decide)
    have e13 : v 13 = _ := hF 13 (by decide)
    have e14 : v 14 = _ := hF 14 (by decide)
    have e15 : v 15 = _ := hF 15 (by decide)
    have e16 : v 16 = _ := hF 16 (by decide)
    have e17 : v 17 = _ := hF 17 (by decide)
    have E4 := hF 4 (by decide)
    have E5 := hF 5 (by decide)
    have E10 := hF 10 (by decide)
    have E11 := hF 11 (by decide)
    have E18 := hF 18 (by decide)
    simp only [putAll, Act.put, List.setIfInBounds_toArray, List.set_cons_zero, List.set_cons_succ, Nat.zero_add, Nat.reduceAdd, List.take_succ_cons, List.take_zero, List.drop_succ_cons, List.drop_zero, e0, e1, e2, e3, e6, e7, e8, e9, e12, e13, e14, e15, e16, e17]
    clear hF e0 e1 e2 e3 e6 e7 e8 e9 e12 e13 e14 e15 e16 e17
    obtain ⟨a1, k1, a2, k2, e18, o1, o2⟩ := E18
    rw [e18]
    have hr := (hS.block _ l3).trans HR2.out
    obtain ⟨t0, t1, t2⟩ := cells3 hr
    have f0 : wz.frozen? ⟨N + 1 + 1, 0, none⟩ = false := by simp [World.frozen?, hr]
    have f1 : wz.frozen? ⟨N + 1 + 1, 1, none⟩ = false := by simp [World.frozen?, hr]
    have f2 : wz.frozen? ⟨N + 1 + 1, 2, none⟩ = false := by simp [World.frozen?, hr]
    have HO := Lib.hid (And.intro o1 (And.intro o2 (And.intro hS hr)))
    clear hS o1 o2 e18 E4 E5 E10 E11 hr
    go_wp2_with fail
    refine post_named fun W hW => ?_
    refine bodyPost_ret (v := .agg #[.slice a1 (n1 + m1) k1, .slice a2 (n2 + m2) k2, .bool (ex || ey)]) (by rw [hW]; simp [results, Tryz.results169, go_sem, t0, t1, t2]; try rfl) rfl ?_
    have hne := HNN.out
    have hgb : wz.grownBy W (some (N + 1 + 1)) := by rw [hW]; repeat (first | exact gb_refl _ _ | refine gb_alloc ?_ _ | refine gb_setN ?_ _ _ | refine gb_drew ?_)
    have hkeep : ∀ {v : Value} {n : Nat} {xs : List Value}, wz.ownsRow WA.heap.size 3 1 v n xs → W.ownsRow w.heap.size 3 1 v n xs := fun h => (own_same h fun g hg => hgb.block g (h.lt g hg).2 (fun e => by injection e with e; have := (h.lt g hg).1; omega)).base_mono hsz
    exact ⟨_, _, rfl, hkeep HO.out.1, hkeep HO.out.2.1, (HBA.out.trans (HO.out.2.2.1.mono HBA.out.size)).grown hgb (by have := HO.out.2.2.1.size; omega) (fun k hk => by injection hk with hk; omega)⟩
end Go.Proofs.YtoaibhacognbjaaGreatDoor
namespace Go.Proofs.YtoaibhacognbjaaGreatDoor
set_option linter.unusedVariables false
set_option linter.unusedSimpArgs false
set_option maxRecDepth 100000
open Go.RowKit
-- How much longer the followers of a position may become.
mutual
def cstF : Nd → Nat
  | .mk op _ kids _ mx => if op = 1 then 0 else if op = 4 then mx.toNat * (cstH kids + 360000) else cstS kids
def cstS : List Nd → Nat
  | [] => 0
  | k :: r => (cstF k + 360000) + cstS r
def cstH : List Nd → Nat
  | [] => 0
  | k :: _ => cstF k
end
theorem posS_mem : ∀ {l : List Nd} {k : Nd}, k ∈ l → posF k ≤ posS l
  | a :: r, k, h => by
    rw [posS]
    rcases List.mem_cons.1 h with rfl | h
    · omega
    · have := posS_mem h; omega
theorem kids_ge {rs : List (Nat × Nat)} {kids : List Nd} {op mn mx : Int} (hR : rightF (.mk op rs kids mn mx) = true) (h : op = 2 ∨ op = 3) : 2 ≤ kids.length := by
  have h1 := ((rightF_iff _).1 hR).1
  rw [rightN_2 (nd := .mk op rs kids mn mx) h] at h1
  simp only [sevN, Bool.and_eq_true, decide_eq_true_eq] at h1
  exact h1.1
theorem pos_pos : ∀ (m : Nat) (n : Nd), nodesT n ≤ m → rightF n = true → 1 ≤ posF n := by
  intro m
  induction m with
  | zero => intro n h; cases n; rw [nodesT] at h; omega
  | succ m ih =>
    rintro ⟨op, rs, kids, mn, mx⟩ h hR
    obtain ⟨hop, hRs⟩ := rightF_op hR
    rw [nodesT] at h
    have hkid : ∀ k ∈ kids, 1 ≤ posF k := fun k hk => ih k (by have := nodesT_kid hk; omega) (rightFs_mem hRs hk)
    have hsum : 2 ≤ kids.length → 1 ≤ posS kids := fun h2 => by
      match kids, h2 with
      | a :: r, _ => have := hkid a (by simp); have := posS_mem (show a ∈ a :: r by simp); omega
    rw [posF]
    rcases hop with rfl | rfl | rfl | ⟨rfl, hk1, hm0, hm1, hm2⟩
    · simp
    · have := hsum (kids_ge hR (.inl rfl)); simp; omega
    · have := hsum (kids_ge hR (.inr rfl)); simp; omega
    · match kids, hk1 with
      | [a], _ =>
        have h1 := hkid a (by simp)
        have h2 : 1 * 1 ≤ mx.toNat * posF a := Nat.mul_le_mul (by omega) h1
        simp [posH]; omega
/-- Without the cap. -/
theorem pos_seq {rs : List (Nat × Nat)} {kids : List Nd} {op mn mx : Int} (h : op = 2 ∨ op = 3) (hp : posF (.mk op rs kids mn mx) ≤ 600) : posF (.mk op rs kids mn mx) = posS kids := by
  rw [posF] at hp ⊢
  rw [if_neg (by omega), if_neg (by omega)] at hp ⊢
  omega
theorem pos_rep {rs : List (Nat × Nat)} {kids : List Nd} {mn mx : Int} (hp : posF (.mk 4 rs kids mn mx) ≤ 600) : posF (.mk 4 rs kids mn mx) = mx.toNat * posH kids := by
  rw [posF] at hp ⊢
  rw [if_neg (by decide), if_pos rfl] at hp ⊢
  omega
theorem cst_bd : ∀ (m : Nat) (n : Nd), nodesT n ≤ m → rightF n = true → posF n ≤ 600 → cstF n ≤ 360000 * (depthT n * posF n) := by
  intro m
  induction m with
  | zero => intro n h; cases n; rw [nodesT] at h; omega
  | succ m ih =>
    rintro ⟨op, rs, kids, mn, mx⟩ h hR hp
    have h600 := hp
    obtain ⟨hop, hRs⟩ := rightF_op hR
    rw [nodesT] at h
    have hpos : ∀ k ∈ kids, 1 ≤ posF k := fun k hk => pos_pos _ k (Nat.le_refl _) (rightFs_mem hRs hk)
    have hlist : ∀ (l : List Nd) (D : Nat), (∀ k ∈ l, k ∈ kids) → (∀ k ∈ l, depthT k ≤ D) → (∀ k ∈ l, posF k ≤ 600) → cstS l ≤ 360000 * ((1 + D) * posS l) := by
      intro l D
      induction l with
      | nil => intro _ _ _; rw [cstS]; exact Nat.zero_le _
      | cons a r ihl =>
        intro h1 h2 h3
        have i1 := ihl (fun k hk => h1 k (by simp [hk])) (fun k hk => h2 k (by simp [hk])) (fun k hk => h3 k (by simp [hk]))
        have i2 := ih a (by have := nodesT_kid (h1 a (by simp)); omega) (rightFs_mem hRs (h1 a (by simp))) (h3 a (by simp))
        have i3 := hpos a (h1 a (by simp))
        have i4 : depthT a * posF a ≤ D * posF a := Nat.mul_le_mul_right _ (h2 a (by simp))
        rw [cstS, posS, Nat.mul_add, Nat.mul_add]
        have i5 : (1 + D) * posF a = posF a + D * posF a := by rw [Nat.add_mul, Nat.one_mul]
        omega
    have hdk : ∀ (l : List Nd), ∀ k ∈ l, depthT k ≤ depthTs l := by
      intro l
      induction l with
      | nil => intro k hk; cases hk
      | cons a r ihl =>
        intro k hk
        rw [depthTs]
        rcases List.mem_cons.1 hk with rfl | hk
        · omega
        · have := ihl k hk; omega
    rw [cstF, depthT]
    rcases hop with rfl | rfl | rfl | ⟨rfl, hk1, hm0, hm1, hm2⟩
    · rw [if_pos rfl]; exact Nat.zero_le _
    · rw [if_neg (by decide), if_neg (by decide), pos_seq (.inl rfl) h600]
      rw [pos_seq (.inl rfl) h600] at hp
      exact hlist kids _ (fun _ h => h) (hdk kids) fun k hk => Nat.le_trans (posS_mem hk) hp
    · rw [if_neg (by decide), if_neg (by decide), pos_seq (.inr rfl) h600]
      rw [pos_seq (.inr rfl) h600] at hp
      exact hlist kids _ (fun _ h => h) (hdk kids) fun k hk => Nat.le_trans (posS_mem hk) hp
    · rw [if_neg (by decide), if_pos rfl, pos_rep h600]
      rw [pos_rep h600] at hp
      match kids, hk1 with
      | [a], _ =>
        simp only [posH] at hp
        simp only [cstH, posH, depthTs, Nat.max_zero]
        have i1 := hpos a (by simp)
        have i6 : 1 * posF a ≤ mx.toNat * posF a := Nat.mul_le_mul_right _ (by omega)
        have i2 := ih a (by have := nodesT_kid (show a ∈ [a] by simp); omega) (rightFs_mem hRs (show a ∈ [a] by simp)) (by omega)
        have i7 : cstF a + 360000 ≤ 360000 * ((1 + depthT a) * posF a) := by
          have : (1 + depthT a) * posF a = posF a + depthT a * posF a := by rw [Nat.add_mul, Nat.one_mul]
          omega
        have i8 := Nat.mul_le_mul_left mx.toNat i7
        have e : mx.toNat * (360000 * ((1 + depthT a) * posF a)) = 360000 * ((1 + depthT a) * (mx.toNat * posF a)) := by
          rw [Nat.mul_left_comm, Nat.mul_left_comm mx.toNat]
        rw [← e]; exact i8
theorem Wr.iff {b b' : Pb} {x : Prt} {K K' : List Nat → Prop} (h : Wr b b' x K) (hk : ∀ w, K w ↔ K' w) : Wr b b' x K' := ⟨h.len, h.sets, h.fol, h.good, fun w => (h.lang w).trans (hk w)⟩
/-- Numbers that ascend within bounds are no more than fit in. -/
theorem asc_len : ∀ {l : List Nat} {a n : Nat}, l.Pairwise (· < ·) → (∀ p ∈ l, a ≤ p ∧ p < a + n) → l.length ≤ n
  | [], _, _, _, _ => Nat.zero_le _
  | p :: r, a, n, h, hb => by
    rw [List.pairwise_cons] at h
    have hp := hb p (by simp)
    have := asc_len (a := p + 1) (n := a + n - (p + 1)) h.2 (fun q hq => by have := h.1 q hq; have := hb q (by simp [hq]); omega)
    rw [List.length_cons]; omega
/-- What 'write' leaves: the builder with more positions, a part of them. -/
def WrP (w0 : World) (s : Nat) (x2 x3 x4 : Value) (b : Pb) (fp : List Nat) (Lg : List Nat → Prop) (n K : Nat) (w : World) (e : Ending) (w' : World) : Prop :=
  ∃ b' x fp' v1 v2, e = .returned (.agg #[v1, v2, .bool x.emp]) ∧ BuI w0 s x2 x3 x4 b' fp' w' ∧ KeepF fp fp' w w' ∧ (IL w' v1 x.first ∧ outOf fp' v1) ∧ (IL w' v2 x.last ∧ outOf fp' v2) ∧ Wr b b' x Lg ∧ b'.fol.length = b.fol.length + n ∧ (x.first ≠ [] ∧ x.last ≠ []) ∧ (x.first.length ≤ n ∧ x.last.length ≤ n) ∧ ∀ l ∈ b'.fol, l.length ≤ K
/-- A call of 'write' for a node. -/
def WrCall (w0 : World) (s : Nat) (x2 x3 x4 : Value) (nd : Nd) (vs : List Value) : Prop := ∀ w b fp K, BuI w0 s x2 x3 x4 b fp w → b.sets.length = b.fol.length → b.fol.length + posF nd ≤ 600 → (∀ l ∈ b.fol, l.length ≤ K) → K + cstF nd ≤ 10000000000 →
  Calls Tryz.prog 135 #[.pointer (some ⟨s, 0, none⟩), .agg vs.toArray] w (WrP w0 s x2 x3 x4 b fp (langN nd) (posF nd) (K + cstF nd) w)
/-- A list of ints does not lie in a part's box. -/
theorem IL.ne_part {w : World} {v : Value} {l : List Nat} (h : IL w v l) (hl : l ≠ []) {N : Nat} {A1 A2 : Option Addr} {n1 c1 n2 c2 : Nat} {e : Bool} {T : TypeId} (hN : w.heap[N]? = some (.cells #[.slice A1 n1 c1, .slice A2 n2 c2, .bool e] T (0, 0))) : v.ownBlock ≠ some N := by
  rcases h with ⟨h1, -⟩ | ⟨g, f, c, rfl, h0, hg, hc, hcell⟩
  · exact absurd h1 hl
  · intro e
    simp [Value.ownBlock] at e
    subst e
    have h0' : 0 < l.length := by cases l with | nil => exact absurd rfl hl | cons a r => simp
    have h1 := hcell 0 h0'
    rw [cell_of_row _ _ _ _ _ _ hN] at h1
    match f, h1 with
    | 0, h1 => simp at h1
    | 1, h1 => simp at h1
    | 2, h1 => simp at h1
    | f + 3, h1 => simp at h1
end Go.Proofs.YtoaibhacognbjaaGreatDoor
namespace Go.Proofs.YtoaibhacognbjaaGreatDoor
set_option linter.unusedVariables false
set_option linter.unusedSimpArgs false
set_option maxRecDepth 100000
open Go.RowKit
theorem KeepF.weak {f1 f2 : List Nat} {a b : World} (h : KeepF f1 f2 a b) : KeepF f1 [] a b := ⟨h.os, h.tape, h.output, h.size, h.blk, fun k hk => by cases hk⟩
def StC6 (fp : List Nat) (W : World) (c : Nat) (wz : World) : Prop := KeepF fp [] W wz ∧ (c = 0 → Below W.heap.size W wz)
/-- What 'out = b.behind(out, b.write(..))' has computed. -/
def CpR (w0 : World) (s : Nat) (x2 x3 x4 : Value) (b : Pb) (fp : List Nat) (Lg : List Nat → Prop) (pk KK : Nat) (xo : Prt) (W : World) (x : Value) (w : World) : Prop :=
  ∃ b' y fp2 u1 u2, x = .agg #[u1, u2, .bool (behP xo y).emp] ∧ BuI w0 s x2 x3 x4 (behB b' xo y) fp2 w ∧ KeepF fp fp2 W w ∧ (IL w u1 (behP xo y).first ∧ outOf fp2 u1) ∧ (IL w u2 (behP xo y).last ∧ outOf fp2 u2) ∧ Wr b b' y Lg ∧ b'.fol.length = b.fol.length + pk ∧ (y.first ≠ [] ∧ y.last ≠ []) ∧ (y.first.length ≤ pk ∧ y.last.length ≤ pk) ∧ ∀ l ∈ b'.fol, l.length ≤ KK
def factC6 (w0 : World) (s : Nat) (x2 x3 x4 : Value) (b : Pb) (fp : List Nat) (Lg : List Nat → Prop) (pk KK : Nat) (W : World) (N g f cK : Nat) (vo1 vo2 : Value) (eo : Bool) (kv : Value) (xo : Prt) : Nat → Nat → Value → World → Prop
  | c, 0, x, w => x = .pointer (some ⟨s, 0, none⟩)
  | c, 1, x, w => x = .agg #[vo1, vo2, .bool eo]
  | c, 2, x, w => x = .pointer (some ⟨s, 0, none⟩)
  | c, 3, x, w => x = .pointer (some ⟨N, 2, none⟩)
  | c, 4, x, w => x = .slice (some ⟨g, f, none⟩) 1 cK
  | c, 5, x, w => x = .pointer (some ⟨g, f, none⟩)
  | c, 6, x, w => x = kv
  | c, 7, x, w => c = 1 → WrP w0 s x2 x3 x4 b fp Lg pk KK W (.returned x) w
  | c, 8, x, w => c = 2 → CpR w0 s x2 x3 x4 b fp Lg pk KK xo W x w
  | _, _, _, _ => True
/-- What holds behind i copies: out is all of them; all is those behind j of which it may end. -/
def CpyI (b bi : Pb) (Lg : List Nat → Prop) (j i pk : Nat) (xo xa : Prt) : Prop :=
  Wr b bi xo (powL Lg i) ∧ bi.fol.length = b.fol.length + i * pk ∧ (xo.first.length ≤ i * pk ∧ xo.last.length ≤ i * pk) ∧ (xa.first.length ≤ i * (i * pk) ∧ xa.last.length ≤ i * (i * pk)) ∧ (i = 0 ∨ (xo.first ≠ [] ∧ xo.last ≠ [])) ∧ (i < j ∨ (RepI b bi Lg j i xo xa ∧ xa.first ≠ [] ∧ xa.last ≠ []))
theorem CpyI.step {b bi b' : Pb} {Lg : List Nat → Prop} {j i pk : Nat} {xo xa y : Prt} (h : CpyI b bi Lg j i pk xo xa) (hy : Wr bi b' y Lg) (hl : b'.fol.length = bi.fol.length + pk) (hne : y.first ≠ [] ∧ y.last ≠ []) (hln : y.first.length ≤ pk ∧ y.last.length ≤ pk) (hj : 1 ≤ j) :
    (i + 1 < j → CpyI b (behB b' xo y) Lg j (i + 1) pk (behP xo y) xa) ∧ (i + 1 = j → CpyI b (behB b' xo y) Lg j (i + 1) pk (behP xo y) (behP xo y)) ∧ (j < i + 1 → CpyI b (behB b' xo y) Lg j (i + 1) pk (behP xo y) (eitP xa (behP xo y)) ∧ xa.first ≠ [] ∧ xa.last ≠ []) := by
  obtain ⟨hw, hfl, ho, ha, h0, hor⟩ := h
  have hwb : Wr b (behB b' xo y) (behP xo y) (powL Lg (i + 1)) := (hw.beh hy).iff fun w => Iff.rfl
  have hfl2 : (behB b' xo y).fol.length = b.fol.length + (i + 1) * pk := by
    unfold behB; rw [addF_len, hl, hfl, Nat.succ_mul]; omega
  have hf1 : (behP xo y).first.length ≤ (i + 1) * pk ∧ (behP xo y).last.length ≤ (i + 1) * pk := by
    unfold behP
    rw [Nat.succ_mul]
    constructor
    · simp only
      split
      · rw [List.length_append]; omega
      · omega
    · simp only
      split
      · rw [List.length_append]; omega
      · omega
  have hne2 : (behP xo y).first ≠ [] ∧ (behP xo y).last ≠ [] := by
    unfold behP
    constructor
    · simp only
      split
      · intro e; exact hne.1 (List.append_eq_nil_iff.1 e).2
      · next he =>
        rcases h0 with h0 | h0
        · subst h0
          exact absurd ((hw.lang []).2 rfl) he
        · exact h0.1
    · simp only
      split
      · intro e; exact hne.2 (List.append_eq_nil_iff.1 e).2
      · exact hne.2
  have hq : i * (i * pk) ≤ (i + 1) * ((i + 1) * pk) := Nat.mul_le_mul (by omega) (Nat.mul_le_mul_right _ (by omega))
  have hq2 : (i + 1) * pk ≤ (i + 1) * ((i + 1) * pk) := by
    have := Nat.mul_le_mul_right ((i + 1) * pk) (show 1 ≤ i + 1 by omega)
    rwa [Nat.one_mul] at this
  have hq3 : i * (i * pk) + (i + 1) * pk ≤ (i + 1) * ((i + 1) * pk) := by
    have h1 : i * (i * pk) ≤ i * ((i + 1) * pk) := Nat.mul_le_mul_left _ (Nat.mul_le_mul_right _ (by omega))
    have h2 : (i + 1) * ((i + 1) * pk) = i * ((i + 1) * pk) + (i + 1) * pk := Nat.succ_mul _ _
    omega
  refine ⟨fun hlt => ⟨hwb, hfl2, hf1, by omega, .inr hne2, .inl hlt⟩, fun he => ⟨hwb, hfl2, hf1, by omega, .inr hne2, .inr ⟨?_, hne2⟩⟩, fun hgt => ?_⟩
  · rw [he]; rw [he] at hwb; exact RepI.start hwb
  · have hr := hor.resolve_left (by omega)
    refine ⟨⟨hwb, hfl2, hf1, ?_, .inr hne2, .inr ⟨hr.1.step hy (by omega), ?_, ?_⟩⟩, hr.2⟩
    · unfold eitP; simp only [List.length_append]; omega
    · unfold eitP; intro e; exact hr.2.1 (List.append_eq_nil_iff.1 e).1
    · unfold eitP; intro e; exact hr.2.2 (List.append_eq_nil_iff.1 e).1
/-- A part stored into its box. -/
abbrev st3 (w : World) (k : Nat) (a b c : Value) : World := ((w.setCell ⟨k, 0, none⟩ a).setCell ⟨k, 1, none⟩ b).setCell ⟨k, 2, none⟩ c
theorem st3_row {w : World} {k : Nat} {T : TypeId} {x y z : Value} (h : w.heap[k]? = some (.cells #[x, y, z] T (0, 0))) (a b c : Value) : (st3 w k a b c).heap[k]? = some (.cells #[a, b, c] T (0, 0)) := by
  have h1 := set_row3 h 0 a
  have h2 := set_row3 h1 1 b
  have h3 := set_row3 h2 2 c
  simpa using h3
theorem st3_old {w : World} {k k' : Nat} (h : k' ≠ k) (a b c : Value) : (st3 w k a b c).heap[k']? = w.heap[k']? := by
  unfold st3
  rw [Below.heap_setCell _ _ _ _ h, Below.heap_setCell _ _ _ _ h, Below.heap_setCell _ _ _ _ h]
theorem st3_size (w : World) (k : Nat) (a b c : Value) : (st3 w k a b c).heap.size = w.heap.size := by simp [st3, World.setCell]
theorem st3_gb (w : World) (k : Nat) (a b c : Value) : w.grownBy (st3 w k a b c) (some k) := gb_setN (gb_setN (gb_setN (gb_refl _ _) _ _) _ _) _ _
theorem IL.st3 {w : World} {v : Value} {l : List Nat} (h : IL w v l) {k : Nat} (hk : l ≠ [] → v.ownBlock ≠ some k) (a b c : Value) : IL (st3 w k a b c) v l := by
  rcases h with h | ⟨g, f, c', rfl, h0, hg, hc, hcell⟩
  · exact .inl h
  · have hgk : g ≠ k := fun e => hk h0 (by rw [e]; rfl)
    exact .inr ⟨g, f, c', rfl, h0, by rw [st3_size]; exact hg, hc, fun i hi => (World.cell?_of_block (a := ⟨g, f + i, none⟩) (st3_old hgk a b c)).trans (hcell i hi)⟩
/-- The memory behind some copies: the builder, the boxes, the two parts. -/
structure CpMem (w0 : World) (s : Nat) (x2 x3 x4 : Value) (fp : List Nat) (w : World) (nb : Array Value) (bi : Pb) (fpi : List Nat) (xo : Prt) (vo1 vo2 : Value) (xa : Prt) (va1 va2 : Value) (wr : World) : Prop where
  bu : BuI w0 s x2 x3 x4 bi fpi wr
  kf : KeepF fp fpi w wr
  ap : ∀ q ∈ fpi, q < w.heap.size ∨ w.heap.size + 4 ≤ q
  n0 : wr.heap[w.heap.size]? = some (.cells nb 29 (0, 0))
  n1 : wr.heap[w.heap.size + 1]? = some (.cells #[.slice none 0 0, .slice none 0 0, .bool false] 184 (0, 0))
  n2 : wr.heap[w.heap.size + 1 + 1]? = some (.cells #[vo1, vo2, .bool xo.emp] 184 (0, 0))
  n3 : wr.heap[w.heap.size + 1 + 1 + 1]? = some (.cells #[va1, va2, .bool xa.emp] 184 (0, 0))
  sz : w.heap.size + 4 ≤ wr.heap.size
  o1 : IL wr vo1 xo.first ∧ outOf fpi vo1
  o2 : IL wr vo2 xo.last ∧ outOf fpi vo2
  a1 : IL wr va1 xa.first ∧ outOf fpi va1
  a2 : IL wr va2 xa.last ∧ outOf fpi va2
section
variable {w0 : World} {s : Nat} {x2 x3 x4 : Value} {fp : List Nat} {w : World} {nb : Array Value} {bi : Pb} {fpi : List Nat} {xo : Prt} {vo1 vo2 : Value} {xa : Prt} {va1 va2 : Value} {wr : World}
theorem CpMem.later (h : CpMem w0 s x2 x3 x4 fp w nb bi fpi xo vo1 vo2 xa va1 va2 wr) {W : World} (hb : Below wr.heap.size wr W) : CpMem w0 s x2 x3 x4 fp w nb bi fpi xo vo1 vo2 xa va1 va2 W := by
  have hz := h.sz
  exact ⟨h.bu.later hb, h.kf.trans (KeepF.of_below hb), h.ap, (hb.block _ (by omega)).trans h.n0, (hb.block _ (by omega)).trans h.n1, (hb.block _ (by omega)).trans h.n2, (hb.block _ (by omega)).trans h.n3, Nat.le_trans hz hb.size, ⟨h.o1.1.later hb, h.o1.2⟩, ⟨h.o2.1.later hb, h.o2.2⟩, ⟨h.a1.1.later hb, h.a1.2⟩, ⟨h.a2.1.later hb, h.a2.2⟩⟩
theorem notin (h : CpMem w0 s x2 x3 x4 fp w nb bi fpi xo vo1 vo2 xa va1 va2 wr) (k : Nat) (h1 : w.heap.size ≤ k) (h2 : k < w.heap.size + 4) : k ∉ fpi := fun hm => by have := h.ap k hm; omega
/-- A part's list lies in no box of a part. -/
theorem IL.apart {W : World} {v : Value} {l : List Nat} (h : IL W v l) {k : Nat} {A1 A2 : Option Addr} {m1 c1 m2 c2 : Nat} {e : Bool} {T : TypeId} (hk : W.heap[k]? = some (.cells #[.slice A1 m1 c1, .slice A2 m2 c2, .bool e] T (0, 0))) : l ≠ [] → v.ownBlock ≠ some k := fun hl => h.ne_part hl hk
theorem CpMem.out (h : CpMem w0 s x2 x3 x4 fp w nb bi fpi xo vo1 vo2 xa va1 va2 wr) {b2 : Pb} {x' : Prt} {fp2 : List Nat} {u1 u2 : Value} {wz : World} (hb2 : BuI w0 s x2 x3 x4 b2 fp2 wz) (hk2 : KeepF fpi fp2 wr wz) (hu1 : IL wz u1 x'.first ∧ outOf fp2 u1) (hu2 : IL wz u2 x'.last ∧ outOf fp2 u2) (hw : w0.heap.size ≤ w.heap.size) :
    CpMem w0 s x2 x3 x4 fp w nb b2 fp2 x' u1 u2 xa va1 va2 (st3 wz (w.heap.size + 1 + 1) u1 u2 (.bool x'.emp)) := by
  have hz := h.sz
  have hz2 := hk2.size
  have hnew : ∀ q ∈ fp2, q < w.heap.size ∨ w.heap.size + 4 ≤ q := fun q hq => (hk2.new q hq).elim (h.ap q) fun h => .inr (by omega)
  have hn : ∀ k, w.heap.size ≤ k → k < w.heap.size + 4 → k ∉ fp2 := fun k h1 h2 hm => by have := hnew k hm; omega
  have m0 := (hk2.blk _ (by omega) (notin h _ (Nat.le_refl _) (by omega))).trans h.n0
  have m1 := (hk2.blk _ (by omega) (notin h _ (by omega) (by omega))).trans h.n1
  have m2 := (hk2.blk _ (by omega) (notin h _ (by omega) (by omega))).trans h.n2
  have m3 := (hk2.blk _ (by omega) (notin h _ (by omega) (by omega))).trans h.n3
  have a1 := h.a1.1.keep h.a1.2 hk2
  have a2 := h.a2.1.keep h.a2.2 hk2
  obtain ⟨q1, q2⟩ := beh_end hb2 (h.kf.trans hk2) hw (show w.heap.size ≤ w.heap.size + 1 + 1 by omega) (by omega) (hn _ (by omega) (by omega)) (st3_gb wz (w.heap.size + 1 + 1) u1 u2 (.bool x'.emp))
  obtain ⟨Ao1, co1, e1, -⟩ := h.o1.1.form
  obtain ⟨Ao2, co2, e2, -⟩ := h.o2.1.form
  rw [e1, e2] at m2
  exact ⟨q1, q2, hnew, (st3_old (by omega) _ _ _).trans m0, (st3_old (by omega) _ _ _).trans m1, st3_row m2 _ _ _, (st3_old (by omega) _ _ _).trans m3, by rw [st3_size]; omega,
    ⟨hu1.1.st3 (hu1.1.apart m2) _ _ _, hu1.2⟩, ⟨hu2.1.st3 (hu2.1.apart m2) _ _ _, hu2.2⟩, ⟨a1.1.st3 (a1.1.apart m2) _ _ _, a1.2⟩, ⟨a2.1.st3 (a2.1.apart m2) _ _ _, a2.2⟩⟩
theorem CpMem.all (h : CpMem w0 s x2 x3 x4 fp w nb bi fpi xo vo1 vo2 xa va1 va2 wr) {x' : Prt} {u1 u2 : Value} (hu1 : IL wr u1 x'.first ∧ outOf fpi u1) (hu2 : IL wr u2 x'.last ∧ outOf fpi u2) (hw : w0.heap.size ≤ w.heap.size) :
    CpMem w0 s x2 x3 x4 fp w nb bi fpi xo vo1 vo2 x' u1 u2 (st3 wr (w.heap.size + 1 + 1 + 1) u1 u2 (.bool x'.emp)) := by
  have hz := h.sz
  have m3 := h.n3
  obtain ⟨q1, q2⟩ := beh_end h.bu h.kf hw (show w.heap.size ≤ w.heap.size + 1 + 1 + 1 by omega) (by omega) (notin h _ (by omega) (by omega)) (st3_gb wr (w.heap.size + 1 + 1 + 1) u1 u2 (.bool x'.emp))
  obtain ⟨Ao1, co1, e1, -⟩ := h.a1.1.form
  obtain ⟨Ao2, co2, e2, -⟩ := h.a2.1.form
  rw [e1, e2] at m3
  exact ⟨q1, q2, h.ap, (st3_old (by omega) _ _ _).trans h.n0, (st3_old (by omega) _ _ _).trans h.n1, (st3_old (by omega) _ _ _).trans h.n2, st3_row m3 _ _ _, by rw [st3_size]; omega,
    ⟨h.o1.1.st3 (h.o1.1.apart m3) _ _ _, h.o1.2⟩, ⟨h.o2.1.st3 (h.o2.1.apart m3) _ _ _, h.o2.2⟩, ⟨hu1.1.st3 (hu1.1.apart m3) _ _ _, hu1.2⟩, ⟨hu2.1.st3 (hu2.1.apart m3) _ _ _, hu2.2⟩⟩
theorem CpMem.emp (h : CpMem w0 s x2 x3 x4 fp w nb bi fpi xo vo1 vo2 xa va1 va2 wr) (e : Bool) (hw : w0.heap.size ≤ w.heap.size) : CpMem w0 s x2 x3 x4 fp w nb bi fpi xo vo1 vo2 ⟨xa.first, xa.last, e⟩ va1 va2 (wr.setCell ⟨w.heap.size + 1 + 1 + 1, 2, none⟩ (.bool e)) := by
  have hz := h.sz
  have m3 := h.n3
  have ho : ∀ k, k ≠ w.heap.size + 1 + 1 + 1 → (wr.setCell ⟨w.heap.size + 1 + 1 + 1, 2, none⟩ (.bool e)).heap[k]? = wr.heap[k]? := fun k hk => Below.heap_setCell _ _ _ _ hk
  have hsz : (wr.setCell ⟨w.heap.size + 1 + 1 + 1, 2, none⟩ (.bool e)).heap.size = wr.heap.size := by simp [World.setCell]
  obtain ⟨q1, q2⟩ := beh_end h.bu h.kf hw (show w.heap.size ≤ w.heap.size + 1 + 1 + 1 by omega) (by omega) (notin h _ (by omega) (by omega)) (gb_setN (gb_refl wr _) 2 (.bool e))
  obtain ⟨Ao1, co1, e1, -⟩ := h.a1.1.form
  obtain ⟨Ao2, co2, e2, -⟩ := h.a2.1.form
  have hil : ∀ {v : Value} {l : List Nat}, IL wr v l → IL (wr.setCell ⟨w.heap.size + 1 + 1 + 1, 2, none⟩ (.bool e)) v l := fun {v l} hi => by
    have hap := hi
    rw [e1, e2] at m3
    have hne := hi.apart m3
    rcases hi with hi | ⟨g, f, c', rfl, h0, hg, hc, hcell⟩
    · exact .inl hi
    · have hgk : g ≠ w.heap.size + 1 + 1 + 1 := fun e => hne h0 (by rw [e]; rfl)
      exact .inr ⟨g, f, c', rfl, h0, by rw [hsz]; exact hg, hc, fun i hi => (World.cell?_of_block (a := ⟨g, f + i, none⟩) (ho g hgk)).trans (hcell i hi)⟩
  exact ⟨q1, q2, h.ap, (ho _ (by omega)).trans h.n0, (ho _ (by omega)).trans h.n1, (ho _ (by omega)).trans h.n2, by have := set_row3 h.n3 2 (.bool e); simpa using this, by rw [hsz]; omega,
    ⟨hil h.o1.1, h.o1.2⟩, ⟨hil h.o2.1, h.o2.2⟩, ⟨hil h.a1.1, h.a1.2⟩, ⟨hil h.a2.1, h.a2.2⟩⟩
end
theorem wp_named {c : Code} {P : Program} {Q : Exit → Act → World → Prop} {a : Act} {w : World} (h : ∀ W, W = w → c.wp P Q a W) : c.wp P Q a w := h w rfl
/-- But for some blocks of the call's own all is as it was. -/
theorem cp_end {w0 : World} {s : Nat} {x2 x3 x4 : Value} {b : Pb} {fp fpk L L' : List Nat} {w wr W : World} (hb : BuI w0 s x2 x3 x4 b fpk wr) (hk : KeepF fp fpk w wr) (hw : w0.heap.size ≤ w.heap.size) (hL : ∀ k ∈ L, w.heap.size ≤ k ∧ k ∉ fpk) (hg : KeepF L L' wr W) : BuI w0 s x2 x3 x4 b fpk W ∧ KeepF fp fpk w W := by
  have hlt := hb.lt
  have hbel := hb.bel
  refine ⟨?_, ⟨hg.os.trans hk.os, hg.tape.trans hk.tape, hg.output.trans hk.output, Nat.le_trans hk.size hg.size, fun k h1 h2 => (hg.blk k (Nat.lt_of_lt_of_le h1 hk.size) (fun hm => by have := (hL k hm).1; omega)).trans (hk.blk k h1 h2), fun k h => hk.new k h⟩⟩
  obtain ⟨vs, vf, rows, sv, rfl, h⟩ := hb
  refine ⟨vs, vf, rows, sv, rfl, h.same (fun k hk' => hg.blk k (hlt k hk').2 (fun hm => (hL k hm).2 hk')) ?_⟩
  exact h.bel.trans (hg.below (fun k hm => by have := (hL k hm).1; omega) hbel.size)
def factC13 (N3 B0 : Nat) (W : World) (va1 va2 : Value) (l1 l2 : List Nat) (ee : Bool) : Nat → Nat → Value → World → Prop
  | c, 0, x, w => x = .pointer (some ⟨N3, 0, none⟩)
  | c, 1, x, w => x = va1
  | c, 2, x, w => ∃ A c' r, x = .slice A r.length c' ∧ SortedF l1 r ∧ w.ownsRow B0 3 1 x r.length (ints r)
  | c, 3, x, w => x = .pointer (some ⟨N3, 1, none⟩)
  | c, 4, x, w => x = va2
  | c, 5, x, w => ∃ A c' r, x = .slice A r.length c' ∧ SortedF l2 r ∧ w.ownsRow B0 3 1 x r.length (ints r)
  | c, 6, x, w => x = .pointer (some ⟨N3, 0, none⟩)
  | c, 7, x, w => c = 1 → ∃ A c' r, SortedF l1 r ∧ w.ownsRow B0 3 1 (.slice A r.length c') r.length (ints r) ∧ w.heap[N3]? = some (.cells #[.slice A r.length c', va2, .bool ee] 184 (0, 0)) ∧ KeepF [N3] [] W w
  | c, 8, x, w => x = .pointer (some ⟨N3, 1, none⟩)
  | _, _, _, _ => True
theorem factC13_bl {N3 B0 : Nat} {W : World} {va1 va2 : Value} {l1 l2 : List Nat} {ee : Bool} {u u' : World} (hb : Below u.heap.size u u') {c j : Nat} {x : Value} (h : factC13 N3 B0 W va1 va2 l1 l2 ee c j x u) : factC13 N3 B0 W va1 va2 l1 l2 ee c j x u' := by
  match j with
  | 0 | 1 | 3 | 4 | 6 | 8 => exact h
  | 2 | 5 =>
    obtain ⟨A, c', r, e, hs, ho⟩ := h
    exact ⟨A, c', r, e, hs, own_later ho hb⟩
  | 7 =>
    intro hc
    obtain ⟨A, c', r, hs, ho, hr, hk⟩ := h hc
    exact ⟨A, c', r, hs, own_later ho hb, (hb.block _ (Array.getElem?_eq_some_iff.1 hr).1).trans hr, hk.trans ⟨hb.os, hb.tape, hb.output, hb.size, fun k hk _ => hb.block k hk, fun k hk => by cases hk⟩⟩
  | _ + 9 => exact trivial
set_option maxHeartbeats 8000000 in
theorem copies_any (w0 : World) (s : Nat) (x2 x3 x4 : Value) (rs : List (Nat × Nat)) (kd : Nd) (mn mx : Int) (A1 : Option Addr) (c1 g f c : Nat) (kvs : List Value) (hR : rightF (.mk 4 rs [kd] mn mx) = true) (hpos : posF (.mk 4 rs [kd] mn mx) ≤ 600)
    (hg : g < w0.heap.size) (hc : 1 ≤ c ∧ c ≤ 9223372036854775807) (hkd : NdIn w0 kd kvs) (hkc : ∀ j, j < 5 → w0.cell? ⟨g, f + j, none⟩ = kvs[j]?) (hw : WrCall w0 s x2 x3 x4 kd kvs) (w : World) (b : Pb) (fp : List Nat) (K : Nat)
    (hbu : BuI w0 s x2 x3 x4 b fp w) (hln : b.sets.length = b.fol.length) (hrm : b.fol.length + posF (.mk 4 rs [kd] mn mx) ≤ 600) (hK : ∀ l ∈ b.fol, l.length ≤ K) (hKK : K + cstF (.mk 4 rs [kd] mn mx) ≤ 10000000000) :
    Calls Tryz.prog 170 #[.pointer (some ⟨s, 0, none⟩), .agg #[.int .i64 4, .slice A1 rs.length c1, .slice (some ⟨g, f, none⟩) 1 c, .int .i64 mn, .int .i64 mx]] w (WrP w0 s x2 x3 x4 b fp (langN (.mk 4 rs [kd] mn mx)) (posF (.mk 4 rs [kd] mn mx)) (K + cstF (.mk 4 rs [kd] mn mx)) w) := by
  obtain ⟨B1, e1, B2, e2, rfl, -, -, -⟩ := hkd.form
  obtain ⟨hop, hRs⟩ := rightF_op hR
  have hle := rep_le hR rfl
  obtain ⟨-, -, hm0, hm1, hm2⟩ : (4 : Int) = 4 ∧ [kd].length = 1 ∧ 0 ≤ mn ∧ 1 ≤ mx ∧ mx ≤ 64 := by
    rcases hop with h | h | h | h
    · cases h
    · cases h
    · cases h
    · exact h
  obtain ⟨M, rfl⟩ := Int.eq_ofNat_of_zero_le (show 0 ≤ mx by omega)
  obtain ⟨m, rfl⟩ := Int.eq_ofNat_of_zero_le hm0
  have hpe : posF (.mk 4 rs [kd] m M) = M * posF kd := by rw [pos_rep hpos]; simp [posH]
  have hce : cstF (.mk 4 rs [kd] m M) = M * (cstF kd + 360000) := by rw [cstF, if_neg (by decide), if_pos rfl]; simp [cstH]
  rw [hpe] at hpos hrm ⊢
  rw [hce] at hKK ⊢
  have hlang : ∀ z, langN (.mk 4 rs [kd] m M) z ↔ ∃ k, m ≤ k ∧ k ≤ M ∧ powL (langN kd) k z := fun z => by
    simp only [langN, langH]
    rw [if_neg (by decide), if_neg (by decide), if_neg (by decide)]
    constructor
    · rintro ⟨k, h1, h2, h3⟩; exact ⟨k, by omega, by omega, h3⟩
    · rintro ⟨k, h1, h2, h3⟩; exact ⟨k, by omega, by omega, h3⟩
  obtain ⟨N, hN⟩ : ∃ N, N = w.heap.size := ⟨_, rfl⟩
  have hfp := hbu.lt
  have hB0 := hbu.bel.size
  have HBU0 := Lib.hid hbu
  have HLANG := Lib.hid hlang
  have HW := Lib.hid hw
  have HKC := Lib.hid hkc
  have HK := Lib.hid hK
  have HFP := Lib.hid hfp
  clear hR hRs hop hpe hce hlang hbu hw hkc hK hfp hkd
  go_enter Tryz.func170, Tryz.ntmps170
  go_wp2_with fail
  obtain ⟨j, hj⟩ : ∃ j, j = max m 1 := ⟨_, rfl⟩
  have hjm : max (m : Int) 1 = (j : Int) := by omega
  have hj1 : 1 ≤ j := by omega
  have hjM : j ≤ M := by omega
  have hM1 : 1 ≤ M := by omega
  have hM64 : M ≤ 64 := by omega
  have HJ := Lib.hid hj
  obtain ⟨pk, hpk⟩ : ∃ pk, posF kd = pk := ⟨_, rfl⟩
  obtain ⟨cs, hcs⟩ : ∃ cs, cstF kd = cs := ⟨_, rfl⟩
  rw [hpk] at hpos hrm ⊢
  rw [hcs] at hKK ⊢
  have HPC := Lib.hid (And.intro hpk hcs)
  have hpk6 : M * pk ≤ 600 := hpos
  clear hpk hcs hj
  go_loopw [11] (fun iv wr => ∃ (i : Nat) (bi : Pb) (fpi : List Nat) (xo : Prt) (vo1 vo2 : Value) (xa : Prt) (va1 va2 : Value), i ≤ M ∧ iv = .int .i64 (i : Int) ∧ Hid (CpMem w0 s x2 x3 x4 fp w #[.int .i64 4, .slice A1 rs.length c1, .slice (some ⟨g, f, none⟩) 1 c, .int .i64 m, .int .i64 M] bi fpi xo vo1 vo2 xa va1 va2 wr) ∧ Hid (CpyI b bi (langN kd) j i pk xo xa ∧ ∀ l ∈ bi.fol, l.length ≤ K + i * (cs + 360000))) (fun iv _ => M - (intOf iv).toNat)
  case atStart =>
    refine ⟨0, b, fp, ⟨[], [], true⟩, .slice none 0 0, .slice none 0 0, ⟨[], [], false⟩, .slice none 0 0, .slice none 0 0, by omega, rfl, ?_, ?_⟩
    · have hB := (((((Below.refl w.heap.size w).alloc (Nat.le_refl _) (.cells #[.int .i64 4, .slice A1 rs.length c1, .slice (some ⟨g, f, none⟩) 1 c, .int .i64 m, .int .i64 M] 29)).alloc (by simp) (.cells #[.slice none 0 0, .slice none 0 0, .bool false] 184)).alloc (by simp <;> omega) (.cells #[.slice none 0 0, .slice none 0 0, .bool true] 184)).alloc (by simp <;> omega) (.cells #[.slice none 0 0, .slice none 0 0, .bool false] 184))
      have hnil : ∀ (W : World) (fq : List Nat), IL W (.slice none 0 0) [] ∧ outOf fq (.slice none 0 0) := fun W fq => ⟨.inl ⟨rfl, rfl⟩, fun g hg => by simp [Value.ownBlock] at hg⟩
      refine ⟨HBU0.out.later hB, KeepF.of_below hB, fun q hq => .inl (HFP.out q hq).2, ?_, ?_, ?_, ?_, by simp, hnil _ _, hnil _ _, hnil _ _, hnil _ _⟩
      · rw [old_alloc _ _ _ (by simp <;> omega), old_alloc _ _ _ (by simp <;> omega), old_alloc _ _ _ (by simp)]; exact heap_alloc_new w _
      · rw [old_alloc _ _ _ (by simp <;> omega), old_alloc _ _ _ (by simp)]; simpa using heap_alloc_new (w.alloc _) _
      · rw [old_alloc _ _ _ (by simp)]; simpa using heap_alloc_new ((w.alloc _).alloc _) _
      · simpa using heap_alloc_new (((w.alloc _).alloc _).alloc _) _
    · refine ⟨⟨(Wr.nil b hln).iff fun w => Iff.rfl, by rw [Nat.zero_mul, Nat.add_zero], ⟨Nat.zero_le _, Nat.zero_le _⟩, ⟨Nat.zero_le _, Nat.zero_le _⟩, .inl rfl, .inl hj1⟩, fun l hl => by rw [Nat.zero_mul, Nat.add_zero]; exact HK.out l hl⟩
  case round =>
    obtain ⟨i, bi, fpi, xo, vo1, vo2, xa, va1, va2, hi, rfl, HM, HI⟩ := hrel
    by_cases hlt : i < M
    · have hd : decide ((i : Int) < (M : Int)) = true := decide_eq_true (by omega)
      have hdn : decide (i < M) = true := decide_eq_true hlt
      obtain ⟨Ao1, co1, rfl, -⟩ := HM.out.o1.1.form
      obtain ⟨Ao2, co2, rfl, -⟩ := HM.out.o2.1.form
      obtain ⟨Aa1, ca1, rfl, -⟩ := HM.out.a1.1.form
      obtain ⟨Aa2, ca2, rfl, -⟩ := HM.out.a2.1.form
      obtain ⟨eo, heo⟩ : ∃ eo, xo.emp = eo := ⟨_, rfl⟩
      have hbi := HM.out.bu
      have hS0 : StC6 fpi wr 0 wr.drew := ⟨(KeepF.of_below (Below.refl _ _).drew).weak, fun _ => (Below.refl _ _).drew⟩
      have hsz := HM.out.sz
      have l0 : w.heap.size < wr.heap.size := by omega
      have l2 : w.heap.size + 1 + 1 < wr.heap.size := by omega
      have n0 := notin HM.out w.heap.size (Nat.le_refl _) (by omega)
      have n2 := notin HM.out (w.heap.size + 1 + 1) (by omega) (by omega)
      obtain ⟨b0, b1, b2, b3, b4⟩ := cells5 HM.out.n0
      have hn2 := HM.out.n2
      rw [heo] at hn2
      obtain ⟨o0, o1, o2⟩ := cells3 hn2
      have hng : g ∉ fpi := fun hm => by have := (hbi.lt g hm).1; omega
      have hgl : g < wr.heap.size := by have := hbi.bel.size; omega
      have hkc := fun (wz : World) (h : wz.heap[g]? = wr.heap[g]?) => (fun j (hj : j < 5) => (World.cell?_of_block (a := ⟨g, f + j, none⟩) (h.trans (hbi.bel.block g hg))).trans (HKC.out j hj))
      have HKCZ := Lib.hid (show ∀ wz : World, wz.heap[g]? = wr.heap[g]? → wz.cell? ⟨g, f, none⟩ = some (.int .i64 kd.op) ∧ wz.cell? ⟨g, f + 1, none⟩ = some (.slice B1 kd.rs.length e1) ∧ wz.cell? ⟨g, f + 2, none⟩ = some (.slice B2 kd.kids.length e2) ∧ wz.cell? ⟨g, f + 3, none⟩ = some (.int .i64 kd.mn) ∧ wz.cell? ⟨g, f + 4, none⟩ = some (.int .i64 kd.mx) from
        fun wz h => ⟨hkc wz h 0 (by omega), hkc wz h 1 (by omega), hkc wz h 2 (by omega), hkc wz h 3 (by omega), hkc wz h 4 (by omega)⟩)
      have HBU := Lib.hid hbi
      have HIO := Lib.hid (And.intro HM.out.o1.1 (And.intro HM.out.o1.2 (And.intro HM.out.o2.1 HM.out.o2.2)))
      have hci := HI.out.1
      have hlen := hci.1.len
      have hroom0 : i * pk + pk ≤ M * pk := by have := Nat.mul_le_mul_right pk hlt; rwa [Nat.succ_mul] at this
      have hfl := hci.2.1
      have hroom : bi.fol.length + posF kd ≤ 600 := by rw [HPC.out.1, hfl]; omega
      have hxl : ∀ p ∈ xo.last, p < bi.fol.length := fun p hp => (hci.1.good.lst p hp).2
      have hol := hci.2.2.1
      obtain ⟨K0, hK0⟩ : ∃ K0, K0 = K + i * (cs + 360000) := ⟨_, rfl⟩
      have hKi : i * (cs + 360000) + (cs + 360000) ≤ M * (cs + 360000) := by have := Nat.mul_le_mul_right (cs + 360000) hlt; rwa [Nat.succ_mul] at this
      have hKc : K0 + cstF kd ≤ 10000000000 := by rw [HPC.out.2]; omega
      have HKB := Lib.hid (show ∀ l ∈ bi.fol, l.length ≤ K0 from fun l hl => by rw [hK0]; exact HI.out.2 l hl)
      have HXL := Lib.hid hxl
      have HLO := Lib.hid hol
      have HEO := Lib.hid heo
      have HWC := Lib.hid HW.out
      have hpk600 : pk ≤ 600 := by omega
      have hpkd : posF kd ≤ 600 := by rw [HPC.out.1]; exact hpk600
      have HK0 := Lib.hid hK0
      have HFL := Lib.hid hfl
      have HROOM := Lib.hid (And.intro hroom hlen)
      clear hbi hkc hci hfl hxl hol hK0 heo hn2
      go_wp2_with fail
      refine wp_region_chain 9 [7, 8] (factC6 w0 s x2 x3 x4 bi fpi (langN kd) (posF kd) (K0 + cstF kd) wr w.heap.size g f c (.slice Ao1 xo.first.length co1) (.slice Ao2 xo.last.length co2) eo (.agg #[.int .i64 kd.op, .slice B1 kd.rs.length e1, .slice B2 kd.kids.length e2, .int .i64 kd.mn, .int .i64 kd.mx]) xo) (fun c w' => StC6 fpi wr c w') (by kernel_rfl) (by kernel_rfl) (by kernel_rfl) (by kernel_rfl) (by kernel_rfl) (by kernel_rfl) (by decide) hS0 ?_ ?_
      · simp only [List.take_succ_cons, List.take_zero]
        refine HSteps.pure (by decide) ?_ (HSteps.pure (by decide) ?_ (HSteps.pure (by decide) ?_ (HSteps.pure (by decide) ?_ (HSteps.pure (by decide) ?_ (HSteps.pure (by decide) ?_ (HSteps.pure (by decide) ?_ (HSteps.eff 0 rfl ?_ (HSteps.eff 1 rfl ?_ (HSteps.nil)))))))))
        · intro v wz c hlo hS hE K hK
          simp only [putAll, Act.put, List.setIfInBounds_toArray, List.set_cons_zero, List.set_cons_succ, Nat.zero_add, Nat.reduceAdd, List.take_succ_cons, List.take_zero] at hK ⊢
          have HX := Lib.hid hS
          clear hS hE hlo
          go_wp2_with fail
          exact hK.out _ rfl
        · intro v wz c hlo hS hE K hK
          simp only [putAll, Act.put, List.setIfInBounds_toArray, List.set_cons_zero, List.set_cons_succ, Nat.zero_add, Nat.reduceAdd, List.take_succ_cons, List.take_zero] at hK ⊢
          have cx0 := (World.cell?_of_block (a := ⟨w.heap.size + 1 + 1, 0, none⟩) (hS.1.blk (w.heap.size + 1 + 1) l2 n2)).trans o0
          have cx1 := (World.cell?_of_block (a := ⟨w.heap.size + 1 + 1, 1, none⟩) (hS.1.blk (w.heap.size + 1 + 1) l2 n2)).trans o1
          have cx2 := (World.cell?_of_block (a := ⟨w.heap.size + 1 + 1, 2, none⟩) (hS.1.blk (w.heap.size + 1 + 1) l2 n2)).trans o2
          have HX := Lib.hid hS
          clear hS hE hlo
          go_wp2_with fail
          exact hK.out _ rfl
        · intro v wz c hlo hS hE K hK
          simp only [putAll, Act.put, List.setIfInBounds_toArray, List.set_cons_zero, List.set_cons_succ, Nat.zero_add, Nat.reduceAdd, List.take_succ_cons, List.take_zero] at hK ⊢
          have HX := Lib.hid hS
          clear hS hE hlo
          go_wp2_with fail
          exact hK.out _ rfl
        · intro v wz c hlo hS hE K hK
          simp only [putAll, Act.put, List.setIfInBounds_toArray, List.set_cons_zero, List.set_cons_succ, Nat.zero_add, Nat.reduceAdd, List.take_succ_cons, List.take_zero] at hK ⊢
          have HX := Lib.hid hS
          clear hS hE hlo
          go_wp2_with fail
          exact hK.out _ rfl
        · intro v wz c hlo hS hE K hK
          simp only [putAll, Act.put, List.setIfInBounds_toArray, List.set_cons_zero, List.set_cons_succ, Nat.zero_add, Nat.reduceAdd, List.take_succ_cons, List.take_zero] at hK ⊢
          have e3 : v 3 = _ := hE.1 rfl
          rw [e3] at hK ⊢
          have cn2 := (World.cell?_of_block (a := ⟨w.heap.size, 2, none⟩) (hS.1.blk w.heap.size l0 n0)).trans b2
          have HX := Lib.hid hS
          clear hS hE hlo
          go_wp2_with fail
          exact hK.out _ rfl
        · intro v wz c hlo hS hE K hK
          simp only [putAll, Act.put, List.setIfInBounds_toArray, List.set_cons_zero, List.set_cons_succ, Nat.zero_add, Nat.reduceAdd, List.take_succ_cons, List.take_zero] at hK ⊢
          have e4 : v 4 = _ := hE.1 rfl
          rw [e4] at hK ⊢
          have HX := Lib.hid hS
          clear hS hE hlo
          go_wp2_with fail
          exact hK.out _ rfl
        · intro v wz c hlo hS hE K hK
          simp only [putAll, Act.put, List.setIfInBounds_toArray, List.set_cons_zero, List.set_cons_succ, Nat.zero_add, Nat.reduceAdd, List.take_succ_cons, List.take_zero] at hK ⊢
          have e5 : v 5 = _ := hE.1 rfl
          rw [e5] at hK ⊢
          obtain ⟨k0, k1, k2, k3, k4⟩ := HKCZ.out wz (hS.1.blk g hgl hng)
          have HX := Lib.hid hS
          clear hS hE hlo
          go_wp2_with fail
          exact hK.out _ rfl
        · intro v wz hS hE K hK
          simp only [putAll, Act.put, List.setIfInBounds_toArray, List.set_cons_zero, List.set_cons_succ, Nat.zero_add, Nat.reduceAdd, List.take_succ_cons, List.take_zero] at hK ⊢
          have e2 : v 2 = _ := hE.1 rfl
          have e6 : v 6 = _ := hE.2.1 rfl
          rw [e2, e6] at hK ⊢
          have hz := hS.2 rfl
          have hcall := HWC.out wz bi fpi K0 (HBU.out.later hz) HROOM.out.2 HROOM.out.1 HKB.out hKc
          have HC := Lib.hid hcall
          have HX := Lib.hid hS
          clear hS hE hcall
          go_wp2_with fail
          refine HC.out.mono ?_
          rintro e wy ⟨b', y, fp', v1, v2, rfl, hb', hk', hi1, hi2, hw', hl', hne', hln', hK'⟩
          have HP := Lib.hid (And.intro hb' (And.intro hk' (And.intro hi1 (And.intro hi2 (And.intro hw' (And.intro hl' (And.intro hne' (And.intro hln' hK'))))))))
          clear hb' hk' hi1 hi2 hw' hl' hne' hln' hK'
          go_wp2_with fail
          refine hK.out _ _ (fun j z hj h => ?_) ⟨((KeepF.of_below (HX.out.2 rfl)).trans HP.out.2.1).weak, fun h => by cases h⟩ (fun _ => ⟨b', y, fp', v1, v2, rfl, HP.out.1, (KeepF.of_below (HX.out.2 rfl)).trans HP.out.2.1, HP.out.2.2.1, HP.out.2.2.2.1, HP.out.2.2.2.2.1, HP.out.2.2.2.2.2.1, HP.out.2.2.2.2.2.2.1, HP.out.2.2.2.2.2.2.2.1, HP.out.2.2.2.2.2.2.2.2⟩)
          match j with
          | 0 | 1 | 2 | 3 | 4 | 5 | 6 => exact h
          | 7 => exact absurd rfl hj
          | 8 => exact fun h => by cases h
          | _ + 9 => exact trivial
        · intro v wz hS hE K hK
          simp only [putAll, Act.put, List.setIfInBounds_toArray, List.set_cons_zero, List.set_cons_succ, Nat.zero_add, Nat.reduceAdd, List.take_succ_cons, List.take_zero] at hK ⊢
          have e0 : v 0 = _ := hE.1 rfl
          have e1 : v 1 = _ := hE.2.1 rfl
          rw [e0, e1] at hK ⊢
          have E7 := hE.2.2.1 rfl
          obtain ⟨b', y, fp', v1, v2, ev, hb', hk', hi1, hi2, hw', hl', hne', hln', hK'⟩ := E7 rfl
          injection ev with ev
          rw [ev] at hK ⊢
          have i1 := HIO.out.1.keep HIO.out.2.1 hk'
          have i2 := HIO.out.2.2.1.keep HIO.out.2.2.2 hk'
          have hxl : ∀ p ∈ xo.last, p < b'.fol.length := fun p hp => by have := HXL.out p hp; omega
          have hcall := behind_any w0 s x2 x3 x4 b' fp' wz xo y _ _ v1 v2 _ hb' i1.1 i1.2 i2.1 i2.2 hi1.1 hi1.2 hi2.1 hi2.2 hne'.1 hne'.2 hxl (by have := HLO.out; omega) (by have := HLO.out; omega) (by omega) (by omega) hK' (by omega)
          rw [HEO.out] at hcall
          have HC := Lib.hid hcall
          have HX := Lib.hid hS
          have HP := Lib.hid (And.intro hb' (And.intro hk' (And.intro hw' (And.intro hl' (And.intro hne' (And.intro hln' hK'))))))
          clear hS hE hcall hb' hk' hi1 hi2 hw' hl' hne' hln' hK' i1 i2 hxl E7 ev
          go_wp2_with fail
          refine HC.out.mono ?_
          rintro e wy ⟨fp2, u1, u2, rfl, hb2, hk2, j1, j2, j3, j4⟩
          have HQ := Lib.hid (And.intro hb2 (And.intro hk2 (And.intro j1 (And.intro j2 (And.intro j3 j4)))))
          clear hb2 hk2 j1 j2 j3 j4
          go_wp2_with fail
          refine hK.out _ _ (fun j z hj h => ?_) ⟨(HP.out.2.1.trans HQ.out.2.1).weak, fun h => by cases h⟩ (fun _ => ⟨b', y, fp2, u1, u2, rfl, HQ.out.1, HP.out.2.1.trans HQ.out.2.1, ⟨HQ.out.2.2.1, HQ.out.2.2.2.1⟩, ⟨HQ.out.2.2.2.2.1, HQ.out.2.2.2.2.2⟩, HP.out.2.2.1, HP.out.2.2.2.1, HP.out.2.2.2.2.1, HP.out.2.2.2.2.2.1, HP.out.2.2.2.2.2.2⟩)
          match j with
          | 0 | 1 | 2 | 3 | 4 | 5 | 6 => exact h
          | 7 => exact fun h => by cases h
          | 8 => exact absurd rfl hj
          | _ + 9 => exact trivial
      · intro v wz hS hF
        have e0 : v 0 = _ := hF 0 (by decide)
        have e1 : v 1 = _ := hF 1 (by decide)
        have e2 : v 2 = _ := hF 2 (by decide)
        have e3 : v 3 = _ := hF 3 (by decide)
        have e4 : v 4 = _ := hF 4 (by decide)
        have e5 : v 5 = _ := hF 5 (by decide)
        have e6 : v 6 = _ := hF 6 (by decide)
        have E7 := hF 7 (by decide)
        have E8 := hF 8 (by decide)
        simp only [putAll, Act.put, List.setIfInBounds_toArray, List.set_cons_zero, List.set_cons_succ, Nat.zero_add, Nat.reduceAdd, List.take_succ_cons, List.take_zero, List.drop_succ_cons, List.drop_zero, e0, e1, e2, e3, e4, e5, e6]
        clear hF e0 e1 e2 e3 e4 e5 e6
        obtain ⟨b', y, fp2, u1, u2, ev, hb2, hk2, hu1, hu2, hwy, hl', hne', hln', hK'⟩ := E8 rfl
        rw [ev]
        obtain ⟨Au1, cu1, rfl, hcu1⟩ := hu1.1.form
        obtain ⟨Au2, cu2, rfl, hcu2⟩ := hu2.1.form
        have hw00 : w0.heap.size ≤ w.heap.size := hB0
        have hM1 := HM.out.out (x' := behP xo y) hb2 hk2 hu1 hu2 hw00
        have HM1 := Lib.hid hM1
        have hstep := HI.out.1.step hwy (by rw [hl', HPC.out.1]) hne' (by rw [HPC.out.1] at hln'; exact hln') hj1
        have hbd : ∀ l ∈ (behB b' xo y).fol, l.length ≤ K + (i + 1) * (cs + 360000) := fun l hl => by
          have h1 := addF_le y.first xo.last b'.fol _ hK' l hl
          have h2 : xo.last.length * y.first.length ≤ 600 * 600 := Nat.mul_le_mul (by have := HLO.out; omega) (by omega)
          have h3 := HK0.out
          have h4 := HPC.out.2
          have h5 : (i + 1) * (cs + 360000) = i * (cs + 360000) + (cs + 360000) := Nat.succ_mul _ _
          omega
        have HST := Lib.hid (And.intro hstep hbd)
        obtain ⟨X, hX⟩ : ∃ X, behP xo y = X := ⟨_, rfl⟩
        obtain ⟨B', hB'⟩ : ∃ B', behB b' xo y = B' := ⟨_, rfl⟩
        rw [hX, hB'] at HM1 HST
        rw [hX] at hcu1 hcu2 ⊢
        have hXl : X.first.length ≤ 600 ∧ X.last.length ≤ 600 := by
          have h1 : (i + 1) * pk ≤ M * pk := Nat.mul_le_mul_right _ hlt
          rcases Nat.lt_trichotomy (i + 1) j with h | h | h
          · have := (HST.out.1.1 h).2.2.1; omega
          · have := (HST.out.1.2.1 h).2.2.1; omega
          · have := (HST.out.1.2.2 h).1.2.2.1; omega
        have hz0 := (hk2.blk _ l0 n0).trans HM.out.n0
        have hz2 := (hk2.blk _ l2 n2).trans HM.out.n2
        have hz3 := (hk2.blk _ (by omega) (notin HM.out (w.heap.size + 1 + 1 + 1) (by omega) (by omega))).trans HM.out.n3
        obtain ⟨z0, z1, z2, z3, z4⟩ := cells5 hz0
        obtain ⟨q0, q1, q2⟩ := cells3 hz2
        obtain ⟨t0, t1, t2⟩ := cells3 hz3
        have f0 : wz.frozen? ⟨w.heap.size + 1 + 1, 0, none⟩ = false := by simp [World.frozen?, hz2]
        have f1 : wz.frozen? ⟨w.heap.size + 1 + 1, 1, none⟩ = false := by simp [World.frozen?, hz2]
        have f2 : wz.frozen? ⟨w.heap.size + 1 + 1, 2, none⟩ = false := by simp [World.frozen?, hz2]
        have g0 : wz.frozen? ⟨w.heap.size + 1 + 1 + 1, 0, none⟩ = false := by simp [World.frozen?, hz3]
        have g1 : wz.frozen? ⟨w.heap.size + 1 + 1 + 1, 1, none⟩ = false := by simp [World.frozen?, hz3]
        have g2 : wz.frozen? ⟨w.heap.size + 1 + 1 + 1, 2, none⟩ = false := by simp [World.frozen?, hz3]
        clear hS E7 E8 ev hb2 hk2 hu1 hu2 hwy hl' hne' hln' hK' hM1 hstep hbd hz0 hz2 hz3 b0 b1 b2 b3 b4 o0 o1 o2 hX hB' hS0
        rcases Nat.lt_trichotomy (i + 1) j with hc3 | hc3 | hc3
        · have d1 : ((i : Int) + 1 == (j : Int)) = false := by simp; omega
          have d2 : decide ((m : Int) < (i : Int) + 1) = false := decide_eq_false (by have := HJ.out; omega)
          have HC3 := Lib.hid hc3
          clear hc3
          go_wp2_with fail
          go_roundw
          case rel =>
            exact ⟨i + 1, _, _, _, _, _, _, _, _, by omega, by go_num, HM1, ⟨HST.out.1.1 HC3.out, HST.out.2⟩⟩
          case measure => simp [intOf]; omega
        · have d1 : ((i : Int) + 1 == (j : Int)) = true := by simp; omega
          have HC3 := Lib.hid hc3
          have hM2 := HM1.out.all HM1.out.o1 HM1.out.o2 hw00
          have HM2 := Lib.hid hM2
          clear hc3 hM2
          go_wp2_with fail
          go_roundw
          case rel =>
            exact ⟨i + 1, _, _, _, _, _, _, _, _, by omega, by go_num, HM2, ⟨HST.out.1.2.1 HC3.out, HST.out.2⟩⟩
          case measure => simp [intOf]; omega
        · have d1 : ((i : Int) + 1 == (j : Int)) = false := by simp; omega
          have d2 : decide ((m : Int) < (i : Int) + 1) = true := decide_eq_true (by have := HJ.out; omega)
          have hS3 := HST.out.1.2.2 hc3
          have hxal : xa.first.length ≤ 10000000 ∧ xa.last.length ≤ 10000000 := by
            have h1 := HI.out.1.2.2.2.1
            have h2 : i * (i * pk) ≤ 64 * (64 * 600) := Nat.mul_le_mul (by omega) (Nat.mul_le_mul (by omega) hpk600)
            omega
          have hXne : X.first ≠ [] ∧ X.last ≠ [] := hS3.1.2.2.2.2.1.resolve_left (by omega)
          have hcall : ∀ W, W = st3 wz (w.heap.size + 1 + 1) (.slice Au1 X.first.length cu1) (.slice Au2 X.last.length cu2) (.bool X.emp) → Calls Tryz.prog 169 #[.agg #[.slice Aa1 xa.first.length ca1, .slice Aa2 xa.last.length ca2, .bool xa.emp], .agg #[.slice Au1 X.first.length cu1, .slice Au2 X.last.length cu2, .bool X.emp]] W _ := fun W h => by
            subst h
            exact either_any xa.first xa.last X.first X.last xa.emp X.emp _ _ _ _ _ HM1.out.a1.1 HM1.out.a2.1 HM1.out.o1.1 HM1.out.o2.1 hXne.1 hXne.2 hxal.1 hxal.2 (by omega) (by omega)
          have HCL := Lib.hid hcall
          have HS3 := Lib.hid hS3
          have HC3 := Lib.hid hc3
          have HXN := Lib.hid hXne
          clear hc3 hS3 hcall hXne
          go_wp2_with fail
          refine (HCL.out _ rfl).mono ?_
          rintro e w2 ⟨v1, v2, rfl, ho1, ho2, hbw⟩
          have hM2 := HM1.out.later hbw
          obtain ⟨Av1, cv1, rfl, -, -⟩ := own_form ho1
          obtain ⟨Av2, cv2, rfl, -, -⟩ := own_form ho2
          have hfq : ∀ q ∈ fp2, q < (st3 wz (w.heap.size + 1 + 1) (.slice Au1 X.first.length cu1) (.slice Au2 X.last.length cu2) (.bool X.emp)).heap.size := fun q hq => (HM1.out.bu.lt q hq).2
          have hM3 := hM2.all (x' := eitP xa X) ⟨IL.of_own ho1 (fun _ h => HXN.out.1 (List.append_eq_nil_iff.1 h).2), fun q hq hm => by have := (ho1.lt q hq).1; have := hfq q hm; omega⟩ ⟨IL.of_own ho2 (fun _ h => HXN.out.2 (List.append_eq_nil_iff.1 h).2), fun q hq hm => by have := (ho2.lt q hq).1; have := hfq q hm; omega⟩ hw00
          have HM3 := Lib.hid hM3
          obtain ⟨t0', t1', t2'⟩ := cells3 hM2.n3
          have g0' : w2.frozen? ⟨w.heap.size + 1 + 1 + 1, 0, none⟩ = false := by simp [World.frozen?, hM2.n3]
          have g1' : w2.frozen? ⟨w.heap.size + 1 + 1 + 1, 1, none⟩ = false := by simp [World.frozen?, hM2.n3]
          have g2' : w2.frozen? ⟨w.heap.size + 1 + 1 + 1, 2, none⟩ = false := by simp [World.frozen?, hM2.n3]
          clear ho1 ho2 hbw hM2 hM3 hfq t0 t1 t2 g0 g1 g2 q0 q1 q2 f0 f1 f2 z0 z1 z2 z3 z4
          go_wp2_with fail
          go_roundw
          case rel =>
            exact ⟨i + 1, _, _, _, _, _, _, _, _, by omega, by go_num, HM3, ⟨HS3.out.1, HST.out.2⟩⟩
          case measure => simp [intOf]; omega
    · obtain rfl : i = M := by omega
      obtain ⟨Ao1, co1, rfl, -⟩ := HM.out.o1.1.form
      obtain ⟨Ao2, co2, rfl, -⟩ := HM.out.o2.1.form
      obtain ⟨Aa1, ca1, rfl, -⟩ := HM.out.a1.1.form
      obtain ⟨Aa2, ca2, rfl, -⟩ := HM.out.a2.1.form
      obtain ⟨b0, b1, b2, b3, b4⟩ := cells5 HM.out.n0
      obtain ⟨t0, t1, t2⟩ := cells3 HM.out.n3
      obtain ⟨r0, r1, r2⟩ := cells3 HM.out.n1
      have g2 : wr.frozen? ⟨w.heap.size + 1 + 1 + 1, 2, none⟩ = false := by simp [World.frozen?, HM.out.n3]
      have hw00 : w0.heap.size ≤ w.heap.size := hB0
      have hxr := HI.out.1.2.2.2.2.2.resolve_left (by omega)
      have hxal : xa.first.length ≤ 10000000 ∧ xa.last.length ≤ 10000000 := by
        have h1 := HI.out.1.2.2.2.1
        have h2 : i * (i * pk) ≤ 64 * 600 := Nat.mul_le_mul (by omega) (by omega)
        omega
      have HXR := Lib.hid (And.intro hxr hxal)
      obtain ⟨ea, hea⟩ : ∃ ea, xa.emp = ea := ⟨_, rfl⟩
      rw [hea] at t2
      have HEA := Lib.hid hea
      clear hxr hxal hea
      have hpost : ∀ W, CpMem w0 s x2 x3 x4 fp w #[.int .i64 4, .slice A1 rs.length c1, .slice (some ⟨g, f, none⟩) 1 c, .int .i64 m, .int .i64 i] bi fpi xo (.slice Ao1 xo.first.length co1) (.slice Ao2 xo.last.length co2) ⟨xa.first, xa.last, (xa.emp || m == 0)⟩ (.slice Aa1 xa.first.length ca1) (.slice Aa2 xa.last.length ca2) W → w.heap.size + 1 + 1 + 1 < W.heap.size ∧ w.heap.size + 1 < W.heap.size := fun W h => by have := h.sz; omega
      have HPO := Lib.hid hpost
      have HE1 : ∀ (e : Bool) (W : World), (xa.emp || m == 0) = e → W = wr.setCell ⟨w.heap.size + 1 + 1 + 1, 2, none⟩ (.bool e) → CpMem w0 s x2 x3 x4 fp w #[.int .i64 4, .slice A1 rs.length c1, .slice (some ⟨g, f, none⟩) 1 c, .int .i64 m, .int .i64 i] bi fpi xo (.slice Ao1 xo.first.length co1) (.slice Ao2 xo.last.length co2) ⟨xa.first, xa.last, (xa.emp || m == 0)⟩ (.slice Aa1 xa.first.length ca1) (.slice Aa2 xa.last.length ca2) W := fun e W h1 h2 => by
        subst h1 h2
        exact HM.out.emp _ hw00
      have HE := Lib.hid HE1
      clear hpost HE1
      obtain ⟨q, d1⟩ : ∃ q, ((m : Int) == 0) = q := ⟨_, rfl⟩
      have hq : (xa.emp || m == 0) = (ea || q) := by
        rw [HEA.out, ← d1]
        congr 1
        rw [Bool.eq_iff_iff]
        simp
      have HQ := Lib.hid hq
      clear hq
      cases ea <;> cases q
      all_goals
        go_wp2_with fail
        refine wp_named fun W hW => ?_
        have hM := HE.out _ W HQ.out hW
        obtain ⟨l3, l1⟩ := HPO.out W hM
        obtain ⟨q0, q1, q2⟩ := cells3 hM.n3
        obtain ⟨r0', r1', r2'⟩ := cells3 hM.n1
        clear hW t0 t1 t2 r0 r1 r2 b0 b1 b2 b3 b4 g2
        have t0 := q0
        have t1 := q1
        have HMW := Lib.hid hM
        have HIA := Lib.hid (show IL W (.slice Aa1 xa.first.length ca1) xa.first ∧ IL W (.slice Aa2 xa.last.length ca2) xa.last from ⟨hM.a1.1, hM.a2.1⟩)
        have HIA1 := Lib.hid HIA.out.1
        have HIA2 := Lib.hid HIA.out.2
        have HXA := Lib.hid HXR.out.2
        have HN3 := Lib.hid hM.n3
        have hS0 : (0 = 0 → Below W.heap.size W W.drew) := fun _ => (Below.refl _ _).drew
        clear hM q0 q1 q2
        refine wp_region_chain 9 [7] (factC13 (w.heap.size + 1 + 1 + 1) W.heap.size W (.slice Aa1 xa.first.length ca1) (.slice Aa2 xa.last.length ca2) xa.first xa.last (xa.emp || m == 0)) (fun c w' => c = 0 → Below W.heap.size W w') (by kernel_rfl) (by kernel_rfl) (by kernel_rfl) (by kernel_rfl) (by kernel_rfl) (by kernel_rfl) (by decide) hS0 ?_ ?_
        · simp only [List.take_succ_cons, List.take_zero]
          refine HSteps.pure (by decide) ?_ (HSteps.pure (by decide) ?_ (HSteps.free (by decide) ?_ (HSteps.pure (by decide) ?_ (HSteps.pure (by decide) ?_ (HSteps.free (by decide) ?_ (HSteps.pure (by decide) ?_ (HSteps.eff 0 rfl ?_ (HSteps.pure (by decide) ?_ (HSteps.nil)))))))))
          · intro v wz c hlo hS hE K hK
            simp only [putAll, Act.put, List.setIfInBounds_toArray, List.set_cons_zero, List.set_cons_succ, Nat.zero_add, Nat.reduceAdd, List.take_succ_cons, List.take_zero] at hK ⊢
            have HX := Lib.hid hS
            clear hS hE hlo
            go_wp2_with fail
            exact hK.out _ rfl
          · intro v wz c hlo hS hE K hK
            simp only [putAll, Act.put, List.setIfInBounds_toArray, List.set_cons_zero, List.set_cons_succ, Nat.zero_add, Nat.reduceAdd, List.take_succ_cons, List.take_zero] at hK ⊢
            have e0 : v 0 = _ := hE.1 rfl
            rw [e0] at hK ⊢
            have hc0 : c = 0 := Nat.le_zero.1 (hlo 0 (by kernel_rfl))
            subst hc0
            have hz := hS rfl
            have c1 := (hz.cell (p := ⟨w.heap.size + 1 + 1 + 1, 0, none⟩) l3).trans t0
            clear hz
            have HX := Lib.hid hS
            clear hS hE hlo
            go_wp2_with fail
            exact hK.out _ rfl
          · intro v wz c hlo hS hE K hK
            simp only [putAll, Act.put, List.setIfInBounds_toArray, List.set_cons_zero, List.set_cons_succ, Nat.zero_add, Nat.reduceAdd, List.take_succ_cons, List.take_zero] at hK ⊢
            have e1 : v 1 = _ := hE.1 rfl
            rw [e1] at hK ⊢
            have hc0 : c = 0 := Nat.le_zero.1 (hlo 0 (by kernel_rfl))
            subst hc0
            have hz := hS rfl
            have hcall := sorted_any _ xa.first wz (HIA1.out.later hz) (by have := HXA.out; omega)
            have HC := Lib.hid hcall
            have HX := Lib.hid hz
            clear hS hE hlo hcall hz
            go_wp2_with fail
            refine HC.out.mono ?_
            rintro e w1 ⟨v1, r, rfl, hsr, hown, -, hb⟩
            have hown2 : w1.ownsRow W.heap.size 3 1 v1 _ _ := hown.base_mono HX.out.size
            obtain ⟨A', c', rfl, -, -⟩ := own_form hown2
            have HO := Lib.hid hown2
            have HB := Lib.hid hb
            have HSR := Lib.hid hsr
            clear hown hown2 hb hsr
            go_wp2_with fail
            exact hK.out _ _ (fun j y _ h => factC13_bl HB.out h) (fun _ => HX.out.trans (HB.out.mono HX.out.size)) ⟨A', c', r, rfl, HSR.out, HO.out⟩
          · intro v wz c hlo hS hE K hK
            simp only [putAll, Act.put, List.setIfInBounds_toArray, List.set_cons_zero, List.set_cons_succ, Nat.zero_add, Nat.reduceAdd, List.take_succ_cons, List.take_zero] at hK ⊢
            have HX := Lib.hid hS
            clear hS hE hlo
            go_wp2_with fail
            exact hK.out _ rfl
          · intro v wz c hlo hS hE K hK
            simp only [putAll, Act.put, List.setIfInBounds_toArray, List.set_cons_zero, List.set_cons_succ, Nat.zero_add, Nat.reduceAdd, List.take_succ_cons, List.take_zero] at hK ⊢
            have e3 : v 3 = _ := hE.1 rfl
            rw [e3] at hK ⊢
            have hc0 : c = 0 := Nat.le_zero.1 (hlo 0 (by kernel_rfl))
            subst hc0
            have hz := hS rfl
            have c1 := (hz.cell (p := ⟨w.heap.size + 1 + 1 + 1, 1, none⟩) l3).trans t1
            clear hz
            have HX := Lib.hid hS
            clear hS hE hlo
            go_wp2_with fail
            exact hK.out _ rfl
          · intro v wz c hlo hS hE K hK
            simp only [putAll, Act.put, List.setIfInBounds_toArray, List.set_cons_zero, List.set_cons_succ, Nat.zero_add, Nat.reduceAdd, List.take_succ_cons, List.take_zero] at hK ⊢
            have e4 : v 4 = _ := hE.1 rfl
            rw [e4] at hK ⊢
            have hc0 : c = 0 := Nat.le_zero.1 (hlo 0 (by kernel_rfl))
            subst hc0
            have hz := hS rfl
            have hcall := sorted_any _ xa.last wz (HIA2.out.later hz) (by have := HXA.out; omega)
            have HC := Lib.hid hcall
            have HX := Lib.hid hz
            clear hS hE hlo hcall hz
            go_wp2_with fail
            refine HC.out.mono ?_
            rintro e w1 ⟨v1, r, rfl, hsr, hown, -, hb⟩
            have hown2 : w1.ownsRow W.heap.size 3 1 v1 _ _ := hown.base_mono HX.out.size
            obtain ⟨A', c', rfl, -, -⟩ := own_form hown2
            have HO := Lib.hid hown2
            have HB := Lib.hid hb
            have HSR := Lib.hid hsr
            clear hown hown2 hb hsr
            go_wp2_with fail
            exact hK.out _ _ (fun j y _ h => factC13_bl HB.out h) (fun _ => HX.out.trans (HB.out.mono HX.out.size)) ⟨A', c', r, rfl, HSR.out, HO.out⟩
          · intro v wz c hlo hS hE K hK
            simp only [putAll, Act.put, List.setIfInBounds_toArray, List.set_cons_zero, List.set_cons_succ, Nat.zero_add, Nat.reduceAdd, List.take_succ_cons, List.take_zero] at hK ⊢
            have HX := Lib.hid hS
            clear hS hE hlo
            go_wp2_with fail
            exact hK.out _ rfl
          · intro v wz hS hE K hK
            simp only [putAll, Act.put, List.setIfInBounds_toArray, List.set_cons_zero, List.set_cons_succ, Nat.zero_add, Nat.reduceAdd, List.take_succ_cons, List.take_zero] at hK ⊢
            have e6 : v 6 = _ := hE.1 rfl
            rw [e6] at hK ⊢
            have E2 := hE.2.1 rfl
            obtain ⟨A, c', r, ev, hsr, ho⟩ := E2
            rw [ev] at hK ho ⊢
            have hz := hS rfl
            have hr3 := (hz.block _ l3).trans HN3.out
            obtain ⟨c0', c1', c2'⟩ := cells3 hr3
            have fz : wz.frozen? ⟨w.heap.size + 1 + 1 + 1, 0, none⟩ = false := by simp [World.frozen?, hr3]
            have HO := Lib.hid ho
            have HX := Lib.hid hz
            have HR := Lib.hid hr3
            have HSR := Lib.hid hsr
            clear hS hE hz ho hr3 hsr ev
            go_wp2_with fail
            have hset : ∀ k, k ≠ w.heap.size + 1 + 1 + 1 → (wz.setCell ⟨w.heap.size + 1 + 1 + 1, 0, none⟩ (.slice A r.length c')).heap[k]? = wz.heap[k]? := fun k hk => Below.heap_setCell _ _ _ _ hk
            have hoo : ∀ {v : Value} {n : Nat} {xs : List Value}, wz.ownsRow W.heap.size 3 1 v n xs → (wz.setCell ⟨w.heap.size + 1 + 1 + 1, 0, none⟩ (.slice A r.length c')).ownsRow W.heap.size 3 1 v n xs := fun h => own_same h fun g hg => hset g (by have := (h.lt g hg).1; omega)
            refine hK.out undef _ (fun j z hj h => ?_) (fun h => by cases h) (fun _ => ⟨A, c', r, HSR.out, hoo HO.out, by have := set_row3 HR.out 0 (.slice A r.length c'); simpa using this, ?_⟩)
            · match j with
              | 0 | 1 | 3 | 4 | 6 | 8 => exact h
              | 2 | 5 =>
                obtain ⟨A1', c1'', r1, e, hs, ho⟩ := h
                exact ⟨A1', c1'', r1, e, hs, hoo ho⟩
              | 7 => exact absurd rfl hj
              | _ + 9 => exact trivial
            · exact ⟨HX.out.os, HX.out.tape, HX.out.output, by simpa [World.setCell] using HX.out.size, fun k hk hn => (hset k (fun e => hn (by rw [e]; simp))).trans (HX.out.block k hk), fun k hk => by cases hk⟩
          · intro v wz c hlo hS hE K hK
            simp only [putAll, Act.put, List.setIfInBounds_toArray, List.set_cons_zero, List.set_cons_succ, Nat.zero_add, Nat.reduceAdd, List.take_succ_cons, List.take_zero] at hK ⊢
            have HX := Lib.hid hS
            clear hS hE hlo
            go_wp2_with fail
            exact hK.out _ rfl
        · intro v wz hS hF
          have e0 : v 0 = _ := hF 0 (by decide)
          have e1 : v 1 = _ := hF 1 (by decide)
          have e3 : v 3 = _ := hF 3 (by decide)
          have e4 : v 4 = _ := hF 4 (by decide)
          have e6 : v 6 = _ := hF 6 (by decide)
          have e8 : v 8 = _ := hF 8 (by decide)
          have E2 := hF 2 (by decide)
          have E5 := hF 5 (by decide)
          have E7 := hF 7 (by decide)
          simp only [putAll, Act.put, List.setIfInBounds_toArray, List.set_cons_zero, List.set_cons_succ, Nat.zero_add, Nat.reduceAdd, List.take_succ_cons, List.take_zero, List.drop_succ_cons, List.drop_zero, e0, e1, e3, e4, e6, e8]
          clear hF e0 e1 e3 e4 e6 e8
          obtain ⟨A7, c7, r1, hsr1, ho1, hrow, hkf⟩ := E7 rfl
          obtain ⟨A5, c5, r2, ev5, hsr2, ho2⟩ := E5
          rw [ev5] at ho2 ⊢
          obtain ⟨z0, z1, z2⟩ := cells3 hrow
          have fz0 : wz.frozen? ⟨w.heap.size + 1 + 1 + 1, 0, none⟩ = false := by simp [World.frozen?, hrow]
          have fz1 : wz.frozen? ⟨w.heap.size + 1 + 1 + 1, 1, none⟩ = false := by simp [World.frozen?, hrow]
          have hr1z := (hkf.blk _ l1 (by simp)).trans HMW.out.n1
          obtain ⟨y0, y1, y2⟩ := cells3 hr1z
          have fy0 : wz.frozen? ⟨w.heap.size + 1, 0, none⟩ = false := by simp [World.frozen?, hr1z]
          have fy1 : wz.frozen? ⟨w.heap.size + 1, 1, none⟩ = false := by simp [World.frozen?, hr1z]
          have fy2 : wz.frozen? ⟨w.heap.size + 1, 2, none⟩ = false := by simp [World.frozen?, hr1z]
          have HZ := Lib.hid (And.intro hsr1 (And.intro ho1 (And.intro hsr2 (And.intro ho2 (And.intro hrow hkf)))))
          clear hS E2 E7 ev5 hsr1 ho1 hsr2 ho2 hrow hkf hr1z
          go_wp2_with fail
          refine post_named fun Wf hWf => ?_
          have hkW : KeepF [w.heap.size + 1 + 1 + 1, w.heap.size + 1] [w.heap.size + 1 + 1 + 1, w.heap.size + 1] wz Wf := by
            rw [hWf]; repeat (first | exact KeepF.refl _ _ | refine kf_alloc ?_ _ | refine kf_set ?_ (by simp) _ | refine kf_drew ?_)
          have hkf2 : KeepF [w.heap.size + 1 + 1 + 1, w.heap.size + 1] [] W Wf := by
            have h1 := HZ.out.2.2.2.2.2
            exact ⟨hkW.os.trans h1.os, hkW.tape.trans h1.tape, hkW.output.trans h1.output, Nat.le_trans h1.size hkW.size, fun k hk hn => (hkW.blk k (Nat.lt_of_lt_of_le hk h1.size) hn).trans (h1.blk k hk (fun hm => hn (by simp at hm; simp [hm]))), fun k hk => by cases hk⟩
          obtain ⟨q1, q2⟩ := cp_end HMW.out.bu HMW.out.kf hw00 (fun k hk => by
            simp at hk
            exact ⟨by omega, notin HMW.out k (by omega) (by omega)⟩) hkf2
          refine bodyPost_ret (v := .agg #[.slice A7 r1.length c7, .slice A5 r2.length c5, .bool (xa.emp || m == 0)]) (by rw [hWf]; simp [results, Tryz.results170, go_sem, y0, y1, y2, z0, z1, z2, l1, l3]; try rfl) rfl ?_
          have hown : ∀ {v : Value} {n : Nat} {l : List Nat}, wz.ownsRow W.heap.size 3 1 v n (ints l) → l ≠ [] → IL Wf v l ∧ outOf fpi v := fun {v n l} h hl => by
            have hsz := HMW.out.sz
            refine ⟨(IL.keep (IL.of_own h fun _ => hl) (fun g hg hm => ?_) hkW).1, fun g hg hm => ?_⟩
            · have := (h.lt g hg).1; simp at hm; omega
            · have := (h.lt g hg).1; have := (HMW.out.bu.lt g hm).2; omega
          have hci := HI.out.1
          have hxr := HXR.out.1
          have hsA := HZ.out.1
          have hsB := HZ.out.2.2.1
          have hne1 : r1 ≠ [] := fun e => by
            cases hf : xa.first with
            | nil => exact hxr.2.1 hf
            | cons p l => have := (hsA.2 p).2 (by rw [hf]; simp); rw [e] at this; cases this
          have hne2 : r2 ≠ [] := fun e => by
            cases hf : xa.last with
            | nil => exact hxr.2.2 hf
            | cons p l => have := (hsB.2 p).2 (by rw [hf]; simp); rw [e] at this; cases this
          have hfl := hci.2.1
          have hln1 : r1.length ≤ i * pk := asc_len (a := b.fol.length) hsA.1 fun p hp => by
            have := hci.1.good.fst p (hxr.1.fst p ((hsA.2 p).1 hp)); omega
          have hln2 : r2.length ≤ i * pk := asc_len (a := b.fol.length) hsB.1 fun p hp => by
            have := hxr.1.lst p ((hsB.2 p).1 hp); omega
          have hdone := hxr.1.done ⟨r1, r2, (xa.emp || m == 0)⟩ hsA.2 hsB.2 m HJ.out rfl
          obtain ⟨i1, o1⟩ := hown HZ.out.2.1 hne1
          obtain ⟨i2, o2⟩ := hown HZ.out.2.2.2.1 hne2
          refine ⟨bi, ⟨r1, r2, (xa.emp || m == 0)⟩, fpi, _, _, rfl, q1, q2, ⟨i1, o1⟩, ⟨i2, o2⟩, hdone.iff (fun z => (HLANG.out z).symm), by rw [HPC.out.1]; exact hfl, ⟨hne1, hne2⟩, by rw [HPC.out.1]; exact ⟨hln1, hln2⟩, by rw [HPC.out.2]; exact HI.out.2⟩
end Go.Proofs.YtoaibhacognbjaaGreatDoor
namespace Go.Proofs.YtoaibhacognbjaaGreatDoor
set_option linter.unusedVariables false
set_option linter.unusedSimpArgs false
set_option maxRecDepth 100000
open Go.RowKit
theorem info_rg : (Tryz.prog.info? 26).map (fun i => (i.zero, i.size, i.bytes)) = some (some (.slice none 0 0), 1, 24) := by kernel_rfl
theorem info_li : (Tryz.prog.info? 22).map (fun i => (i.zero, i.size, i.bytes)) = some (some (.slice none 0 0), 1, 24) := by kernel_rfl
/-- Where an append's row lies. -/
def Fresh (v' v : Value) (N : Nat) : Prop := v'.ownBlock = v.ownBlock ∨ ∃ g, v'.ownBlock = some g ∧ N ≤ g
theorem BuS.addPos {w0 : World} {s : Nat} {x2 x3 x4 : Value} {b : Pb} {vs vf : Value} {rows sv : List Value} {w w' : World} (h : BuS w0 s x2 x3 x4 b vs vf rows sv w) {vs' vf' rv : Value} {rs : List (Nat × Nat)}
    (hcs : w'.heap[s]? = some (.cells #[vs', vf', x2, x3, x4] 182 (0, 0))) (hos : w'.ownsRow w0.heap.size 26 1 vs' (b.sets.length + 1) (sv ++ [rv])) (hof : w'.ownsRow w0.heap.size 22 1 vf' (b.fol.length + 1) (rows ++ [.slice none 0 0]))
    (hfs : Fresh vs' vs w.heap.size) (hff : Fresh vf' vf w.heap.size) (hne : ∀ g, vs'.ownBlock = some g → vf'.ownBlock ≠ some g) (hk : KeepF (s :: (blk vs ++ blk vf)) [] w w') (hrg : RgIn w0 rv rs ∧ rngF rs = true) :
    BuS w0 s x2 x3 x4 ⟨b.sets ++ [rs], b.fol ++ [[]]⟩ vs' vf' (rows ++ [.slice none 0 0]) (sv ++ [rv]) w' ∧ KeepF (fpS s vs vf rows) (fpS s vs' vf' (rows ++ [.slice none 0 0])) w w' := by
  have hlt := h.lt
  have hnd := h.nd
  rw [List.nodup_cons, List.nodup_append] at hnd
  obtain ⟨n1, n2, n3, n4⟩ := hnd
  rw [List.nodup_append] at n3
  obtain ⟨n5, n6, n7⟩ := n3
  have hrl : rows.length = b.fol.length := by have := h.fol.1; omega
  have hsl : sv.length = b.sets.length := by have := h.sets.1; omega
  have hnil : blk (Value.slice none 0 0) = [] := rfl
  have hflat : (rows ++ [Value.slice none 0 0]).flatMap blk = rows.flatMap blk := by simp [List.flatMap_append, hnil]
  have hS : ∀ g ∈ blk vs', g ∈ blk vs ∨ w.heap.size ≤ g := fun g hg => hfs.elim (fun e => .inl (by unfold blk at hg ⊢; rw [← e]; exact hg)) fun ⟨g', e, h2⟩ => .inr (by unfold blk at hg; rw [e] at hg; simp at hg; omega)
  have hF : ∀ g ∈ blk vf', g ∈ blk vf ∨ w.heap.size ≤ g := fun g hg => hff.elim (fun e => .inl (by unfold blk at hg ⊢; rw [← e]; exact hg)) fun ⟨g', e, h2⟩ => .inr (by unfold blk at hg; rw [e] at hg; simp at hg; omega)
  have lS : ∀ g ∈ blk vs, g < w.heap.size := fun g hg => (hlt g (by unfold fpS; simp [hg])).2
  have lF : ∀ g ∈ blk vf, g < w.heap.size := fun g hg => (hlt g (by unfold fpS; simp [hg])).2
  have lR : ∀ g ∈ rows.flatMap blk, g < w.heap.size := fun g hg => (hlt g (by unfold fpS; simp only [List.mem_cons, List.mem_append]; exact .inr (.inr (.inr hg)))).2
  have ls : s < w.heap.size := (hlt s (by simp [fpS])).2
  have hkn : KeepF (fpS s vs vf rows) (fpS s vs' vf' (rows ++ [.slice none 0 0])) w w' := by
    refine ⟨hk.os, hk.tape, hk.output, hk.size, fun k h1 h2 => hk.blk k h1 fun hm => h2 ?_, fun k hm => ?_⟩
    · unfold fpS
      simp only [List.mem_cons, List.mem_append] at hm ⊢
      rcases hm with hm | hm | hm
      · exact .inl hm
      · exact .inr (.inl hm)
      · exact .inr (.inr (.inl hm))
    · unfold fpS at hm ⊢
      rw [hflat] at hm
      simp only [List.mem_cons, List.mem_append] at hm ⊢
      rcases hm with hm | hm | hm | hm
      · exact .inl (.inl hm)
      · exact (hS k hm).imp (fun h => .inr (.inl h)) id
      · exact (hF k hm).imp (fun h => .inr (.inr (.inl h))) id
      · exact .inl (.inr (.inr (.inr hm)))
  refine ⟨⟨?_, h.hs, hcs, by simpa using hos, fun i hi => ?_, by simpa using hof, fun i hi => ?_, h.bel.trans (hkn.below (fun k hk => (hlt k hk).1) h.bel.size)⟩, hkn⟩
  · rw [hflat, List.nodup_cons, List.nodup_append, List.nodup_append]
    refine ⟨fun hm => ?_, ?_, ⟨?_, n6, fun x hx y hy => ?_⟩, fun x hx y hy => ?_⟩
    · rcases List.mem_append.1 hm with hm | hm
      · rcases hS s hm with h1 | h1
        · exact n1 (List.mem_append_left _ h1)
        · omega
      · rcases List.mem_append.1 hm with hm | hm
        · rcases hF s hm with h1 | h1
          · exact n1 (List.mem_append_right _ (List.mem_append_left _ h1))
          · omega
        · exact n1 (List.mem_append_right _ (List.mem_append_right _ hm))
    · unfold blk; cases vs'.ownBlock <;> simp
    · unfold blk; cases vf'.ownBlock <;> simp
    · rcases hF x hx with h1 | h1
      · exact n7 x h1 y hy
      · have := lR y hy; omega
    · rcases List.mem_append.1 hy with hy | hy
      · exact fun e => hne x (mem_blk.1 hx) (by rw [e]; exact mem_blk.1 hy)
      · rcases hS x hx with h1 | h1
        · exact n4 x h1 y (List.mem_append_right _ hy)
        · have := lR y hy; omega
  · by_cases hib : i < b.sets.length
    · obtain ⟨v, v1, v2⟩ := h.setv i hib
      refine ⟨v, by rw [List.getElem?_append_left (by omega)]; exact v1, ?_⟩
      simp only [List.getElem_append_left hib]; exact v2
    · simp only [List.length_append, List.length_cons, List.length_nil] at hi
      have hie : i = b.sets.length := by omega
      subst hie
      refine ⟨rv, by rw [List.getElem?_append_right (by omega), hsl]; simp, ?_⟩
      simp only [List.getElem_append_right (Nat.le_refl _), Nat.sub_self, List.getElem_cons_zero]; exact hrg
  · by_cases hib : i < b.fol.length
    · obtain ⟨v, v1, v2⟩ := h.folv i hib
      refine ⟨v, by rw [List.getElem?_append_left (by omega)]; exact v1, ?_⟩
      simp only [List.getElem_append_left hib]
      refine own_same v2 fun g hg => hk.blk g (v2.lt g hg).2 fun hm => ?_
      have hgr : g ∈ rows.flatMap blk := List.mem_flatMap.2 ⟨v, List.mem_of_getElem? v1, mem_blk.2 hg⟩
      rcases List.mem_cons.1 hm with e | hm
      · exact n1 (List.mem_append_right _ (List.mem_append_right _ (by rw [← e]; exact hgr)))
      · rcases List.mem_append.1 hm with hm | hm
        · exact n4 g hm g (List.mem_append_right _ hgr) rfl
        · exact n7 g hm g hgr rfl
    · simp only [List.length_append, List.length_cons, List.length_nil] at hi
      have hie : i = b.fol.length := by omega
      subst hie
      refine ⟨.slice none 0 0, by rw [List.getElem?_append_right (by omega), hrl]; simp, ?_⟩
      simp only [List.getElem_append_right (Nat.le_refl _), Nat.sub_self, List.getElem_cons_zero]
      exact World.ownsRow_nil _ _ _ _
end Go.Proofs.YtoaibhacognbjaaGreatDoor
