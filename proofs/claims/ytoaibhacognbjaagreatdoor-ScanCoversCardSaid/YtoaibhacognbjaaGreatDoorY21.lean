/- A machine that is being made: its box, its rows of edges and of bools. · The least machine: where a class stands; the map of numbers; the state of the walk. · The least machine: the rounds of a row, and a whole row. · Walks: machine.least. Conditions: what machine.classes answers, as laid. -/
import Derived.Test.YtoaibhacognbjaaGreatDoorY19
import Derived.Test.YtoaibhacognbjaaGreatDoorY17
import Derived.Test.YtoaibhacognbjaaGreatDoorY20
import Derived.Test.YtoaibhacognbjaaGreatDoorY04
import Derived.Shelf.Slices.Turned
namespace Go.Proofs.YtoaibhacognbjaaGreatDoor
set_option linter.unusedVariables false
set_option linter.unusedSimpArgs false
set_option maxRecDepth 100000
open Go.RowKit
open Go.Maps (Keyed)
/-- Where a row's cells lie. -/
theorem own_type {w : World} {B k n : Nat} {e : TypeId} {v : Value} {xs : List Value} (h : w.ownsRow B e k v n xs) : ∀ g, v.ownBlock = some g → ∃ cs m, w.heap[g]? = some (.cells cs e m) := fun g hg => by
  rcases h.2 with ⟨h1, -⟩ | ⟨g', cap, cur, h1, -, hg', -⟩
  · subst h1; simp [Value.ownBlock] at hg
  · subst h1; simp [Value.ownBlock] at hg; subst hg; exact ⟨_, _, hg'⟩
theorem own_apart {w : World} {B B' k k' n n' : Nat} {e e' : TypeId} {v u : Value} {xs ys : List Value} (h : w.ownsRow B e k v n xs) (h' : w.ownsRow B' e' k' u n' ys) (he : e ≠ e') : ∀ g, v.ownBlock = some g → u.ownBlock ≠ some g := fun g hg hu => by
  obtain ⟨cs, m, h1⟩ := own_type h g hg
  obtain ⟨cs', m', h2⟩ := own_type h' g hu
  rw [h1] at h2
  injection h2 with h2
  injection h2 with _ h3 _
  exact he h3
theorem own_ne {w : World} {B k n : Nat} {e e' : TypeId} {v : Value} {xs : List Value} (h : w.ownsRow B e k v n xs) {N : Nat} {cs : Array Value} {m : Nat × Nat} (hN : w.heap[N]? = some (.cells cs e' m)) (he : e ≠ e') : v.ownBlock ≠ some N := fun hv => by
  obtain ⟨cs', m', h1⟩ := own_type h N hv
  rw [hN] at h1
  injection h1 with h1
  injection h1 with _ h3 _
  exact he h3.symm
def fpM (N : Nat) (vE vA : Value) : List Nat := N :: (blk vE ++ blk vA)
theorem mem_fpM {N : Nat} {vE vA : Value} {k : Nat} : k ∈ fpM N vE vA ↔ k = N ∨ vE.ownBlock = some k ∨ vA.ownBlock = some k := by
  unfold fpM
  simp only [List.mem_cons, List.mem_append, mem_blk]
/-- A machine that is being made, in the box N; the blocks fx are written beside it. -/
structure MkM (B N : Nat) (fx : List Nat) (vE vA : Value) (gv : List Value) (rs : List (List Ed)) (acs : List Bool) (w : World) : Prop where
  hN : w.heap[N]? = some (.cells #[vE, vA] 76 (0, 0))
  bN : B ≤ N
  own : w.ownsRow B 167 1 vE rs.length gv
  gvs : ∀ i (h : i < rs.length), ∃ v, gv[i]? = some v ∧ EdIn w v rs[i] ∧ outOf (fpM N vE vA) v ∧ outOf fx v ∧ ∀ g, v.ownBlock = some g → B ≤ g ∧ g < w.heap.size
  acc : OR 4 1 bC B vA acs w
  out : ∀ k ∈ fpM N vE vA, k ∉ fx
section
variable {B N : Nat} {fx fx' : List Nat} {vE vA : Value} {gv : List Value} {rs : List (List Ed)} {acs : List Bool} {w w' : World}
theorem MkM.lt (h : MkM B N fx vE vA gv rs acs w) : ∀ k ∈ fpM N vE vA, B ≤ k ∧ k < w.heap.size := fun k hk => by
  rcases mem_fpM.1 hk with rfl | hk | hk
  · exact ⟨h.bN, (Array.getElem?_eq_some_iff.1 h.hN).1⟩
  · exact h.own.lt k hk
  · exact World.ownsRow.lt h.acc k hk
theorem MkM.keep (h : MkM B N fx vE vA gv rs acs w) (hk : KeepF fx fx' w w') : MkM B N fx' vE vA gv rs acs w' := by
  have hlt := h.lt
  have hb : ∀ k ∈ fpM N vE vA, w'.heap[k]? = w.heap[k]? := fun k hm => hk.blk k (hlt k hm).2 (h.out k hm)
  refine ⟨(hb N (mem_fpM.2 (.inl rfl))).trans h.hN, h.bN, own_same h.own fun g hg => hb g (mem_fpM.2 (.inr (.inl hg))), fun i hi => ?_, OR.keep h.acc fun g hg => hb g (mem_fpM.2 (.inr (.inr hg))), fun k hm hx => (hk.new k hx).elim (h.out k hm) fun hz => by have := (hlt k hm).2; omega⟩
  obtain ⟨v, h1, h2, h3, h4, h5⟩ := h.gvs i hi
  exact ⟨v, h1, h2.keep h4 hk, h3, outOf_keep h4 (fun g hg => (h5 g hg).2) hk, fun g hg => ⟨(h5 g hg).1, Nat.lt_of_lt_of_le (h5 g hg).2 hk.size⟩⟩
theorem MkM.later (h : MkM B N fx vE vA gv rs acs w) (hb : Below w.heap.size w w') : MkM B N fx vE vA gv rs acs w' := h.keep (KeepF.of_below hb)
theorem fresh_keep {v v' : Value} {n k : Nat} (hf : Fresh v' v n) (h : v'.ownBlock = some k) : v.ownBlock = some k ∨ n ≤ k := by
  rcases hf with hf | ⟨g, hf, h2⟩
  · exact .inl (hf ▸ h)
  · rw [hf] at h; injection h with h; exact .inr (h ▸ h2)
/-- The box and its rows were written. -/
theorem MkM.put (h : MkM B N fx vE vA gv rs acs w) (hfx : ∀ k ∈ fx, k < w.heap.size) (hk : KeepF (fpM N vE vA) [] w w') {vE' vA' : Value} {gv' : List Value} {rs' : List (List Ed)} {acs' : List Bool}
    (hN : w'.heap[N]? = some (.cells #[vE', vA'] 76 (0, 0))) (hE : w'.ownsRow B 167 1 vE' rs'.length gv') (hA : OR 4 1 bC B vA' acs' w') (fE : Fresh vE' vE w.heap.size) (fA : Fresh vA' vA w.heap.size)
    (hr : ∀ i (hi : i < rs'.length), ∃ v, gv'[i]? = some v ∧ EdIn w v rs'[i] ∧ outOf (fpM N vE vA) v ∧ outOf fx v ∧ ∀ g, v.ownBlock = some g → B ≤ g ∧ g < w.heap.size) :
    MkM B N fx vE' vA' gv' rs' acs' w' ∧ KeepF (fpM N vE vA) (fpM N vE' vA') w w' := by
  have hnew : ∀ k ∈ fpM N vE' vA', k ∈ fpM N vE vA ∨ w.heap.size ≤ k := fun k hm => by
    rcases mem_fpM.1 hm with rfl | hm | hm
    · exact .inl (mem_fpM.2 (.inl rfl))
    · exact (fresh_keep fE hm).imp (fun h => mem_fpM.2 (.inr (.inl h))) id
    · exact (fresh_keep fA hm).imp (fun h => mem_fpM.2 (.inr (.inr h))) id
  have hk2 : KeepF (fpM N vE vA) (fpM N vE' vA') w w' := ⟨hk.os, hk.tape, hk.output, hk.size, hk.blk, hnew⟩
  refine ⟨⟨hN, h.bN, hE, fun i hi => ?_, hA, fun k hm hx => (hnew k hm).elim (fun h1 => h.out k h1 hx) fun h1 => by have := hfx k hx; omega⟩, hk2⟩
  obtain ⟨v, h1, h2, h3, h4, h5⟩ := hr i hi
  exact ⟨v, h1, h2.keep h3 hk2, outOf_keep h3 (fun g hg => (h5 g hg).2) hk2, h4, fun g hg => ⟨(h5 g hg).1, Nat.lt_of_lt_of_le (h5 g hg).2 hk.size⟩⟩
theorem MkM.rowsOld (h : MkM B N fx vE vA gv rs acs w) : ∀ i (hi : i < rs.length), ∃ v, gv[i]? = some v ∧ EdIn w v rs[i] ∧ outOf (fpM N vE vA) v ∧ outOf fx v ∧ ∀ g, v.ownBlock = some g → B ≤ g ∧ g < w.heap.size := h.gvs
theorem MkM.rowsNew (h : MkM B N fx vE vA gv rs acs w) {v : Value} {r : List Ed} (hv : EdIn w v r) (ho : outOf (fpM N vE vA) v) (hx : outOf fx v) (hl : ∀ g, v.ownBlock = some g → B ≤ g ∧ g < w.heap.size) :
    ∀ i (hi : i < (rs ++ [r]).length), ∃ u, (gv ++ [v])[i]? = some u ∧ EdIn w u (rs ++ [r])[i] ∧ outOf (fpM N vE vA) u ∧ outOf fx u ∧ ∀ g, u.ownBlock = some g → B ≤ g ∧ g < w.heap.size := fun i hi => by
  have hgl : gv.length = rs.length := by have := h.own.1; omega
  by_cases hlt : i < rs.length
  · obtain ⟨u, h1, h2, h3, h4, h5⟩ := h.gvs i hlt
    refine ⟨u, by rw [List.getElem?_append_left (by omega)]; exact h1, ?_, h3, h4, h5⟩
    rw [List.getElem_append_left hlt]; exact h2
  · have hie : i = rs.length := by simp at hi; omega
    subst hie
    refine ⟨v, by rw [List.getElem?_append_right (by omega), hgl]; simp, ?_, ho, hx, hl⟩
    rw [List.getElem_append_right (Nat.le_refl _)]
    simpa using hv
theorem MkM.box0 {w1 : World} (h : MkM B N fx vE vA gv rs acs w) (hg : w1.heap[N]? = w.heap[N]?) (v : Value) : (w1.setCell ⟨N, 0, none⟩ v).heap[N]? = some (.cells #[v, vA] 76 (0, 0)) := by
  have := set_row3 (hg.trans h.hN) 0 v
  simpa using this
theorem MkM.box1 {w1 : World} (h : MkM B N fx vE vA gv rs acs w) (hg : w1.heap[N]? = w.heap[N]?) (v : Value) : (w1.setCell ⟨N, 1, none⟩ v).heap[N]? = some (.cells #[vE, v] 76 (0, 0)) := by
  have := set_row3 (hg.trans h.hN) 1 v
  simpa using this
theorem MkM.neE (h : MkM B N fx vE vA gv rs acs w) : vE.ownBlock ≠ some N := own_ne h.own h.hN (by decide)
theorem MkM.neA (h : MkM B N fx vE vA gv rs acs w) : vA.ownBlock ≠ some N := own_ne (show w.ownsRow _ _ _ _ _ _ from h.acc) h.hN (by decide)
theorem MkM.neEA (h : MkM B N fx vE vA gv rs acs w) : ∀ g, vE.ownBlock = some g → vA.ownBlock ≠ some g := own_apart h.own (show w.ownsRow _ _ _ _ _ _ from h.acc) (by decide)
/-- A row of edges is added: to the row, then to the box. -/
theorem MkM.addE {w1 : World} (h : MkM B N fx vE vA gv rs acs w) (hfx : ∀ k ∈ fx, k < w.heap.size) {v : Value} {r : List Ed} (hv : EdIn w v r) (ho : outOf (fpM N vE vA) v) (hx : outOf fx v) (hl : ∀ g, v.ownBlock = some g → B ≤ g ∧ g < w.heap.size)
    {vE' : Value} (hown : w1.ownsRow B 167 1 vE' (rs.length + 1) (gv ++ [v])) (hg : w.grownBy w1 vE.ownBlock) (hf : Fresh vE' vE w.heap.size) :
    MkM B N fx vE' vA (gv ++ [v]) (rs ++ [r]) acs (w1.setCell ⟨N, 0, none⟩ vE') ∧ KeepF (fpM N vE vA) (fpM N vE' vA) w (w1.setCell ⟨N, 0, none⟩ vE') := by
  have hlt := h.lt
  have hNlt := (hlt N (mem_fpM.2 (.inl rfl))).2
  have hz := hg.size
  have hset : ∀ k, k ≠ N → (w1.setCell ⟨N, 0, none⟩ vE').heap[k]? = w1.heap[k]? := fun k hk => Below.heap_setCell _ _ _ _ hk
  have hk1 : KeepF (fpM N vE vA) [] w w1 := kf_of_gb hg fun g hg => mem_fpM.2 (.inr (.inl hg))
  have hk : KeepF (fpM N vE vA) [] w (w1.setCell ⟨N, 0, none⟩ vE') := hk1.tr ⟨rfl, rfl, rfl, by simp [World.setCell], fun k _ hn => hset k (fun e => hn (mem_fpM.2 (.inl e))), fun k hk => by cases hk⟩
  have hN1 : w1.heap[N]? = w.heap[N]? := hg.block N hNlt (fun e => h.neE e.symm)
  have e1 : (w1.setCell ⟨N, 0, none⟩ vE').ownsRow B 167 1 vE' (rs ++ [r]).length (gv ++ [v]) := by
    rw [List.length_append]
    refine own_same hown fun g hgx => hset g ?_
    rintro rfl
    rcases fresh_keep hf hgx with h1 | h1
    · exact h.neE h1
    · omega
  have e2 : OR 4 1 bC B vA acs (w1.setCell ⟨N, 0, none⟩ vE') := OR.keep h.acc fun g hgx => (hset g (by rintro rfl; exact h.neA hgx)).trans (hg.block g (hlt g (mem_fpM.2 (.inr (.inr hgx)))).2 fun e => h.neEA g e.symm hgx)
  exact h.put hfx hk (h.box0 hN1 vE') e1 e2 hf (.inl rfl) (h.rowsNew hv ho hx hl)
/-- A bool is added. -/
theorem MkM.addA {w1 : World} (h : MkM B N fx vE vA gv rs acs w) (hfx : ∀ k ∈ fx, k < w.heap.size) {a : Bool}
    {vA' : Value} (hown : OR 4 1 bC B vA' (acs ++ [a]) w1) (hg : w.grownBy w1 vA.ownBlock) (hf : Fresh vA' vA w.heap.size) :
    MkM B N fx vE vA' gv rs (acs ++ [a]) (w1.setCell ⟨N, 1, none⟩ vA') ∧ KeepF (fpM N vE vA) (fpM N vE vA') w (w1.setCell ⟨N, 1, none⟩ vA') := by
  have hlt := h.lt
  have hNlt := (hlt N (mem_fpM.2 (.inl rfl))).2
  have hz := hg.size
  have hset : ∀ k, k ≠ N → (w1.setCell ⟨N, 1, none⟩ vA').heap[k]? = w1.heap[k]? := fun k hk => Below.heap_setCell _ _ _ _ hk
  have hk1 : KeepF (fpM N vE vA) [] w w1 := kf_of_gb hg fun g hg => mem_fpM.2 (.inr (.inr hg))
  have hk : KeepF (fpM N vE vA) [] w (w1.setCell ⟨N, 1, none⟩ vA') := hk1.tr ⟨rfl, rfl, rfl, by simp [World.setCell], fun k _ hn => hset k (fun e => hn (mem_fpM.2 (.inl e))), fun k hk => by cases hk⟩
  have hN1 : w1.heap[N]? = w.heap[N]? := hg.block N hNlt (fun e => h.neA e.symm)
  have e1 : (w1.setCell ⟨N, 1, none⟩ vA').ownsRow B 167 1 vE rs.length gv := own_same h.own fun g hgx => (hset g (by rintro rfl; exact h.neE hgx)).trans (hg.block g (hlt g (mem_fpM.2 (.inr (.inl hgx)))).2 fun e => h.neEA g hgx e.symm)
  have e2 : OR 4 1 bC B vA' (acs ++ [a]) (w1.setCell ⟨N, 1, none⟩ vA') := OR.keep hown fun g hgx => hset g (by
    rintro rfl
    rcases fresh_keep hf hgx with h1 | h1
    · exact h.neA h1
    · omega)
  exact h.put hfx hk (h.box1 hN1 vA') e1 e2 (.inl rfl) hf h.rowsOld
/-- The machine that was made, as a value. -/
theorem MkM.mcIn (h : MkM B N fx vE vA gv rs acs w) : McIn w (.agg #[vE, vA]) ⟨rs, acs⟩ := by
  refine ⟨vE, vA, rfl, ?_, BlIn.of_OR h.acc⟩
  have hgl : gv.length = rs.length := by have := h.own.1; omega
  rcases h.own.2 with ⟨h1, h2⟩ | ⟨g, cap, cur, h1, -, hg, hle, hm, hcs, ht⟩
  · exact ⟨none, 0, by rw [h1, h2], ⟨by show rs.length ≤ 0; omega, by decide⟩, .inl (List.length_eq_zero_iff.1 h2)⟩
  · refine ⟨_, cap, h1, ⟨by omega, by unfold maxLen at hm; omega⟩, .inr ⟨g, 0, rfl, (Array.getElem?_eq_some_iff.1 hg).1, fun i hi => ?_⟩⟩
    obtain ⟨v, e1, e2, -⟩ := h.gvs i hi
    refine ⟨v, ?_, e2⟩
    subst h1
    have := h.own.cellAt i (by rw [Nat.mul_one]; exact hi)
    rw [Nat.zero_add, this, e1]
end
/-- What lies below was written. -/
theorem MkM.low {B N : Nat} {fx : List Nat} {vE vA : Value} {gv : List Value} {rs : List (List Ed)} {acs : List Bool} {w w' : World} {L L' : List Nat} (h : MkM B N fx vE vA gv rs acs w) (hk : KeepF L L' w w') (hL : ∀ k ∈ L, k < B) : MkM B N fx vE vA gv rs acs w' := by
  have hlt := h.lt
  have hb : ∀ k ∈ fpM N vE vA, w'.heap[k]? = w.heap[k]? := fun k hm => hk.blk k (hlt k hm).2 fun hl => by have := hL k hl; have := (hlt k hm).1; omega
  refine ⟨(hb N (mem_fpM.2 (.inl rfl))).trans h.hN, h.bN, own_same h.own fun g hg => hb g (mem_fpM.2 (.inr (.inl hg))), fun i hi => ?_, OR.keep h.acc fun g hg => hb g (mem_fpM.2 (.inr (.inr hg))), h.out⟩
  obtain ⟨v, h1, h2, h3, h4, h5⟩ := h.gvs i hi
  exact ⟨v, h1, h2.keep (fun g hg hl => by have := hL g hl; have := (h5 g hg).1; omega) hk, h3, h4, fun g hg => ⟨(h5 g hg).1, Nat.lt_of_lt_of_le (h5 g hg).2 hk.size⟩⟩
/-- A value that reads as a machine, whatever becomes of what lies below. -/
def McUp (B : Nat) (w : World) (v : Value) (m : Mc) : Prop := ∀ w', KeepF (List.range B) [] w w' → McIn w' v m
theorem McUp.mc {B : Nat} {w : World} {v : Value} {m : Mc} (h : McUp B w v m) : McIn w v m := h w ⟨rfl, rfl, rfl, Nat.le_refl _, fun _ _ _ => rfl, fun k hk => by cases hk⟩
theorem McUp.mono {B B' : Nat} {w : World} {v : Value} {m : Mc} (h : McUp B w v m) (hB : B' ≤ B) : McUp B' w v m := fun w' hk =>
  h w' ⟨hk.os, hk.tape, hk.output, hk.size, fun k h1 hn => hk.blk k h1 fun hm => hn (List.mem_range.2 (by have := List.mem_range.1 hm; omega)), fun k hk => by cases hk⟩
theorem McUp.keep {B : Nat} {w w' : World} {v : Value} {m : Mc} {L L' : List Nat} (h : McUp B w v m) (hk : KeepF L L' w w') (hL : ∀ k ∈ L, k < B) : McUp B w' v m := fun w2 hk2 =>
  h w2 ⟨hk2.os.trans hk.os, hk2.tape.trans hk.tape, hk2.output.trans hk.output, Nat.le_trans hk.size hk2.size, fun k h1 hn => (hk2.blk k (Nat.lt_of_lt_of_le h1 hk.size) hn).trans (hk.blk k h1 fun hm => hn (List.mem_range.2 (hL k hm))), fun k hk => by cases hk⟩
theorem McUp.later {B : Nat} {w w' : World} {v : Value} {m : Mc} (h : McUp B w v m) (hb : Below w.heap.size w w') : McUp B w' v m := h.keep (KeepF.of_below (fp := []) hb) (fun k hk => by cases hk)
theorem MkM.up {B N : Nat} {fx : List Nat} {vE vA : Value} {gv : List Value} {rs : List (List Ed)} {acs : List Bool} {w : World} (h : MkM B N fx vE vA gv rs acs w) : McUp B w (.agg #[vE, vA]) ⟨rs, acs⟩ := fun _ hk => (h.low hk fun _ hk => List.mem_range.1 hk).mcIn
/-- A cell of a row is written. -/
theorem OR.setAt {α : Type} {enc : α → List Value} {n : Nat} (E : EncS enc n) {e : TypeId} {B g c : Nat} {o : List α} {w : World} (h : OR e n enc B (.slice (some ⟨g, 0, none⟩) o.length c) o w) (k j : Nat) (hk : k < o.length) (hj : j < n) (x : α) (u : Value) (hx : enc x = (enc o[k]).set j u) :
    OR e n enc B (.slice (some ⟨g, 0, none⟩) o.length c) (o.set k x) (w.setCell ⟨g, k * n + j, none⟩ u) := by
  have h1 : w.ownsRow B e n (.slice (some ⟨g, 0, none⟩) o.length c) o.length (rowF enc o) := h
  have h2 := (h1.stored (k * n + j) u).1
  have ho : o = o.take k ++ ([o[k]] ++ o.drop (k + 1)) := by
    rw [List.singleton_append, ← List.drop_eq_getElem_cons hk, List.take_append_drop]
  have hs : o.set k x = o.take k ++ ([x] ++ o.drop (k + 1)) := by
    rw [List.set_eq_take_append_cons_drop, if_pos hk, List.singleton_append]
  have hA : (rowF enc (o.take k)).length = k * n := by rw [rowF_len E, List.length_take, Nat.min_eq_left (Nat.le_of_lt hk)]
  have h3 : (rowF enc o).set (k * n + j) u = rowF enc (o.set k x) := by
    rw [hs]
    conv => lhs; rw [ho]
    rw [rowF_app, rowF_app, rowF_single, rowF_app, rowF_app, rowF_single, List.set_append_right _ _ (by rw [hA]; omega), hA, show k * n + j - k * n = j by omega, List.set_append_left _ _ (by rw [E.len]; exact hj), hx]
  show World.ownsRow _ _ _ _ _ _ _
  rw [List.length_set, ← h3]
  exact h2
end Go.Proofs.YtoaibhacognbjaaGreatDoor
namespace Go.Proofs.YtoaibhacognbjaaGreatDoor
set_option linter.unusedVariables false
set_option linter.unusedSimpArgs false
set_option maxRecDepth 100000
open Go.RowKit
open Go.Maps (Keyed)
theorem first_at {α : Type} (p : α → Prop) [DecidablePred p] : ∀ (l : List α), (∃ x ∈ l, p x) → ∃ k, ∃ h : k < l.length, p l[k] ∧ ∀ j, (hj : j < k) → ¬ p (l[j]'(by omega))
  | [], h => by obtain ⟨x, hx, -⟩ := h; cases hx
  | a :: l, h => by
    by_cases ha : p a
    · exact ⟨0, by simp, ha, fun j hj => absurd hj (Nat.not_lt_zero _)⟩
    · obtain ⟨k, hk, h1, h2⟩ := first_at p l (by
        obtain ⟨x, hx, hp⟩ := h
        rcases List.mem_cons.1 hx with rfl | hx
        · exact absurd hp ha
        · exact ⟨x, hx, hp⟩)
      refine ⟨k + 1, by simpa using hk, by simpa using h1, fun j hj => ?_⟩
      cases j with
      | zero => simpa using ha
      | succ j => simpa using h2 j (by omega)
/-- slices.Index at classes: a state with the class. -/
theorem index_cls (B g n c cl : Nat) (cs : List (Option Nat)) (w : World) (h : OR 3 1 clC B (.slice (some ⟨g, 0, none⟩) n c) cs w) (hn : cs.length = n) (hbig : n ≤ 1000000) (hex : ∃ s, s < n ∧ clF cs s = some cl) :
    Calls Tryz.prog 180 #[.slice (some ⟨g, 0, none⟩) n c, .int .i64 (cl : Int)] w fun e w' => ∃ s : Nat, e = .returned (.int .i64 (s : Int)) ∧ w' = w ∧ s < n ∧ clF cs s = some cl := by
  have hz : ∀ j, j < n → (cs.map clV).getD j 0 = clV (clF cs j) := fun j hj => by
    unfold clF
    simp only [List.getD_eq_getElem?_getD, List.getElem?_map, List.getElem?_eq_getElem (show j < cs.length by omega), Option.map_some, Option.getD_some]
  have hcell : ∀ j, j < (cs.map clV).length → w.cell? ⟨g, 0 + j, none⟩ = some (.int .i64 ((cs.map clV).getD j 0)) := fun j hj => by
    rw [List.length_map] at hj
    rw [Nat.zero_add, hz j (by omega)]
    exact (h.cellC j hj).1
  refine (Tryz.slices_Index_int g 0 n c (cs.map clV) (cl : Int) w (by simp; omega) (by omega) hcell).mono ?_
  rintro e w' ⟨rfl, rfl⟩
  obtain ⟨s, hs, hsc⟩ := hex
  obtain ⟨k, hk, h1, h2⟩ := first_at (fun x => x = some cl) cs ⟨cs[s]'(by omega), List.getElem_mem _, by
    have := hsc
    unfold clF at this
    rwa [List.getElem?_eq_getElem (by omega : s < cs.length), Option.getD_some] at this⟩
  have hkc : clF cs k = some cl := by unfold clF; rw [List.getElem?_eq_getElem hk, h1]; rfl
  refine ⟨k, ?_, rfl, by omega, hkc⟩
  rw [Lib.idxOf_hit (cs.map clV) n k (cl : Int) (by omega) (by simp; omega) (by rw [hz k (by omega), hkc]; rfl) fun j hj => ?_]
  rw [hz j (by omega)]
  intro hc
  have h3 := h2 j hj
  have hjc : clF cs j = cs[j]'(by omega) := by unfold clF; rw [List.getElem?_eq_getElem (by omega : j < cs.length)]; rfl
  rw [hjc] at hc
  cases hq : cs[j]'(by omega) with
  | none => rw [hq] at hc; have h9 : (-1 : Int) = (cl : Int) := hc; omega
  | some y => rw [hq] at hc; have h9 : (y : Int) = (cl : Int) := hc; have h8 : y = cl := by omega
              subst h8; exact h3 hq
/-- The numbers of classes that are known. -/
def SaysC (F : Lit → Option Value) (c : Nat → Option Nat) (st : List Nat) : Prop := ∀ cl : Nat, F (.int .i64 (cl : Int)) = if some cl ∈ st.map c then some (.int .i64 ((numC c st cl : Nat) : Int)) else none
theorem SaysC.first {c : Nat → Option Nat} {c0 : Nat} (h : c 0 = some c0) : SaysC (updV (fun _ => none) (.int .i64 (c0 : Int)) (some (.int .i64 0))) c [0] := fun cl => by
  unfold updV
  by_cases e : cl = c0
  · subst e
    rw [if_pos (by simp [Lit.sameKey]), if_pos (by simp [h])]
    simp [numC, h]
  · rw [if_neg (by simp [Lit.sameKey]; omega), if_neg (by simp [h]; omega)]
theorem SaysC.put {F : Lit → Option Value} {c : Nat → Option Nat} {st : List Nat} (h : SaysC F c st) {cl s : Nat} (hn : ¬ some cl ∈ st.map c) (hc : c s = some cl) (x : Int) (hx : x = (st.length : Int)) : SaysC (updV F (.int .i64 (cl : Int)) (some (.int .i64 x))) c (st ++ [s]) := fun y => by
  subst hx
  unfold updV
  by_cases e : y = cl
  · subst e
    rw [if_pos (by simp [Lit.sameKey]), if_pos (by simp [hc]), numC_new hn hc]
  · rw [if_neg (by simp [Lit.sameKey]; omega), h y]
    by_cases hy : some y ∈ st.map c
    · rw [if_pos hy, if_pos (by rw [List.map_append]; exact List.mem_append_left _ hy), numC_grow s hy]
    · rw [if_neg hy, if_neg]
      intro hm
      rw [List.map_append, List.mem_append] at hm
      rcases hm with hm | hm
      · exact hy hm
      · simp [hc] at hm; exact e hm
theorem wpList_ins_MV {P : Program} (w : World) {ops : Array Oper} {rest : List Oper} {o : Oper} {a : Act} {Q : Exit → Act → World → Prop}
    (hg : o.guard = none) (m x v : Operand) (t : TypeId) (hop : o.op = Op.insert t m x v) (k e : TypeId) (K : Keyed P k) (ht : P.underlying t = some (.map k e)) (b n : Nat) (f : Lit → Option Value)
    (hm : a.eval m = .map (some b)) (h : MV P k b n f w) (hn : n < maxLen) (key val : Value) (kl : Lit) (hx : a.eval x = key) (hv : a.eval v = val) (hkey : keyOf P k key = some kl) (hkl : WideAt.IsKeyLit kl)
    (hK : ∀ w', MV P k b (n + 1) (updV f kl (some val)) w' → w.grownBy w' (some b) → wpList P ops Q rest (a.put o.dst undef) w') :
    wpList P ops Q (o :: rest) a w := by
  refine wpList_plain hg fun K' hK' => ?_
  obtain ⟨w', hrun, r1, r2⟩ := h.put K ht hn hkey hkl val
  unfold Oper.wp
  simp [execOp, hop, hm, hx, hv, hrun, Result.andThen]
  exact hK' _ _ (hK w' r1 r2)
theorem mv_ne {P : Program} {k e : TypeId} {b n B q n' : Nat} {f : Lit → Option Value} {w : World} {v : Value} {xs : List Value} (h : MV P k b n f w) (ho : w.ownsRow B e q v n' xs) : v.ownBlock ≠ some b := fun hv => by
  obtain ⟨D, ⟨es, c, h1, -⟩, -⟩ := h
  obtain ⟨cs, md, h2⟩ := own_type ho b hv
  rw [h1] at h2
  injection h2 with h2
  cases h2
theorem MkM.sub {B N : Nat} {fx fx' : List Nat} {vE vA : Value} {gv : List Value} {rs : List (List Ed)} {acs : List Bool} {w : World} (h : MkM B N fx vE vA gv rs acs w) (hs : ∀ k ∈ fx', k ∈ fx) : MkM B N fx' vE vA gv rs acs w :=
  h.keep ⟨rfl, rfl, rfl, Nat.le_refl _, fun _ _ _ => rfl, fun k hk => .inl (hs k hk)⟩
/-- The state of the walk: behind i rows, with the edges p of the row lv. -/
structure LeS (m : Mc) (c : Nat → Option Nat) (B N mb i : Nat) (bl : List Nat) (rs : List (List Ed)) (acs : List Bool) (vE vA : Value) (gv : List Value) (p : List Ed) (t : Nat) (st : List Nat) (F : Lit → Option Value) (vst : Value) (w : World) : Prop where
  ma : MkM B N (mb :: (blk vst ++ bl)) vE vA gv rs acs w
  mv : MV Tryz.prog 3 mb st.length F w
  bm : B ≤ mb
  say : SaysC F c st
  own : w.ownsRow B 3 1 vst st.length (ints st)
  le : LeI m c st i rs p t
  ac : acs = (st.take i).map fun s => (m.ac[s]?).getD false
section
variable {m : Mc} {c : Nat → Option Nat} {B N mb i : Nat} {bl : List Nat} {rs : List (List Ed)} {acs : List Bool} {vE vA : Value} {gv : List Value} {p : List Ed} {t : Nat} {st : List Nat} {F : Lit → Option Value} {vst : Value} {w w' : World}
theorem LeS.later (h : LeS m c B N mb i bl rs acs vE vA gv p t st F vst w) (hb : Below w.heap.size w w') : LeS m c B N mb i bl rs acs vE vA gv p t st F vst w' :=
  ⟨h.ma.later hb, h.mv.kept (hb.block _ h.mv.lt), h.bm, h.say, own_later h.own hb, h.le, h.ac⟩
/-- A row was made. -/
theorem LeS.rowIn (h : LeS m c B N mb i [] rs acs vE vA gv p t st F vst w) (hb : Below w.heap.size w w') (lv : Value) (hl : ∀ g, lv.ownBlock = some g → w.heap.size ≤ g) : LeS m c B N mb i (blk lv) rs acs vE vA gv p t st F vst w' :=
  ⟨h.ma.keep ⟨hb.os, hb.tape, hb.output, hb.size, fun k hk _ => hb.block k hk, fun k hk => by
    rcases List.mem_cons.1 hk with rfl | hk
    · exact .inl (by simp)
    · rcases List.mem_append.1 hk with hk | hk
      · exact .inl (by simp [hk])
      · exact .inr (hl k (mem_blk.1 hk))⟩, h.mv.kept (hb.block _ h.mv.lt), h.bm, h.say, own_later h.own hb, h.le, h.ac⟩
/-- The row is written. -/
theorem LeS.rowSet {lv : Value} {g : Nat} {a : Addr} (h : LeS m c B N mb i (blk lv) rs acs vE vA gv p t st F vst w) (hg : lv.ownBlock = some g) (ha : a.block = g) (hcs : ∃ cs md, w.heap[g]? = some (.cells cs 169 md)) (x : Value) {p' : List Ed} (hp : LeI m c st i rs p' t) : LeS m c B N mb i (blk lv) rs acs vE vA gv p' t st F vst (w.setCell a x) := by
  have hset : ∀ k, k ≠ g → (w.setCell a x).heap[k]? = w.heap[k]? := fun k hk => Below.heap_setCell _ _ _ _ (by rw [ha]; exact hk)
  obtain ⟨cs, md, hcs⟩ := hcs
  have hm : g ≠ mb := by
    rintro rfl
    obtain ⟨D, ⟨es, c, h1, -⟩, -⟩ := h.mv
    rw [hcs] at h1
    injection h1 with h1
    cases h1
  have hgl := (Array.getElem?_eq_some_iff.1 hcs).1
  refine ⟨h.ma.keep ⟨rfl, rfl, rfl, by simp [World.setCell], fun k _ hn => hset k (fun e => hn (by simp [mem_blk, e, hg])), fun k hk => .inl hk⟩, h.mv.kept (hset mb (Ne.symm hm)), h.bm, h.say, own_same h.own fun q hq => hset q ?_, hp, h.ac⟩
  rintro rfl
  exact own_ne h.own hcs (by decide) hq
/-- A state is met. -/
theorem LeS.meet {w1 w2 w3 : World} {lv vst' : Value} {F' : Lit → Option Value} {st' : List Nat} (h : LeS m c B N mb i (blk lv) rs acs vE vA gv p t st F vst w) (hg1 : w.grownBy w1 (some mb)) (hm1 : MV Tryz.prog 3 mb st'.length F' w1)
    (hb2 : Below w1.heap.size w1 w2) (hg3 : w2.grownBy w3 vst.ownBlock) (ho3 : w3.ownsRow B 3 1 vst' st'.length (ints st')) (hf3 : Fresh vst' vst w2.heap.size) (hlv : ∀ g, lv.ownBlock = some g → g < w.heap.size)
    (hs' : SaysC F' c st') {p' : List Ed} (hle : LeI m c st' i rs p' t) (htk : st'.take i = st.take i) : LeS m c B N mb i (blk lv) rs acs vE vA gv p' t st' F' vst' w3 := by
  have hne := mv_ne h.mv h.own
  have z1 := hg1.size
  have z2 := hb2.size
  have z3 := hg3.size
  have hmb := h.mv.lt
  have hk : KeepF (mb :: (blk vst ++ blk lv)) (mb :: (blk vst' ++ blk lv)) w w3 := by
    refine ⟨hg3.os.trans (hb2.os.trans hg1.os), hg3.tape.trans (hb2.tape.trans hg1.tape), hg3.output.trans (hb2.output.trans hg1.output), by omega, fun k hk hn => ?_, fun k hk => ?_⟩
    · exact (hg3.block k (by omega) (fun e => hn (by simp [mem_blk, e.symm]))).trans ((hb2.block k (by omega)).trans (hg1.block k hk (fun e => hn (by injection e with e; simp [e]))))
    · rcases List.mem_cons.1 hk with rfl | hk
      · exact .inl (by simp)
      · rcases List.mem_append.1 hk with hk | hk
        · exact (fresh_keep hf3 (mem_blk.1 hk)).imp (fun h => by simp [mem_blk, h]) (fun h => by omega)
        · exact .inl (by simp [hk])
  exact ⟨h.ma.keep hk, hm1.kept ((hg3.block mb (by omega) (fun e => hne e.symm)).trans (hb2.block mb (by omega))), h.bm, hs', ho3, hle, by rw [htk]; exact h.ac⟩
end
def LeOK (m m' : Mc) : Prop := ((LiveS m 0 ∧ Canon m' ∧ ∀ w, acF m' w 0 = acF m w 0) ∨ (¬ LiveS m 0 ∧ m' = ⟨[[]], [false]⟩)) ∧ m'.ed.length ≤ m.ed.length ∧ McSm m'
def LePost (m : Mc) (w : World) (e : Ending) (w' : World) : Prop := ∃ rv m', e = .returned rv ∧ McUp w.heap.size w' rv m' ∧ Below w.heap.size w w' ∧ LeOK m m'
end Go.Proofs.YtoaibhacognbjaaGreatDoor
namespace Go.Proofs.YtoaibhacognbjaaGreatDoor
set_option linter.unusedVariables false
set_option linter.unusedSimpArgs false
set_option maxRecDepth 100000
open Go.RowKit
open Go.Maps (Keyed)
theorem ren_set (f : Nat → Nat) (J : List Ed) (k : Nat) (h : k < J.length) : (renE f (J.take k) ++ J.drop k).set k ⟨J[k].lo, J[k].hi, f J[k].to⟩ = renE f (J.take (k + 1)) ++ J.drop (k + 1) := by
  have hl : (renE f (J.take k)).length = k := by rw [renE_len, List.length_take]; omega
  rw [List.set_append_right _ _ (by omega), hl, Nat.sub_self, List.drop_eq_getElem_cons h, List.set_cons_zero, List.take_succ_eq_append_getElem h, renE_snoc, List.append_assoc]
  rfl
theorem ren_at (f : Nat → Nat) (J : List Ed) (k : Nat) (h : k < J.length) : ∃ h2, (renE f (J.take k) ++ J.drop k)[k]'h2 = J[k] := by
  have hl : (renE f (J.take k)).length = k := by rw [renE_len, List.length_take]; omega
  refine ⟨by rw [List.length_append, hl, List.length_drop]; omega, ?_⟩
  rw [List.getElem_append_right (by omega)]
  simp [hl]
theorem ren_len (f : Nat → Nat) (J : List Ed) (k : Nat) (h : k ≤ J.length) : (renE f (J.take k) ++ J.drop k).length = J.length := by
  rw [List.length_append, renE_len, List.length_take, List.length_drop]; omega
theorem LeS.rowDone {m : Mc} {c : Nat → Option Nat} {B N mb i : Nat} {rs : List (List Ed)} {acs : List Bool} {vE vA vE' vA' lv : Value} {gv : List Value} {p : List Ed} {t : Nat} {st : List Nat} {F : Lit → Option Value} {vst : Value} {w w' : World} {B1 s : Nat} {a : Bool}
    (h : LeS m c B N mb i (blk lv) rs acs vE vA gv p t st F vst w) (hB1 : B ≤ B1) (hlv : OR 169 3 edC B1 lv (renE (numC c st) p) w) (hk : KeepF (fpM N vE vA) [] w w')
    (hN : w'.heap[N]? = some (.cells #[vE', vA'] 76 (0, 0))) (hE : w'.ownsRow B 167 1 vE' (rs.length + 1) (gv ++ [lv])) (hA : OR 4 1 bC B vA' (acs ++ [a]) w') (fE : Fresh vE' vE w.heap.size) (fA : Fresh vA' vA w.heap.size)
    (hit : i ≤ t) (hs : st[i]? = some s) (hp : p = joinF c (rowM m s)) (ha : a = (m.ac[s]?).getD false) :
    LeS m c B N mb (i + 1) [] (rs ++ [renE (numC c st) p]) (acs ++ [a]) vE' vA' (gv ++ [lv]) [] (topE t (renE (numC c st) p)) st F vst w' := by
  have hout : outOf (fpM N vE vA) lv := fun g hg hm => h.ma.out g hm (by simp [mem_blk, hg])
  have hx : outOf (mb :: (blk vst ++ [])) lv := fun g hg hm => by
    rcases List.mem_cons.1 hm with rfl | hm
    · exact mv_ne h.mv (show w.ownsRow _ _ _ _ _ _ from hlv) hg
    · rw [List.append_nil] at hm
      exact own_apart (show w.ownsRow _ _ _ _ _ _ from hlv) h.own (by decide) g hg (mem_blk.1 hm)
  have hl : ∀ g, lv.ownBlock = some g → B ≤ g ∧ g < w.heap.size := fun g hg => ⟨Nat.le_trans hB1 (World.ownsRow.lt hlv g hg).1, (World.ownsRow.lt hlv g hg).2⟩
  have hmk := h.ma.sub (fx' := mb :: (blk vst ++ [])) (fun k hk => by
    rw [List.append_nil] at hk
    rcases List.mem_cons.1 hk with rfl | hk
    · simp
    · simp [hk])
  have hmm : mb ∉ fpM N vE vA := fun hm => hmk.out mb hm (by simp)
  have hvm : ∀ k ∈ blk vst, k ∉ fpM N vE vA := fun k hk hm => hmk.out k hm (by simp [hk])
  obtain ⟨q1, q2⟩ := hmk.put (rs' := rs ++ [renE (numC c st) p]) (fun k hk => by
    rw [List.append_nil] at hk
    rcases List.mem_cons.1 hk with rfl | hk
    · exact h.mv.lt
    · exact (h.own.lt k (mem_blk.1 hk)).2) hk hN (by rw [List.length_append]; exact hE) hA fE fA (hmk.rowsNew (EdIn.of_OR hlv) hout hx hl)
  refine ⟨q1, h.mv.kept (hk.blk mb h.mv.lt hmm), h.bm, h.say, own_same h.own fun g hg => hk.blk g (h.own.lt g hg).2 (hvm g (mem_blk.2 hg)), h.le.row hit hs hp, ?_⟩
  rw [h.ac, ha, List.take_add_one, hs, List.map_append]; rfl
/-- Behind k edges of the row lv. -/
structure LeK (m : Mc) (c : Nat → Option Nat) (N mb i BL : Nat) (rs : List (List Ed)) (acs : List Bool) (vE vA : Value) (gv : List Value) (J : List Ed) (t : Nat) (st : List Nat) (lv : Value) (w1 : World) (kp k : Nat) (st' : List Nat) (F : Lit → Option Value) (vst : Value) (wr : World) : Prop where
  le : LeS m c w1.heap.size N mb i (blk lv) rs acs vE vA gv (J.take kp) t st' F vst wr
  row : OR 169 3 edC BL lv (renE (numC c st') (J.take k) ++ J.drop k) wr
  pre : ∃ more, st' = st ++ more
  bl : Below w1.heap.size w1 wr
  hB : w1.heap.size ≤ BL
section
variable {m : Mc} {c : Nat → Option Nat} {N mb i BL : Nat} {rs : List (List Ed)} {acs : List Bool} {vE vA : Value} {gv : List Value} {J : List Ed} {t : Nat} {st : List Nat} {lv : Value} {w1 : World} {kp k : Nat} {st' : List Nat} {F : Lit → Option Value} {vst : Value} {wr wr' : World}
theorem LeK.later (h : LeK m c N mb i BL rs acs vE vA gv J t st lv w1 kp k st' F vst wr) (hb : Below wr.heap.size wr wr') : LeK m c N mb i BL rs acs vE vA gv J t st lv w1 kp k st' F vst wr' :=
  ⟨h.le.later hb, h.row.later hb, h.pre, h.bl.trans (hb.mono h.bl.size), h.hB⟩
theorem LeK.old (h : LeK m c N mb i BL rs acs vE vA gv J t st lv w1 k k st' F vst wr) (hk : k < J.length) (he : some J[k].to ∈ st'.map c) : LeK m c N mb i BL rs acs vE vA gv J t st lv w1 (k + 1) k st' F vst wr :=
  ⟨⟨h.le.ma, h.le.mv, h.le.bm, h.le.say, h.le.own, by rw [List.take_succ_eq_append_getElem hk]; exact h.le.le.old J[k] he, h.le.ac⟩, h.row, h.pre, h.bl, h.hB⟩
theorem LeK.new {w2 w3 wm : World} {s2 : Nat} {vst' : Value} (h : LeK m c N mb i BL rs acs vE vA gv J t st lv w1 k k st' F vst wr) (hk : k < J.length) (hgm : wr.grownBy wm (some mb)) (hm1 : MV Tryz.prog 3 mb (st'.length + 1) (updV F (.int .i64 (J[k].to : Int)) (some (.int .i64 (st'.length : Int)))) wm)
    (hb2 : Below wm.heap.size wm w2) (hg3 : w2.grownBy w3 vst.ownBlock) (ho3 : w3.ownsRow w1.heap.size 3 1 vst' (st'.length + 1) (ints st' ++ [.int .i64 (s2 : Int)])) (hf3 : Fresh vst' vst w2.heap.size) (hne : ¬ some J[k].to ∈ st'.map c) (hs : s2 < m.ed.length) (hc : c s2 = some J[k].to) :
    LeK m c N mb i BL rs acs vE vA gv J t st lv w1 (k + 1) k (st' ++ [s2]) (updV F (.int .i64 (J[k].to : Int)) (some (.int .i64 (st'.length : Int)))) vst' w3 ∧ numC c (st' ++ [s2]) J[k].to = st'.length := by
  obtain ⟨q1, q2⟩ := h.le.le.new J[k] s2 hne hs hc
  have hr : w3.ownsRow w1.heap.size 3 1 vst' (st' ++ [s2]).length (ints (st' ++ [s2])) := by rw [ints_app, List.length_append]; exact ho3
  have hrow : wr.ownsRow _ _ _ _ _ _ := h.row
  have hlv : ∀ g, lv.ownBlock = some g → g < wr.heap.size := fun g hg => (World.ownsRow.lt h.row g hg).2
  have z1 := hgm.size
  have z2 := hb2.size
  have z3 := hg3.size
  have zb := h.bl.size
  have hle := h.le.meet hgm (st' := st' ++ [s2]) (by rw [List.length_append]; exact hm1) hb2 hg3 hr hf3 hlv (h.le.say.put hne hc _ rfl) (by rw [← List.take_succ_eq_append_getElem hk] at q1; exact q1) (List.take_append_of_le_length h.le.le.il)
  refine ⟨⟨hle, ?_, ?_, ?_, h.hB⟩, q2⟩
  · rw [ren_grow s2 h.le.le.ptg]
    refine OR.keep h.row fun g hg => (hg3.block g (by have := hlv g hg; omega) fun e => own_apart hrow h.le.own (by decide) g hg e.symm).trans ((hb2.block g (by have := hlv g hg; omega)).trans (hgm.block g (hlv g hg) fun e => mv_ne h.le.mv hrow (by rw [hg, e])))
  · obtain ⟨more, e⟩ := h.pre
    exact ⟨more ++ [s2], by rw [e, List.append_assoc]⟩
  · exact ((h.bl.grown hgm zb (fun q hq => by injection hq with hq; have := h.le.bm; omega)).trans (hb2.mono (by omega))).grown hg3 (by omega) (fun q hq => (h.le.own.lt q hq).1)
theorem LeK.put {gl cc : Nat} (h : LeK m c N mb i BL rs acs vE vA gv J t st (.slice (some ⟨gl, 0, none⟩) J.length cc) w1 (k + 1) k st' F vst wr) (hk : k < J.length) {x : Int} (hx : x = (numC c st' J[k].to : Int)) :
    LeK m c N mb i BL rs acs vE vA gv J t st (.slice (some ⟨gl, 0, none⟩) J.length cc) w1 (k + 1) (k + 1) st' F vst (wr.setCell ⟨gl, k * 3 + 2, none⟩ (.int .i64 x)) := by
  subst hx
  have hrow : wr.ownsRow _ _ _ _ _ _ := h.row
  have hgl := (hrow.lt gl rfl).1
  have hl := ren_len (numC c st') J k (Nat.le_of_lt hk)
  obtain ⟨hk2, hat⟩ := ren_at (numC c st') J k hk
  refine ⟨h.le.rowSet (g := gl) rfl rfl (own_type hrow gl rfl) _ h.le.le, ?_, h.pre, h.bl.setCell (p := ⟨gl, k * 3 + 2, none⟩) (Nat.le_trans h.hB hgl) _, h.hB⟩
  have h1 := h.row
  rw [← ren_set _ _ _ hk]
  have h2 : OR 169 3 edC BL (.slice (some ⟨gl, 0, none⟩) (renE (numC c st') (J.take k) ++ J.drop k).length cc) (renE (numC c st') (J.take k) ++ J.drop k) wr := by rw [hl]; exact h1
  have h3 := h2.setAt edC_E k 2 hk2 (by decide) ⟨J[k].lo, J[k].hi, numC c st' J[k].to⟩ (.int .i64 (numC c st' J[k].to : Int)) (by rw [hat]; rfl)
  rw [hl] at h3
  exact h3
theorem LeK.cells {gl cc : Nat} (h : LeK m c N mb i BL rs acs vE vA gv J t st (.slice (some ⟨gl, 0, none⟩) J.length cc) w1 kp k st' F vst wr) (hk : k < J.length) :
    (wr.cell? ⟨gl, k * 3, none⟩ = some (.int .u8 (J[k].lo : Int)) ∧ wr.cell? ⟨gl, k * 3 + 1, none⟩ = some (.int .u8 (J[k].hi : Int)) ∧ wr.cell? ⟨gl, k * 3 + 2, none⟩ = some (.int .i64 (J[k].to : Int))) ∧ wr.frozen? ⟨gl, k * 3 + 2, none⟩ = false ∧ gl < wr.heap.size := by
  obtain ⟨hk2, hat⟩ := ren_at (numC c st') J k hk
  obtain ⟨A, c', e, -, hor⟩ := h.row.cells edC_E
  obtain ⟨g', hA, -, hg, hcc⟩ := hor.resolve_left (by intro e2; rw [e2] at hk2; cases hk2)
  injection e with e1 _ _
  rw [hA] at e1
  injection e1 with e1
  injection e1 with e1
  subst e1
  have h0 := (hcc k hk2 0 (by decide)).1
  have h1 := (hcc k hk2 1 (by decide)).1
  obtain ⟨h2, f2⟩ := hcc k hk2 2 (by decide)
  rw [hat] at h0 h1 h2
  exact ⟨⟨h0, h1, h2⟩, f2, hg⟩
/-- A row is there: it begins. -/
theorem LeS.begin {lv : Value} {w' : World} {vst : Value} (h : LeS m c w1.heap.size N mb i [] rs acs vE vA gv [] t st F vst wr) (hb : Below wr.heap.size wr w') (hbl : Below w1.heap.size w1 wr) (ho : OR 169 3 edC wr.heap.size lv J w') : LeK m c N mb i wr.heap.size rs acs vE vA gv J t st lv w1 0 0 st F vst w' :=
  ⟨h.rowIn hb lv fun g hg => (World.ownsRow.lt ho g hg).1, by simpa [renE] using ho, ⟨[], by simp⟩, hbl.trans (hb.mono hbl.size), hbl.size⟩
end
end Go.Proofs.YtoaibhacognbjaaGreatDoor
namespace Go.Proofs.YtoaibhacognbjaaGreatDoor
set_option linter.unusedVariables false
set_option linter.unusedSimpArgs false
set_option maxRecDepth 100000
open Go.RowKit
open Go.Maps (Keyed)
theorem nil_cls {cs : List (Option Nat)} {m : Mc} (h : ClsOK m (clF cs)) (h1 : 1 ≤ m.ed.length) (hc : clF cs 0 = none) : ¬ LiveS m 0 := (h.dead 0 (by omega)).1 hc
theorem mcsm_nil : McSm ⟨[[]], [false]⟩ := ⟨fun r hr e he => (by simp at hr; subst hr; cases he), fun r hr => (by simp at hr; subst hr; simp), by simp⟩
theorem info_es : (Tryz.prog.info? 167).map (fun i => (i.zero, i.size, i.bytes)) = some (some (.slice none 0 0), 1, 24) := by kernel_rfl
theorem rowF_bC (o : List Bool) : rowF bC o = o.map Value.bool := by
  unfold rowF
  induction o with
  | nil => rfl
  | cons b r ih => simp only [List.map_cons, List.flatten_cons, ih]; rfl
theorem own_at1 {w : World} {B n c : Nat} {e : TypeId} {xs : List Value} {A : Option Addr} (h : w.ownsRow B e 1 (.slice A n c) n xs) (hn : 0 < n) : ∃ g, A = some ⟨g, 0, none⟩ ∧ B ≤ g ∧ g < w.heap.size ∧ ∀ i, i < n → w.cell? ⟨g, i, none⟩ = xs[i]? := by
  rcases h.2 with ⟨h1, h2⟩ | ⟨g, cap, cur, h1, hB, hg, -⟩
  · exfalso; injection h1 with h1 h1'; omega
  · injection h1 with h1 _ h3
    subst h1
    exact ⟨g, rfl, hB, (Array.getElem?_eq_some_iff.1 hg).1, fun i hi => World.ownsRow.cellAt h i (by omega)⟩
def factL10 (M gs nst cst i s ge fe n ce nrow cr g3 cc : Nat) (Ar : Option Addr) (J : List Ed) (W : World) : Nat → Nat → Value → World → Prop
  | c, 0, x, w => x = .pointer (some ⟨M, 0, none⟩)
  | c, 1, x, w => x = .slice (some ⟨ge, fe, none⟩) n ce
  | c, 2, x, w => x = .slice (some ⟨gs, 0, none⟩) nst cst
  | c, 3, x, w => x = .int .i64 (i : Int)
  | c, 4, x, w => x = .pointer (some ⟨gs, i, none⟩)
  | c, 5, x, w => x = .int .i64 (s : Int)
  | c, 6, x, w => x = .pointer (some ⟨ge, fe + s, none⟩)
  | c, 7, x, w => x = .slice Ar nrow cr
  | c, 8, x, w => x = .slice (some ⟨g3, 0, none⟩) n cc
  | c, 9, x, w => 1 ≤ c → ∃ A c', x = .slice A J.length c' ∧ OR 169 3 edC W.heap.size x J w
  | _, _, _, _ => True
def factL21 (N M gs nst cst i s ga fa n ca nj cj cE cA B0 : Nat) (AE AV Aj : Option Addr) (gv av : List Value) (a : Bool) (W : World) : Nat → Nat → Value → World → Prop
  | c, 0, x, w => x = .pointer (some ⟨N, 0, none⟩)
  | c, 1, x, w => x = .slice AE i cE
  | c, 2, x, w => x = .slice Aj nj cj
  | c, 3, x, w => ∃ g, x = .slice (some ⟨g, 0, none⟩) 1 1 ∧ W.heap.size ≤ g ∧ g < w.heap.size ∧ w.cell? ⟨g, 0, none⟩ = some (.slice Aj nj cj)
  | c, 4, x, w => 1 ≤ c → ∃ A c', x = .slice A (i + 1) c' ∧ w.ownsRow B0 167 1 x (i + 1) (gv ++ [.slice Aj nj cj]) ∧ Fresh x (.slice AE i cE) W.heap.size
  | c, 5, x, w => x = .pointer (some ⟨N, 1, none⟩)
  | c, 6, x, w => x = .slice AV i cA
  | c, 7, x, w => x = .pointer (some ⟨M, 1, none⟩)
  | c, 8, x, w => x = .slice (some ⟨ga, fa, none⟩) n ca
  | c, 9, x, w => x = .slice (some ⟨gs, 0, none⟩) nst cst
  | c, 10, x, w => x = .int .i64 (i : Int)
  | c, 11, x, w => x = .pointer (some ⟨gs, i, none⟩)
  | c, 12, x, w => x = .int .i64 (s : Int)
  | c, 13, x, w => x = .pointer (some ⟨ga, fa + s, none⟩)
  | c, 14, x, w => x = .bool a
  | c, 15, x, w => ∃ g, x = .slice (some ⟨g, 0, none⟩) 1 1 ∧ W.heap.size ≤ g ∧ g < w.heap.size ∧ w.cell? ⟨g, 0, none⟩ = some (.bool a)
  | c, 16, x, w => 2 ≤ c → ∃ A c', x = .slice A (i + 1) c' ∧ w.ownsRow B0 4 1 x (i + 1) (av ++ [.bool a]) ∧ Fresh x (.slice AV i cA) W.heap.size
  | c, 17, x, w => x = .pointer (some ⟨N, 0, none⟩)
  | c, 18, x, w => 3 ≤ c → ∃ A c', w.ownsRow B0 167 1 (.slice A (i + 1) c') (i + 1) (gv ++ [.slice Aj nj cj]) ∧ Fresh (.slice A (i + 1) c') (.slice AE i cE) W.heap.size ∧ w.heap[N]? = some (.cells #[.slice A (i + 1) c', .slice AV i cA] 76 (0, 0))
  | c, 19, x, w => x = .pointer (some ⟨N, 1, none⟩)
  | _, _, _, _ => True
section
variable {N M gs nst cst i s ga fa n ca nj cj cE cA B0 : Nat} {AE AV Aj : Option Addr} {gv av : List Value} {a : Bool} {W u u' : World}
theorem factL21_bl (hb : Below u.heap.size u u') {c j : Nat} {x : Value} (h : factL21 N M gs nst cst i s ga fa n ca nj cj cE cA B0 AE AV Aj gv av a W c j x u) : factL21 N M gs nst cst i s ga fa n ca nj cj cE cA B0 AE AV Aj gv av a W c j x u' := by
  match j with
  | 0 | 1 | 2 | 5 | 6 | 7 | 8 | 9 | 10 | 11 | 12 | 13 | 14 | 17 | 19 => exact h
  | 3 | 15 =>
    obtain ⟨g, e, h1, hg, h0⟩ := h
    exact ⟨g, e, h1, Nat.lt_of_lt_of_le hg hb.size, (hb.cell (p := ⟨g, 0, none⟩) hg).trans h0⟩
  | 4 | 16 =>
    intro hc
    obtain ⟨A, c', e, ho, hf⟩ := h hc
    exact ⟨A, c', e, own_later ho hb, hf⟩
  | 18 =>
    intro hc
    obtain ⟨A, c', ho, hf, hr⟩ := h hc
    exact ⟨A, c', own_later ho hb, hf, (hb.block _ (Array.getElem?_eq_some_iff.1 hr).1).trans hr⟩
  | _ + 20 => exact trivial
theorem factL21_01 (hg : u.grownBy u' (Value.slice AE i cE).ownBlock) (hv : ∀ g, (Value.slice AE i cE).ownBlock = some g → g < W.heap.size) (j : Nat) (x : Value) (hj : j ≠ 4) (h : factL21 N M gs nst cst i s ga fa n ca nj cj cE cA B0 AE AV Aj gv av a W 0 j x u) : factL21 N M gs nst cst i s ga fa n ca nj cj cE cA B0 AE AV Aj gv av a W 1 j x u' := by
  match j with
  | 0 | 1 | 2 | 5 | 6 | 7 | 8 | 9 | 10 | 11 | 12 | 13 | 14 | 17 | 19 => exact h
  | 3 | 15 => exact f814 hg hv h
  | 4 => exact absurd rfl hj
  | 16 | 18 => exact fun hc => by omega
  | _ + 20 => exact trivial
theorem factL21_12 (hg : u.grownBy u' (Value.slice AV i cA).ownBlock) (hv : ∀ g, (Value.slice AV i cA).ownBlock = some g → g < W.heap.size) (hd : ∀ g, (Value.slice AV i cA).ownBlock = some g → (Value.slice AE i cE).ownBlock ≠ some g) (j : Nat) (x : Value) (hj : j ≠ 16) (h : factL21 N M gs nst cst i s ga fa n ca nj cj cE cA B0 AE AV Aj gv av a W 1 j x u) : factL21 N M gs nst cst i s ga fa n ca nj cj cE cA B0 AE AV Aj gv av a W 2 j x u' := by
  match j with
  | 0 | 1 | 2 | 5 | 6 | 7 | 8 | 9 | 10 | 11 | 12 | 13 | 14 | 17 | 19 => exact h
  | 3 | 15 => exact f814 hg hv h
  | 4 =>
    intro _
    obtain ⟨A, c', e, ho, hf⟩ := h (by decide)
    refine ⟨A, c', e, own_same ho fun g hgx => hg.block g (ho.lt g hgx).2 (fun e2 => ?_), hf⟩
    rcases hf with hf | ⟨g', hf, h2⟩
    · rw [hf] at hgx; exact hd g e2.symm hgx
    · rw [hf] at hgx; injection hgx with hgx; have := hv g e2.symm; omega
  | 16 => exact absurd rfl hj
  | 18 => exact fun hc => by omega
  | _ + 20 => exact trivial
theorem factL21_23 (hs : N < W.heap.size) (hsS : (Value.slice AE i cE).ownBlock ≠ some N) (hsF : (Value.slice AV i cA).ownBlock ≠ some N) (v : Value) (j : Nat) (x : Value) (hj : j ≠ 18) (h : factL21 N M gs nst cst i s ga fa n ca nj cj cE cA B0 AE AV Aj gv av a W 2 j x u) : factL21 N M gs nst cst i s ga fa n ca nj cj cE cA B0 AE AV Aj gv av a W 3 j x (u.setCell ⟨N, 0, none⟩ v) := by
  have hset : ∀ k, k ≠ N → (u.setCell ⟨N, 0, none⟩ v).heap[k]? = u.heap[k]? := fun k hk => Below.heap_setCell _ _ _ _ hk
  match j with
  | 0 | 1 | 2 | 5 | 6 | 7 | 8 | 9 | 10 | 11 | 12 | 13 | 14 | 17 | 19 => exact h
  | 3 | 15 =>
    obtain ⟨g, e, h1, h2, h3⟩ := h
    exact ⟨g, e, h1, by simpa [World.setCell] using h2, (World.cell?_of_block (a := ⟨g, 0, none⟩) (hset g (by omega))).trans h3⟩
  | 4 =>
    intro _
    obtain ⟨A, c', e, ho, hf⟩ := h (by decide)
    refine ⟨A, c', e, own_same ho fun g hgx => hset g (fun e2 => ?_), hf⟩
    subst e2
    rcases hf with hf | ⟨g', hf, h2⟩
    · rw [hf] at hgx; exact hsS hgx
    · rw [hf] at hgx; injection hgx with hgx; omega
  | 16 =>
    intro _
    obtain ⟨A, c', e, ho, hf⟩ := h (by decide)
    refine ⟨A, c', e, own_same ho fun g hgx => hset g (fun e2 => ?_), hf⟩
    subst e2
    rcases hf with hf | ⟨g', hf, h2⟩
    · rw [hf] at hgx; exact hsF hgx
    · rw [hf] at hgx; injection hgx with hgx; omega
  | 18 => exact absurd rfl hj
  | _ + 20 => exact trivial
end
set_option maxHeartbeats 16000000 in
theorem least_of (v : Value) (m : Mc) (w : World) (hm : McIn w v m) (hv : Vld m) (hsm : McSm m) (h1 : 1 ≤ m.ed.length)
    (hal : ∀ W, Below w.heap.size w W → Calls Tryz.prog 178 #[v] W (ClPost m m.ed.length W)) : Calls Tryz.prog 139 #[v] w (LePost m w) := by
  obtain ⟨ve, va, rfl, he, ha⟩ := hm
  obtain ⟨Ae, ce, rfl, hce1, hce2⟩ := he.form
  obtain ⟨Aa, ca, rfl, hca1, hca2⟩ := ha.form
  obtain ⟨n, hn⟩ : ∃ n, m.ed.length = n := ⟨_, rfl⟩
  have hac : m.ac.length = n := by rw [hv.len, hn]
  have hnn := hsm.n
  rw [hac] at ha hca1
  rw [hn] at he hce1 h1 hnn
  rw [hn, hac] at hal
  have HAL := Lib.hid hal
  have HE := Lib.hid he
  have HA := Lib.hid ha
  have HV := Lib.hid hv
  have HSM := Lib.hid hsm
  have HN := Lib.hid (And.intro hn hac)
  have HN1 := Lib.hid h1
  have K : Keyed Tryz.prog 3 := Maps.int_keyed Tryz.underlying3
  have hz : ∀ w, (zeroValue 3).run Tryz.prog w = .ok (.int .i64 0) w := fun _ => by kernel_rfl
  have hmm := @run_makeMap Tryz.prog
  obtain ⟨ie, hie, he0, he1, he2⟩ := info_parts info_es
  obtain ⟨ib, hib, hb0, hb1, hb2⟩ := info_parts info_bool
  obtain ⟨ii, hii, hj0, hj1, hj2⟩ := info_parts info_int
  rw [hac, hn]
  clear hal he ha hv hsm hn hac
  go_enter Tryz.func139, Tryz.ntmps139
  go_wp2_with fail
  refine (HAL.out _ ?hb0).mono ?_
  case hb0 => exact ((Below.refl w.heap.size w).alloc (Nat.le_refl _) _).alloc (by simp) _
  rintro e w1 ⟨rv, cs, rfl, hown1, hb1, hl1, hok1, hlt1⟩
  have hsz0 : ((w.alloc (.cells #[.slice Ae n ce, .slice Aa n ca] 76)).alloc (.cells #[.slice none 0 0, .slice none 0 0] 76)).heap.size = w.heap.size + 2 := by simp
  rw [hsz0] at hown1 hb1
  have hbx0 : w1.heap[w.heap.size]? = some (.cells #[.slice Ae n ce, .slice Aa n ca] 76 (0, 0)) := (hb1.block _ (by omega)).trans ((old_alloc _ _ _ (by simp)).trans (heap_alloc_new w _))
  have hbx1 : w1.heap[w.heap.size + 1]? = some (.cells #[.slice none 0 0, .slice none 0 0] 76 (0, 0)) := (hb1.block _ (by omega)).trans (by simpa using heap_alloc_new (w.alloc (.cells #[.slice Ae n ce, .slice Aa n ca] 76)) (.cells #[.slice none 0 0, .slice none 0 0] 76))
  have hz1 := hb1.size
  rw [hsz0] at hz1
  have hbw1 : Below w.heap.size w w1 := (((Below.refl w.heap.size w).alloc (Nat.le_refl _) _).alloc (by simp) _).trans (hb1.mono (by omega))
  obtain ⟨Ac, cc, rfl, hcc, -⟩ : ∃ A c, rv = .slice A n c ∧ n ≤ c ∧ True := by
    obtain ⟨A, c, e, h, -⟩ := hown1.cells clC_E
    exact ⟨A, c, by rw [e, hl1], by omega, trivial⟩
  obtain ⟨g3, rfl⟩ : ∃ g, Ac = some ⟨g, 0, none⟩ := by
    obtain ⟨A, c, e, -, hor⟩ := hown1.cells clC_E
    obtain ⟨g, hA, -⟩ := hor.resolve_left (by rintro rfl; simp at hl1; omega)
    injection e with e1 _ _
    exact ⟨g, by rw [e1, hA]⟩
  obtain ⟨cc0, -⟩ := hown1.cellC 0 (by omega)
  have hg3 := hown1.lt1
  have hd0 : decide (0 < n) = true := decide_eq_true (by omega)
  have HC := Lib.hid hown1
  have HB1 := Lib.hid hbw1
  have HX0 := Lib.hid hbx0
  have HX1 := Lib.hid hbx1
  have HCL := Lib.hid (And.intro hl1 (And.intro hok1 hlt1))
  have lx1 : w.heap.size + 1 < w1.heap.size := by omega
  have lx2 : w.heap.size + 1 < w1.heap.size + 1 := by omega
  obtain ⟨r0, r1⟩ : w1.cell? ⟨w.heap.size + 1, 0, none⟩ = some (.slice none 0 0) ∧ w1.cell? ⟨w.heap.size + 1, 1, none⟩ = some (.slice none 0 0) := by constructor <;> (rw [cell_of_row _ _ _ _ _ _ hbx1]; rfl)
  have fr0 : w1.frozen? ⟨w.heap.size + 1, 0, none⟩ = false := by simp [World.frozen?, hbx1]
  have fr1 : w1.frozen? ⟨w.heap.size + 1, 1, none⟩ = false := by simp [World.frozen?, hbx1]
  clear hown1 hb1 hsz0 hbx0 hbx1 hbw1 hl1 hok1 hlt1
  cases hc0 : clF cs 0 with
  | none =>
    rw [hc0] at cc0
    have cc1 : w1.cell? ⟨g3, 0, none⟩ = some (.int .i64 (-1)) := cc0
    have HC0 := Lib.hid hc0
    clear cc0 hc0
    go_wp2_with fail
    refine post_named fun Wf hWf => ?_
    refine bodyPost_ret (v := .agg #[.slice (some ⟨w1.heap.size, 0, none⟩) 1 1, .slice (some ⟨w1.heap.size + 1, 0, none⟩) 1 1]) (by rw [hWf]; simp [results, Tryz.results139, go_sem, r0, r1, lx1, lx2]; try rfl) rfl ?_
    have hg0 : Wf.heap[w1.heap.size]? = some (.cells #[.slice none 0 0] 167 (0, 0)) := by
      rw [hWf, old_alloc _ _ _ (by simp [World.setCell])]
      have h1 := heap_alloc_new ((w1.setCell ⟨w.heap.size + 1, 0, none⟩ (.slice (some ⟨w1.heap.size, 0, none⟩) 1 1)).setCell ⟨w.heap.size + 1, 1, none⟩ (.slice (some ⟨w1.heap.size + 1, 0, none⟩) 1 1)) (.cells #[.slice none 0 0] 167)
      simpa [World.setCell] using h1
    have hg1 : Wf.heap[w1.heap.size + 1]? = some (.cells #[.bool false] 4 (0, 0)) := by
      rw [hWf]
      have h1 := heap_alloc_new (((w1.setCell ⟨w.heap.size + 1, 0, none⟩ (.slice (some ⟨w1.heap.size, 0, none⟩) 1 1)).setCell ⟨w.heap.size + 1, 1, none⟩ (.slice (some ⟨w1.heap.size + 1, 0, none⟩) 1 1)).alloc (.cells #[.slice none 0 0] 167)) (.cells #[.bool false] 4)
      simpa [World.setCell] using h1
    have hbf : Below w.heap.size w Wf := by
      rw [hWf]
      exact (((HB1.out.setCell (p := ⟨w.heap.size + 1, 0, none⟩) (by show w.heap.size ≤ w.heap.size + 1; omega) _).setCell (p := ⟨w.heap.size + 1, 1, none⟩) (by show w.heap.size ≤ w.heap.size + 1; omega) _).alloc (by simp [World.setCell]; omega) _).alloc (by simp [World.setCell]; omega) _
    have hww1 := HB1.out.size
    have hup : McUp w.heap.size Wf (.agg #[.slice (some ⟨w1.heap.size, 0, none⟩) 1 1, .slice (some ⟨w1.heap.size + 1, 0, none⟩) 1 1]) ⟨[[]], [false]⟩ := fun W' hk => by
      have hg0' := (hk.blk w1.heap.size (Array.getElem?_eq_some_iff.1 hg0).1 (fun h => by have := List.mem_range.1 h; omega)).trans hg0
      have hg1' := (hk.blk (w1.heap.size + 1) (Array.getElem?_eq_some_iff.1 hg1).1 (fun h => by have := List.mem_range.1 h; omega)).trans hg1
      refine ⟨_, _, rfl, ⟨_, _, rfl, ⟨by simp, by simp⟩, .inr ⟨w1.heap.size, 0, rfl, (Array.getElem?_eq_some_iff.1 hg0').1, fun i hi => ?_⟩⟩, ⟨_, _, rfl, ⟨by simp, by simp⟩, .inr ⟨w1.heap.size + 1, 0, rfl, (Array.getElem?_eq_some_iff.1 hg1').1, fun i hi => ?_⟩⟩⟩
      · simp at hi; subst hi
        exact ⟨_, by rw [cell_of_row _ _ _ _ _ _ hg0']; rfl, ⟨none, 0, rfl, ⟨by simp, by simp⟩, .inl rfl⟩⟩
      · simp at hi; subst hi
        rw [cell_of_row _ _ _ _ _ _ hg1']; rfl
    refine ⟨_, ⟨[[]], [false]⟩, rfl, hup, hbf, .inr ⟨nil_cls HCL.out.2.1 (by rw [HN.out.1]; exact HN1.out) HC0.out, rfl⟩, by simp; have := HN1.out; have := HN.out.1; omega, mcsm_nil⟩
  | some c0 =>
    rw [hc0] at cc0
    have cc1 : w1.cell? ⟨g3, 0, none⟩ = some (.int .i64 (c0 : Int)) := cc0
    have hdc : decide ((c0 : Int) < 0) = false := decide_eq_false (by omega)
    have HC0 := Lib.hid hc0
    have hc0n : c0 < n := HCL.out.2.2 0 c0 hc0
    have hkey0 : keyOf Tryz.prog 3 (.int .i64 (c0 : Int)) = some (.int .i64 (c0 : Int)) := Maps.keyOf_int_mk Tryz.underlying3 (WalkArith.wf_i64 (by omega))
    have hmv0 := MV.made Tryz.prog 3
    clear cc0 hc0
    go_wp2_with (refine wpList_ins_MV _ rfl _ _ _ 222 rfl 3 3 K Tryz.underlying222 w1.heap.size 0 (fun _ => none) rfl (hmv0 _) (by decide) _ _ (.int .i64 (c0 : Int)) rfl rfl hkey0 trivial ?_)
    intro w2 hmv2 hg2
    have hsz2 : (w1.alloc (.map #[] 0)).heap.size = w1.heap.size + 1 := by simp
    have hz2 := hg2.size
    rw [hsz2] at hz2
    have hb2 : Below w1.heap.size w1 w2 := ((Below.refl _ w1).alloc (Nat.le_refl _) (.map #[] 0)).grown hg2 (by omega) (fun q hq => by injection hq with hq; omega)
    have HMV2 := Lib.hid hmv2
    have HB2 := Lib.hid hb2
    clear hmv2 hg2 hb2 hsz2 hmv0
    go_wp2_with fail
    refine wp_named fun W hW => ?_
    have hbW : Below w2.heap.size w2 W := by rw [hW]; exact ((Below.refl _ _).alloc (Nat.le_refl _) _).alloc (by simp) _
    have hzW : W.heap.size = w2.heap.size + 2 := by rw [hW]; simp
    have hst0 : OR 3 1 clC w2.heap.size (.slice (some ⟨w2.heap.size, 0, none⟩) 1 1) [some 0] W := by rw [hW]; exact OR.later (zeros_new w2 1 (by omega)) ((Below.refl _ _).alloc (by simp) _)
    have hNW : W.heap[w2.heap.size + 1]? = some (.cells #[.slice none 0 0, .slice none 0 0] 76 (0, 0)) := by rw [hW]; simpa using heap_alloc_new (w2.alloc _) (.cells #[.slice none 0 0, .slice none 0 0] 76)
    have hmb := HMV2.out.lt
    have hL0 : LeS m (clF cs) w1.heap.size (w2.heap.size + 1) w1.heap.size 0 [] [] [] (.slice none 0 0) (.slice none 0 0) [] [] 0 [0] (updV (fun _ => none) (.int .i64 (c0 : Int)) (some (.int .i64 0))) (.slice (some ⟨w2.heap.size, 0, none⟩) 1 1) W := by
      refine ⟨⟨hNW, by omega, World.ownsRow_nil _ _ _ _, fun i hi => (by cases hi), OR.nil_ _ _ _, fun k hk hx => ?_⟩, HMV2.out.kept (hbW.block _ hmb), Nat.le_refl _, SaysC.first HC0.out, ?_, LeI.start (by rw [HC0.out]; simp) (by rw [HN.out.1]; exact HN1.out), rfl⟩
      · have h1 : k = w2.heap.size + 1 := by rcases mem_fpM.1 hk with h | h | h; exact h; cases h; cases h
        rcases List.mem_cons.1 hx with h | h
        · omega
        · simp [blk, Value.ownBlock] at h; omega
      · have := (OR.mono hst0 (show w1.heap.size ≤ w2.heap.size by omega))
        exact this
    have HL0 := Lib.hid hL0
    have HBW := Lib.hid (HB2.out.trans (hbW.mono (by omega)))
    clear hW hbW hst0 hNW hL0 cc1 HC0 hdc hkey0 hd0
    go_wp2_with fail
    go_loopw [7, 5] (fun iv vst wr => ∃ (i : Nat) (st : List Nat) (rs : List (List Ed)) (acs : List Bool) (vE vA : Value) (gv : List Value) (t : Nat) (F : Lit → Option Value), iv = .int .i64 (i : Int) ∧ i ≤ n ∧ Hid (LeS m (clF cs) w1.heap.size (w2.heap.size + 1) w1.heap.size i [] rs acs vE vA gv [] t st F vst wr) ∧ Hid (Below w1.heap.size w1 wr)) (fun iv _ _ => n - (intOf iv).toNat)
    case atStart => exact ⟨0, [0], [], [], _, _, [], 0, _, rfl, Nat.zero_le _, HL0, HBW⟩
    case round =>
      obtain ⟨i, st, rs, acs, vE, vA, gv, t, F, rfl, hin, HL, HB⟩ := hrel
      have hil := HL.out.le.il
      have hstn := HL.out.le.nodup
      rw [HN.out.1] at hstn
      obtain ⟨As, cst, rfl, hcst, -⟩ := own_form HL.out.own
      obtain ⟨nst, hnst⟩ : ∃ x, st.length = x := ⟨_, rfl⟩
      rw [hnst] at hil hstn hcst
      have HNST := Lib.hid hnst
      rw [hnst] at HL ⊢
      clear hnst
      have hwr := HB.out.size
      by_cases hlt : i < nst
      · have hd : decide ((i : Int) < (nst : Int)) = true := decide_eq_true (by omega)
        have hdi : decide (i < nst) = true := decide_eq_true hlt
        obtain ⟨s, hs⟩ : ∃ s, st[i]? = some s := ⟨_, List.getElem?_eq_getElem (show i < st.length by rw [HNST.out]; exact hlt)⟩
        obtain ⟨hsn', -⟩ := HL.out.le.lv s (List.mem_of_getElem? hs)
        have hsn : s < n := by rw [HN.out.1] at hsn'; exact hsn'
        have hown := HL.out.own
        rw [HNST.out] at hown
        obtain ⟨gs, rfl, hgsB, lgs, hgc⟩ := own_at1 hown (by omega)
        have xst : wr.cell? ⟨gs, i, none⟩ = some (.int .i64 (s : Int)) := by rw [hgc i hlt]; unfold ints; rw [List.getElem?_map, hs]; rfl
        have hbw : Below w.heap.size w wr := HB1.out.trans (HB.out.mono HB1.out.size)
        obtain ⟨ge, fe, rv0, rfl, -, hge, hce0, hed0⟩ := HE.out.at_ hsn'
        obtain ⟨ga, fa, rfl, -, hga, hca0⟩ := HA.out.at_ (show s < m.ac.length by rw [HN.out.2]; exact hsn)
        have xrow := (World.cell?_of_block (a := ⟨ge, fe + s, none⟩) (hbw.block ge hge)).trans hce0
        have xac0 := (World.cell?_of_block (a := ⟨ga, fa + s, none⟩) (hbw.block ga hga)).trans hca0
        have hed := hed0.later hbw
        obtain ⟨row, hrow⟩ : ∃ r, m.ed[s] = r := ⟨_, rfl⟩
        obtain ⟨a, haa⟩ : ∃ b, m.ac[s]'(by rw [HN.out.2]; exact hsn) = b := ⟨_, rfl⟩
        rw [hrow] at hed
        rw [haa] at xac0
        have hrm : row ∈ m.ed := by rw [← hrow]; exact List.getElem_mem hsn'
        have hrM : rowM m s = row := by unfold rowM; rw [List.getElem?_eq_getElem hsn', hrow]; rfl
        have haM : (m.ac[s]?).getD false = a := by rw [List.getElem?_eq_getElem (by rw [HN.out.2]; exact hsn), haa]; rfl
        have hjb := joinF_by (cls := clF cs) (HV.out.srt row hrm) (HSM.out.by_ row hrm)
        have HTO := Lib.hid (show ∀ e ∈ row, e.to < cs.length from fun e he => by rw [HCL.out.1, ← HN.out.1]; exact HV.out.to row hrm e he)
        have HBY := Lib.hid (HSM.out.by_ row hrm)
        obtain ⟨J, hJ⟩ : ∃ J, joinF (clF cs) row = J := ⟨_, rfl⟩
        have hJl := Nat.le_trans (joinF_len (clF cs) row) (HSM.out.rl row hrm)
        rw [hJ] at hjb hJl
        have HJB := Lib.hid (show ∀ e ∈ J, ∃ f, f < n ∧ clF cs f = some e.to from fun e he => by
          obtain ⟨-, -, f, hf, h3⟩ := hjb e he
          exact ⟨f.to, by rw [← HN.out.1]; exact HV.out.to row hrm f hf, h3⟩)
        have HJE := Lib.hid hJ
        have hrl := HSM.out.rl row hrm
        obtain ⟨Ar, cr, hrf, -⟩ := hed.form
        obtain ⟨nrow, hnrow⟩ : ∃ n, row.length = n := ⟨_, rfl⟩
        rw [hnrow] at hrf hrl
        have HNR := Lib.hid hnrow
        subst hrf
        have hed' : EdIn wr (.slice Ar nrow cr) row := hed
        have hM := (HB.out.block w.heap.size (by omega)).trans HX0.out
        obtain ⟨xm0, xm1⟩ : wr.cell? ⟨w.heap.size, 0, none⟩ = some (.slice (some ⟨ge, fe, none⟩) n ce) ∧ wr.cell? ⟨w.heap.size, 1, none⟩ = some (.slice (some ⟨ga, fa, none⟩) n ca) := by constructor <;> (rw [cell_of_row _ _ _ _ _ _ hM]; rfl)
        have hwz := hbw.size
        have lM : w.heap.size < wr.heap.size := (Array.getElem?_eq_some_iff.1 hM).1
        have lge : ge < wr.heap.size := by omega
        have lga : ga < wr.heap.size := by omega
        have HED := Lib.hid hed'
        have HCI := Lib.hid ((ClIn.of_OR HC.out).later (HB.out.mono (Nat.le_refl _)))
        have hit : i ≤ t := by have := HL.out.le.top; have h9 : t + 1 = st.length := this; have := HNST.out; omega
        have HS := Lib.hid (And.intro hs (And.intro hrM (And.intro haM hit)))
        have HXA := Lib.hid (And.intro xm1 xac0)
        have HGA := Lib.hid (And.intro hga hgsB)
        obtain ⟨W, hWeq⟩ : ∃ W : World, W = wr := ⟨_, rfl⟩
        subst hWeq
        have hS0 : Below W.heap.size W W.drew := (Below.refl _ _).drew
        clear hsn' hown hgc hbw hge hga hce0 hca0 hed hed0 hed' hrow haa hrm hrM haM hjb hJ hnrow hM hs hgsB hit xm1 xac0
        go_wp2_with fail
        refine wp_region_chain 10 [9] (factL10 w.heap.size gs nst cst i s ge fe n ce nrow cr g3 cc Ar J W) (fun _ w' => Below W.heap.size W w') (by kernel_rfl) (by kernel_rfl) (by kernel_rfl) (by kernel_rfl) (by kernel_rfl) (by kernel_rfl) (by decide) hS0 ?_ ?_
        · simp only [List.take_succ_cons, List.take_zero]
          refine HSteps.pure (by decide) ?_ (HSteps.pure (by decide) ?_ (HSteps.pure (by decide) ?_ (HSteps.pure (by decide) ?_ (HSteps.pure (by decide) ?_ (HSteps.pure (by decide) ?_ (HSteps.pure (by decide) ?_ (HSteps.pure (by decide) ?_ (HSteps.pure (by decide) ?_ (HSteps.eff 0 rfl ?_ (HSteps.nil))))))))))
          · intro v wz c hlo hS hE K hK
            simp only [putAll, Act.put, List.setIfInBounds_toArray, List.set_cons_zero, List.set_cons_succ, Nat.zero_add, Nat.reduceAdd, List.take_succ_cons, List.take_zero] at hK ⊢
            have HX := Lib.hid hS
            clear hS hE hlo
            go_wp2_with fail
            exact hK.out _ rfl
          · intro v wz c hlo hS hE K hK
            simp only [putAll, Act.put, List.setIfInBounds_toArray, List.set_cons_zero, List.set_cons_succ, Nat.zero_add, Nat.reduceAdd, List.take_succ_cons, List.take_zero] at hK ⊢
            have e0 : v 0 = _ := hE.1 rfl
            rw [e0] at hK ⊢
            have c1 := (hS.cell (p := ⟨w.heap.size, 0, none⟩) lM).trans xm0
            have l1 : w.heap.size < wz.heap.size := by have := hS.size; omega
            have HX := Lib.hid hS
            clear hS hE hlo
            go_wp2_with fail
            exact hK.out _ rfl
          · intro v wz c hlo hS hE K hK
            simp only [putAll, Act.put, List.setIfInBounds_toArray, List.set_cons_zero, List.set_cons_succ, Nat.zero_add, Nat.reduceAdd, List.take_succ_cons, List.take_zero] at hK ⊢
            have HX := Lib.hid hS
            clear hS hE hlo
            go_wp2_with fail
            exact hK.out _ rfl
          · intro v wz c hlo hS hE K hK
            simp only [putAll, Act.put, List.setIfInBounds_toArray, List.set_cons_zero, List.set_cons_succ, Nat.zero_add, Nat.reduceAdd, List.take_succ_cons, List.take_zero] at hK ⊢
            have HX := Lib.hid hS
            clear hS hE hlo
            go_wp2_with fail
            exact hK.out _ rfl
          · intro v wz c hlo hS hE K hK
            simp only [putAll, Act.put, List.setIfInBounds_toArray, List.set_cons_zero, List.set_cons_succ, Nat.zero_add, Nat.reduceAdd, List.take_succ_cons, List.take_zero] at hK ⊢
            have e2 : v 2 = _ := hE.1 rfl
            have e3 : v 3 = _ := hE.2.1 rfl
            rw [e2, e3] at hK ⊢
            have HX := Lib.hid hS
            clear hS hE hlo
            go_wp2_with fail
            exact hK.out _ rfl
          · intro v wz c hlo hS hE K hK
            simp only [putAll, Act.put, List.setIfInBounds_toArray, List.set_cons_zero, List.set_cons_succ, Nat.zero_add, Nat.reduceAdd, List.take_succ_cons, List.take_zero] at hK ⊢
            have e4 : v 4 = _ := hE.1 rfl
            rw [e4] at hK ⊢
            have c1 := (hS.cell (p := ⟨gs, i, none⟩) lgs).trans xst
            have l1 : gs < wz.heap.size := by have := hS.size; omega
            have HX := Lib.hid hS
            clear hS hE hlo
            go_wp2_with fail
            exact hK.out _ rfl
          · intro v wz c hlo hS hE K hK
            simp only [putAll, Act.put, List.setIfInBounds_toArray, List.set_cons_zero, List.set_cons_succ, Nat.zero_add, Nat.reduceAdd, List.take_succ_cons, List.take_zero] at hK ⊢
            have e1 : v 1 = _ := hE.1 rfl
            have e5 : v 5 = _ := hE.2.1 rfl
            rw [e1, e5] at hK ⊢
            have HX := Lib.hid hS
            clear hS hE hlo
            go_wp2_with fail
            exact hK.out _ rfl
          · intro v wz c hlo hS hE K hK
            simp only [putAll, Act.put, List.setIfInBounds_toArray, List.set_cons_zero, List.set_cons_succ, Nat.zero_add, Nat.reduceAdd, List.take_succ_cons, List.take_zero] at hK ⊢
            have e6 : v 6 = _ := hE.1 rfl
            rw [e6] at hK ⊢
            have c1 := (hS.cell (p := ⟨ge, fe + s, none⟩) lge).trans xrow
            have l1 : ge < wz.heap.size := by have := hS.size; omega
            have HX := Lib.hid hS
            clear hS hE hlo
            go_wp2_with fail
            exact hK.out _ rfl
          · intro v wz c hlo hS hE K hK
            simp only [putAll, Act.put, List.setIfInBounds_toArray, List.set_cons_zero, List.set_cons_succ, Nat.zero_add, Nat.reduceAdd, List.take_succ_cons, List.take_zero] at hK ⊢
            have HX := Lib.hid hS
            clear hS hE hlo
            go_wp2_with fail
            exact hK.out _ rfl
          · intro v wz hS hE K hK
            simp only [putAll, Act.put, List.setIfInBounds_toArray, List.set_cons_zero, List.set_cons_succ, Nat.zero_add, Nat.reduceAdd, List.take_succ_cons, List.take_zero] at hK ⊢
            have e7 : v 7 = _ := hE.1 rfl
            have e8 : v 8 = _ := hE.2.1 rfl
            rw [e7, e8] at hK ⊢
            have hcall := joined_any (.slice Ar nrow cr) (.slice (some ⟨g3, 0, none⟩) n cc) row cs wz (HED.out.later hS) (HCI.out.later hS) HTO.out HBY.out (by rw [HNR.out]; omega)
            have HC := Lib.hid hcall
            have HX := Lib.hid hS
            clear hS hE hcall
            go_wp2_with fail
            refine HC.out.mono ?_
            rintro e wy ⟨jv, rfl, ho, hb⟩
            obtain ⟨Aj, cj, rfl, -⟩ := (EdIn.of_OR ho).form
            have HBY2 := Lib.hid (HX.out.trans (hb.mono HX.out.size))
            have HJ := Lib.hid (ho.mono HX.out.size)
            rw [HJE.out] at HJ ⊢
            clear ho hb
            go_wp2_with fail
            refine hK.out _ _ (fun j z hj h => ?_) HBY2.out (fun _ => ⟨Aj, cj, rfl, HJ.out⟩)
            match j with
            | 0 | 1 | 2 | 3 | 4 | 5 | 6 | 7 | 8 => exact h
            | 9 => exact absurd rfl hj
            | _ + 10 => exact trivial
        · intro v wz hS hF
          have e0 : v 0 = _ := hF 0 (by decide)
          have e1 : v 1 = _ := hF 1 (by decide)
          have e2 : v 2 = _ := hF 2 (by decide)
          have e3 : v 3 = _ := hF 3 (by decide)
          have e4 : v 4 = _ := hF 4 (by decide)
          have e5 : v 5 = _ := hF 5 (by decide)
          have e6 : v 6 = _ := hF 6 (by decide)
          have e7 : v 7 = _ := hF 7 (by decide)
          have e8 : v 8 = _ := hF 8 (by decide)
          have E9 := hF 9 (by decide)
          simp only [putAll, Act.put, List.setIfInBounds_toArray, List.set_cons_zero, List.set_cons_succ, Nat.zero_add, Nat.reduceAdd, List.take_succ_cons, List.take_zero, List.drop_succ_cons, List.drop_zero, e0, e1, e2, e3, e4, e5, e6, e7, e8]
          clear hF e0 e1 e2 e3 e4 e5 e6 e7 e8
          obtain ⟨Aj, cj, e9, hoj⟩ := E9 (Nat.le_refl _)
          rw [e9] at hoj ⊢
          have hK0 := HL.out.begin hS HB.out hoj
          obtain ⟨nj, hnj⟩ : ∃ n, J.length = n := ⟨_, rfl⟩
          rw [hnj] at hK0 hJl ⊢
          have HK0 := Lib.hid hK0
          have HNJ := Lib.hid hnj
          obtain ⟨BL, hBL⟩ : ∃ B, W.heap.size = B := ⟨_, rfl⟩
          rw [hBL] at HK0
          clear hS hoj hK0 hnj e9 E9 xrow xst xm0 HL HB hS0 HED HCI HTO HBY
          go_wp2_with fail
          go_loopw [46, 5] (fun kv vst wr => ∃ (k : Nat) (st' : List Nat) (F' : Lit → Option Value), kv = .int .i64 (k : Int) ∧ k ≤ nj ∧ Hid (LeK m (clF cs) (w2.heap.size + 1) w1.heap.size i BL rs acs vE vA gv J t st (.slice Aj nj cj) w1 k k st' F' vst wr)) (fun kv _ _ => nj - (intOf kv).toNat)
          case atStart => exact ⟨0, st, F, rfl, Nat.zero_le _, HK0⟩
          case round =>
            obtain ⟨k, st', F', rfl, hk, HK⟩ := hrel
            have hstn2 := HK.out.le.le.nodup
            rw [HN.out.1] at hstn2
            have hwr2 := HK.out.bl.size
            obtain ⟨As2, cst2, rfl, hcst2, -⟩ := own_form HK.out.le.own
            obtain ⟨ns2, hns2⟩ : ∃ x, st'.length = x := ⟨_, rfl⟩
            have hown2 := HK.out.le.own
            rw [hns2] at hown2 hcst2 hstn2 HK ⊢
            have HOW := Lib.hid hown2
            have HNS := Lib.hid hns2
            clear hns2 hown2
            by_cases hlt2 : k < nj
            · have hd2 : decide ((k : Int) < (nj : Int)) = true := decide_eq_true (by omega)
              have hkd : decide (k < nj) = true := decide_eq_true hlt2
              have hkJ : k < J.length := by rw [HNJ.out]; exact hlt2
              obtain ⟨gl, rfl⟩ : ∃ g, Aj = some ⟨g, 0, none⟩ := by
                obtain ⟨A, c, e, -, hor⟩ := HK.out.row.cells edC_E
                obtain ⟨g, hA, -⟩ := hor.resolve_left (by intro e2; have := ren_len (numC (clF cs) st') J k (by omega); rw [e2] at this; simp at this; omega)
                injection e with e1 _ _
                exact ⟨g, by rw [e1, hA]⟩
              have HKJ : Hid (LeK m (clF cs) (w2.heap.size + 1) w1.heap.size i BL rs acs vE vA gv J t st (.slice (some ⟨gl, 0, none⟩) J.length cj) w1 k k st' F' (.slice As2 ns2 cst2) wr) := by rw [HNJ.out]; exact HK
              obtain ⟨⟨e0, e1, e2⟩, ef, lgl⟩ := HKJ.out.cells hkJ
              obtain ⟨q, hq⟩ : ∃ e, J[k] = e := ⟨_, rfl⟩
              have hqm : q ∈ J := by rw [← hq]; exact List.getElem_mem hkJ
              obtain ⟨f0, hf0n, hf0⟩ := HJB.out q hqm
              have hqc := HCL.out.2.2 _ _ hf0
              obtain ⟨lo, hi, cl⟩ := q
              rw [hq] at e0 e1 e2
              simp only at e0 e1 e2 hf0 hqc
              have hb0 : Below wr.heap.size wr (wr.alloc (.cells #[.int .u8 (lo : Int), .int .u8 (hi : Int), .int .i64 (cl : Int)] 169)) := (Below.refl _ _).alloc (Nat.le_refl _) _
              have hK1 := HKJ.out.later hb0
              have hkey : keyOf Tryz.prog 3 (.int .i64 (cl : Int)) = some (.int .i64 (cl : Int)) := Maps.keyOf_int_mk Tryz.underlying3 (WalkArith.wf_i64 (by omega))
              have hmv := hK1.le.mv
              have hsy := hK1.le.say cl
              have hne3 : gl ≠ wr.heap.size := by omega
              have HQ := Lib.hid hq
              by_cases hinn : some cl ∈ st'.map (clF cs)
              · rw [if_pos hinn] at hsy
                have hlook : (Instr.lookup 222 (.map (some w1.heap.size)) (.int .i64 (cl : Int)) true).run Tryz.prog (wr.alloc (.cells #[.int .u8 (lo : Int), .int .u8 (hi : Int), .int .i64 (cl : Int)] 169)) = .ok (.tuple #[.int .i64 ((numC (clF cs) st' cl : Nat) : Int), .bool true]) (wr.alloc (.cells #[.int .u8 (lo : Int), .int .u8 (hi : Int), .int .i64 (cl : Int)] 169)) := by
                  have h1 := hmv.look_ok K Tryz.underlying222 hz hkey trivial
                  rw [hsy] at h1
                  exact h1
                obtain ⟨x, hx⟩ : ∃ x, numC (clF cs) st' cl = x := ⟨_, rfl⟩
                rw [hx] at hlook
                have hb9 : Below (wr.setCell ⟨gl, k * 3 + 2, none⟩ (.int .i64 (x : Int))).heap.size (wr.setCell ⟨gl, k * 3 + 2, none⟩ (.int .i64 (x : Int))) ((wr.setCell ⟨gl, k * 3 + 2, none⟩ (.int .i64 (x : Int))).alloc (.cells #[.int .u8 (lo : Int), .int .u8 (hi : Int), .int .i64 (cl : Int)] 169)) := (Below.refl _ _).alloc (Nat.le_refl _) _
                have hK3 := ((HKJ.out.old hkJ (by rw [hq]; exact hinn)).put hkJ (x := (x : Int)) (by rw [hq, ← hx])).later hb9
                rw [HNJ.out] at hK3
                have HK3 := Lib.hid hK3
                clear hK1 hmv hsy hinn hx hK3 hb9 hq hqm hf0 hf0n hb0 HKJ
                go_wp2_with fail
                go_roundw
                case rel => exact ⟨k + 1, st', F', by go_num, by omega, HK3⟩
                case measure => simp [intOf]; omega
              · rw [if_neg hinn] at hsy
                have hlook : (Instr.lookup 222 (.map (some w1.heap.size)) (.int .i64 (cl : Int)) true).run Tryz.prog (wr.alloc (.cells #[.int .u8 (lo : Int), .int .u8 (hi : Int), .int .i64 (cl : Int)] 169)) = .ok (.tuple #[.int .i64 0, .bool false]) (wr.alloc (.cells #[.int .u8 (lo : Int), .int .u8 (hi : Int), .int .i64 (cl : Int)] 169)) := by
                  have h1 := hmv.look_ok K Tryz.underlying222 hz hkey trivial
                  rw [hsy] at h1
                  exact h1
                have HMV := Lib.hid hmv
                have HK1 := Lib.hid hK1
                have HNI := Lib.hid hinn
                have HEX := Lib.hid (show ∃ s, s < n ∧ clF cs s = some cl from ⟨f0, hf0n, hf0⟩)
                have hns0 : st'.length < maxLen := by unfold maxLen; have := HNS.out; omega
                have hmv' : MV Tryz.prog 3 w1.heap.size ns2 F' (wr.alloc (.cells #[.int .u8 (lo : Int), .int .u8 (hi : Int), .int .i64 (cl : Int)] 169)) := by rw [← HNS.out]; exact hmv
                have HMV' := Lib.hid hmv'
                have hownE := World.ownsRow.alloc HOW.out (.cells #[.int .u8 (lo : Int), .int .u8 (hi : Int), .int .i64 (cl : Int)] 169)
                have HOE := Lib.hid hownE
                have hmlt : w1.heap.size < wr.heap.size := HKJ.out.le.mv.lt
                clear hK1 hmv hmv' hsy hinn hq hqm hf0 hf0n hb0 hownE hns0
                go_wp2_with (at_mapUpdate; refine wpList_put_MV _ rfl _ _ _ 222 rfl 3 3 K Tryz.underlying222 w1.heap.size ns2 F' rfl HMV'.out (by unfold maxLen; omega) _ _ _ rfl rfl hkey trivial ?_)
                intro wm hmvm hgm
                have hzm := hgm.size
                have hsz0 : (wr.alloc (.cells #[.int .u8 (lo : Int), .int .u8 (hi : Int), .int .i64 (cl : Int)] 169)).heap.size = wr.heap.size + 1 := by simp
                rw [hsz0] at hzm
                have hec : wm.cell? ⟨wr.heap.size, 2, none⟩ = some (.int .i64 (cl : Int)) := (World.cell?_of_block (a := ⟨wr.heap.size, 2, none⟩) (hgm.block _ (by simp) (fun e => by injection e with e; have e' : wr.heap.size = w1.heap.size := e; omega))).trans (by rw [cell_of_row _ _ _ _ _ _ (heap_alloc_new wr _)]; rfl)
                have hownM : wm.ownsRow w1.heap.size 3 1 (.slice As2 ns2 cst2) ns2 (ints st') := own_same HOE.out fun g hg => hgm.block g (HOE.out.lt g hg).2 fun e => mv_ne HMV'.out HOE.out (by rw [hg, e])
                have hbm : Below w1.heap.size w1 wm := HK1.out.bl.grown hgm HK1.out.bl.size (fun q hq => by injection hq with hq; omega)
                have hix := index_cls _ g3 n cc cl cs wm (OR.later HC.out hbm) HCL.out.1 (by omega) HEX.out
                have HIX := Lib.hid hix
                have HGM := Lib.hid (And.intro hmvm hgm)
                have HOM := Lib.hid hownM
                clear hix hmvm hgm hownM hbm hsz0
                go_wp2_with fail
                refine HIX.out.mono ?_
                rintro e wy ⟨s2, rfl, hwy, hs2n, hs2c⟩
                rw [hwy]
                clear hwy
                have hownA := World.ownsRow.alloc HOM.out (.cells #[.int .i64 (s2 : Int)] 3)
                have hcx : ∀ j u, ([.int .i64 (s2 : Int)] : List Value)[j]? = some u → (wm.alloc (.cells #[.int .i64 (s2 : Int)] 3)).cell? ((⟨wm.heap.size, 0, none⟩ : Addr).add j) = some u := fun j u hj => by
                  match j, hj with
                  | 0, hj => simp at hj; rw [← hj, Addr.add_lit, cell_of_row _ _ _ _ _ _ (heap_alloc_new wm _)]; rfl
                have hbz : w1.heap.size ≤ (wm.alloc (.cells #[.int .i64 (s2 : Int)] 3)).heap.size := by simp; omega
                have HB7 := Lib.hid (show Below wm.heap.size wm (wm.alloc (.cells #[.int .i64 (s2 : Int)] 3)) from (Below.refl _ _).alloc (Nat.le_refl _) _)
                go_wp2_with (at_builtin; refine appI_at rfl _ _ 22 rfl w1.heap.size 3 ii _ 1 8 Tryz.underlying22 hii hj0 hj1 hj2 rfl (by decide) _ ns2 (ints st') rfl hownA ⟨wm.heap.size, 0, none⟩ 1 1 [.int .i64 (s2 : Int)] rfl rfl hcx (by intro u hu; simp at hu; subst hu; rfl) (by unfold maxLen; omega) (by omega) hbz ?_)
                intro vst' w4 hown4 hg4 hf4
                have hf4' : Fresh vst' (.slice As2 ns2 cst2) (wm.alloc (.cells #[.int .i64 (s2 : Int)] 3)).heap.size := by rw [show (wm.alloc (.cells #[.int .i64 (s2 : Int)] 3)).heap.size = wm.heap.size + 1 by simp]; exact hf4
                obtain ⟨hk5, hnum⟩ := HK1.out.new hkJ HGM.out.2 (by rw [HQ.out, HNS.out]; exact HGM.out.1) HB7.out hg4 (by rw [HNS.out]; exact hown4) hf4' (by rw [HQ.out]; exact HNI.out) (by rw [HN.out.1]; exact hs2n) (by rw [HQ.out]; exact hs2c)
                rw [HNS.out] at hk5 hnum
                obtain ⟨A4, c4, rfl, -, -⟩ := own_form hown4
                obtain ⟨⟨-, -, f2⟩, ff, lgl4⟩ := hk5.cells hkJ
                have hk6 := hk5.put hkJ (x := (ns2 : Int)) (by rw [hnum])
                rw [HNJ.out] at hk6
                have HK6 := Lib.hid hk6
                clear hown4 hg4 hf4 hf4' hk5 hnum hk6 hownA hcx hbz hec
                go_wp2_with fail
                go_roundw
                case rel => exact ⟨k + 1, st' ++ [s2], _, by go_num, by omega, HK6⟩
                case measure => simp [intOf]; omega
            · have hkn : k = nj := by omega
              have hd2 : decide ((k : Int) < (nj : Int)) = false := decide_eq_false (by omega)
              have hle := HK.out.le
              have hrow := HK.out.row
              rw [List.take_of_length_le (by rw [HNJ.out]; omega)] at hle
              rw [List.take_of_length_le (by rw [HNJ.out]; omega), List.drop_of_length_le (by rw [HNJ.out]; omega), List.append_nil] at hrow
              have hpl : ∃ more, st' = st ++ more := HK.out.pre
              have hil2 := hle.le.il
              have hs2 : st'[i]? = some s := by
                obtain ⟨more, e⟩ := hpl
                rw [e, List.getElem?_append_left (by have := HNST.out; omega)]
                exact HS.out.1
              have hrl2 : rs.length = i := by rw [hle.le.rows, List.length_map, List.length_take]; omega
              have hal2 : acs.length = i := by rw [hle.ac, List.length_map, List.length_take]; omega
              have hmkE := hle.ma.own
              have hmkA : wr.ownsRow w1.heap.size 4 1 vA acs.length (rowF bC acs) := hle.ma.acc
              rw [hrl2] at hmkE
              rw [hal2] at hmkA
              obtain ⟨AE, cE, rfl, -, -⟩ := own_form hmkE
              obtain ⟨AV, cA, rfl, -, -⟩ := own_form hmkA
              obtain ⟨av, hav⟩ : ∃ av, rowF bC acs = av := ⟨_, rfl⟩
              rw [hav] at hmkA
              have hi2 : i < ns2 := by have := (List.getElem?_eq_some_iff.1 hs2).1; rw [HNS.out] at this; exact this
              obtain ⟨gs2, rfl, -, lgs, hgc⟩ := own_at1 HOW.out (by omega)
              have xst : wr.cell? ⟨gs2, i, none⟩ = some (.int .i64 (s : Int)) := by rw [hgc i (by omega)]; unfold ints; rw [List.getElem?_map, hs2]; rfl
              have hM := (HK.out.bl.block w.heap.size (by omega)).trans HX0.out
              have xm1 : wr.cell? ⟨w.heap.size, 1, none⟩ = some (.slice (some ⟨ga, fa, none⟩) n ca) := by rw [cell_of_row _ _ _ _ _ _ hM]; rfl
              have hbw : Below w.heap.size w wr := HB1.out.trans (HK.out.bl.mono HB1.out.size)
              have hacA : (m.ac[s]?).getD false = a := HS.out.2.2.1
              have hca0 : w.cell? ⟨ga, fa + s, none⟩ = some (.bool a) := by
                obtain ⟨ga', fa', e, -, -, h0⟩ := HA.out.at_ (show s < m.ac.length by rw [HN.out.2]; exact hsn)
                injection e with e; injection e with e1 e2
                rw [e1, e2, h0, ← hacA, List.getElem?_eq_getElem (by rw [HN.out.2]; exact hsn)]; rfl
              have xac := (World.cell?_of_block (a := ⟨ga, fa + s, none⟩) (hbw.block ga HGA.out.1)).trans hca0
              have hNr := hle.ma.hN
              obtain ⟨xn0, xn1⟩ : wr.cell? ⟨w2.heap.size + 1, 0, none⟩ = some (.slice AE i cE) ∧ wr.cell? ⟨w2.heap.size + 1, 1, none⟩ = some (.slice AV i cA) := by constructor <;> (rw [cell_of_row _ _ _ _ _ _ hNr]; rfl)
              have hltM := hle.ma.lt
              have hwz2 := hbw.size
              have hsl : w2.heap.size + 1 < wr.heap.size := (hltM _ (mem_fpM.2 (.inl rfl))).2
              have lM : w.heap.size < wr.heap.size := (Array.getElem?_eq_some_iff.1 hM).1
              have lga : ga < wr.heap.size := by have := HGA.out.1; omega
              have hww1 := HB1.out.size
              have nM : w.heap.size ∉ (w2.heap.size + 1) :: (blk (.slice AE i cE) ++ blk (.slice AV i cA)) := fun hm => by have := (hltM _ hm).1; omega
              have nga : ga ∉ (w2.heap.size + 1) :: (blk (.slice AE i cE) ++ blk (.slice AV i cA)) := fun hm => by have := (hltM _ hm).1; have := HGA.out.1; omega
              have ngs : gs2 ∉ (w2.heap.size + 1) :: (blk (.slice AE i cE) ++ blk (.slice AV i cA)) := fun hm => hle.ma.out _ hm (by simp [blk, Value.ownBlock])
              have hne : (∀ g, (Value.slice AE i cE).ownBlock = some g → g < wr.heap.size) ∧ (∀ g, (Value.slice AV i cA).ownBlock = some g → g < wr.heap.size) ∧ (∀ g, (Value.slice AV i cA).ownBlock = some g → (Value.slice AE i cE).ownBlock ≠ some g) ∧ (Value.slice AE i cE).ownBlock ≠ some (w2.heap.size + 1) ∧ (Value.slice AV i cA).ownBlock ≠ some (w2.heap.size + 1) ∧ (∀ g, (Value.slice AV i cA).ownBlock = some g → (Value.slice AE i cE).ownBlock ≠ some g ∧ g < wr.heap.size) := by
                have hd : ∀ g, (Value.slice AV i cA).ownBlock = some g → (Value.slice AE i cE).ownBlock ≠ some g := fun g hg e => hle.ma.neEA g e hg
                exact ⟨fun g hg => (hmkE.lt g hg).2, fun g hg => (hmkA.lt g hg).2, hd, hle.ma.neE, hle.ma.neA, fun g hg => ⟨hd g hg, (hmkA.lt g hg).2⟩⟩
              obtain ⟨W, hWeq⟩ : ∃ W : World, W = wr := ⟨_, rfl⟩
              subst hWeq
              have hS0 : StW6 (w2.heap.size + 1) (.slice AE i cE) (.slice AV i cA) W 0 W.drew := ⟨(KeepF.of_below (Below.refl _ _).drew).weak, fun _ => rfl, fun _ _ _ => rfl, fun _ => (Below.refl _ _).drew⟩
              have HNE := Lib.hid hne
              have HNB := Lib.hid hNr
              have HE1 := Lib.hid hmkE
              have HV1 := Lib.hid hmkA
              have HZ1 := Lib.hid hwr2
              have HLE := Lib.hid (And.intro hle (And.intro hrow hs2))
              have HBE := Lib.hid (And.intro HK.out.bl HK.out.hB)
              have HAV := Lib.hid (And.intro hav (And.intro hrl2 hal2))
              clear hle hrow hpl hil2 hs2 hrl2 hal2 hmkE hmkA hav hgc hM hbw hacA hca0 hNr hltM hne hkn hwr2
              go_wp2_with fail
              refine wp_region_chain 20 [4, 16, 18] (factL21 (w2.heap.size + 1) w.heap.size gs2 ns2 cst2 i s ga fa n ca nj cj cE cA w1.heap.size AE AV Aj gv av a W) (fun c w' => StW6 (w2.heap.size + 1) (.slice AE i cE) (.slice AV i cA) W c w') (by kernel_rfl) (by kernel_rfl) (by kernel_rfl) (by kernel_rfl) (by kernel_rfl) (by kernel_rfl) (by decide) hS0 ?_ ?_
              · simp only [List.take_succ_cons, List.take_zero]
                refine HSteps.pure (by decide) ?_ (HSteps.pure (by decide) ?_ (HSteps.pure (by decide) ?_ (HSteps.free (by decide) ?_ (HSteps.eff 0 rfl ?_ (HSteps.pure (by decide) ?_ (HSteps.pure (by decide) ?_ (HSteps.pure (by decide) ?_ (HSteps.pure (by decide) ?_ (HSteps.pure (by decide) ?_ (HSteps.pure (by decide) ?_ (HSteps.pure (by decide) ?_ (HSteps.pure (by decide) ?_ (HSteps.pure (by decide) ?_ (HSteps.pure (by decide) ?_ (HSteps.free (by decide) ?_ (HSteps.eff 1 rfl ?_ (HSteps.pure (by decide) ?_ (HSteps.eff 2 rfl ?_ (HSteps.pure (by decide) ?_ (HSteps.nil))))))))))))))))))))
                · intro v wz c hlo hS hE K hK
                  simp only [putAll, Act.put, List.setIfInBounds_toArray, List.set_cons_zero, List.set_cons_succ, Nat.zero_add, Nat.reduceAdd, List.take_succ_cons, List.take_zero] at hK ⊢
                  have HX := Lib.hid hS
                  clear hS hE hlo
                  go_wp2_with fail
                  exact hK.out _ rfl
                · intro v wz c hlo hS hE K hK
                  simp only [putAll, Act.put, List.setIfInBounds_toArray, List.set_cons_zero, List.set_cons_succ, Nat.zero_add, Nat.reduceAdd, List.take_succ_cons, List.take_zero] at hK ⊢
                  have e0 : v 0 = _ := hE.1 rfl
                  rw [e0] at hK ⊢
                  have hle := hlo 0 (by kernel_rfl)
                  have c1 := (World.cell?_of_block (a := ⟨w2.heap.size + 1, 0, none⟩) (hS.2.1 (by omega))).trans xn0
                  have l1 : w2.heap.size + 1 < wz.heap.size := by have := hS.1.size; omega
                  have HX := Lib.hid hS
                  clear hS hE hlo
                  go_wp2_with fail
                  exact hK.out _ rfl
                · intro v wz c hlo hS hE K hK
                  simp only [putAll, Act.put, List.setIfInBounds_toArray, List.set_cons_zero, List.set_cons_succ, Nat.zero_add, Nat.reduceAdd, List.take_succ_cons, List.take_zero] at hK ⊢
                  have HX := Lib.hid hS
                  clear hS hE hlo
                  go_wp2_with fail
                  exact hK.out _ rfl
                · intro v wz c hlo hS hE K hK
                  simp only [putAll, Act.put, List.setIfInBounds_toArray, List.set_cons_zero, List.set_cons_succ, Nat.zero_add, Nat.reduceAdd, List.take_succ_cons, List.take_zero] at hK ⊢
                  have e2 : v 2 = _ := hE.1 rfl
                  rw [e2] at hK ⊢
                  have hbz : Below wz.heap.size wz (wz.alloc (.cells #[.slice Aj nj cj] 167)) := (Below.refl _ _).alloc (Nat.le_refl _) _
                  have hzW := hS.1.size
                  have HX := Lib.hid hS
                  have HBZ := Lib.hid hbz
                  clear hS hE hlo hbz
                  go_wp2_with fail
                  exact hK.out _ _ (fun j y _ h => factL21_bl HBZ.out h) (HX.out.later hsl HNE.out.2.1 HBZ.out) ⟨wz.heap.size, rfl, hzW, by simp, by go_simp⟩
                · intro v wz hS hE K hK
                  simp only [putAll, Act.put, List.setIfInBounds_toArray, List.set_cons_zero, List.set_cons_succ, Nat.zero_add, Nat.reduceAdd, List.take_succ_cons, List.take_zero] at hK ⊢
                  have e1 : v 1 = _ := hE.1 rfl
                  rw [e1] at hK ⊢
                  have E3 := hE.2.1 rfl
                  obtain ⟨g, e3, hgW, hgl, hg0⟩ := E3
                  rw [e3] at hK ⊢
                  have hz := hS.2.2.2 rfl
                  have hown : wz.ownsRow w1.heap.size 167 1 (.slice AE i cE) i gv := own_later HE1.out hz
                  have hzz := hz.size
                  clear hz
                  have hcell : ∀ j u, ([.slice Aj nj cj] : List Value)[j]? = some u → wz.cell? ((⟨g, 0, none⟩ : Addr).add j) = some u := fun j u hj => by
                    match j, hj with
                    | 0, hj => simp at hj; rw [← hj, Addr.add_lit]; exact hg0
                  have HX := Lib.hid hS
                  clear hS hE
                  go_wp2_with (at_builtin; refine appI_at rfl _ _ 73 rfl w1.heap.size 167 ie (.slice none 0 0) 1 24 Tryz.underlying73 hie he0 he1 he2 rfl (by decide) _ i gv rfl hown ⟨g, 0, none⟩ 1 1 [.slice Aj nj cj] rfl rfl hcell (by intro u hu; simp at hu; subst hu; rfl) (by unfold maxLen; omega) (by omega) (by have := HZ1.out; omega) ?_)
                  intro v' wx hown1 hg1 hfr
                  obtain ⟨A', c', rfl, -, -⟩ := own_form hown1
                  have hfr2 : Fresh (.slice A' (i + 1) c') (.slice AE i cE) W.heap.size := hfr.imp id fun ⟨g, h1, h2⟩ => ⟨g, h1, Nat.le_trans hzz h2⟩
                  refine hK.out _ _ (factL21_01 hg1 HNE.out.1) (HX.out.s1 hsl hg1 HNE.out.2.2.2.1 HNE.out.2.2.2.2.2) (fun _ => ⟨A', c', rfl, hown1, hfr2⟩)
                · intro v wz c hlo hS hE K hK
                  simp only [putAll, Act.put, List.setIfInBounds_toArray, List.set_cons_zero, List.set_cons_succ, Nat.zero_add, Nat.reduceAdd, List.take_succ_cons, List.take_zero] at hK ⊢
                  have HX := Lib.hid hS
                  clear hS hE hlo
                  go_wp2_with fail
                  exact hK.out _ rfl
                · intro v wz c hlo hS hE K hK
                  simp only [putAll, Act.put, List.setIfInBounds_toArray, List.set_cons_zero, List.set_cons_succ, Nat.zero_add, Nat.reduceAdd, List.take_succ_cons, List.take_zero] at hK ⊢
                  have e5 : v 5 = _ := hE.1 rfl
                  rw [e5] at hK ⊢
                  have hle := hlo 1 (by kernel_rfl)
                  have c1 := (World.cell?_of_block (a := ⟨w2.heap.size + 1, 1, none⟩) (hS.2.1 (by omega))).trans xn1
                  have l1 : w2.heap.size + 1 < wz.heap.size := by have := hS.1.size; omega
                  have HX := Lib.hid hS
                  clear hS hE hlo
                  go_wp2_with fail
                  exact hK.out _ rfl
                · intro v wz c hlo hS hE K hK
                  simp only [putAll, Act.put, List.setIfInBounds_toArray, List.set_cons_zero, List.set_cons_succ, Nat.zero_add, Nat.reduceAdd, List.take_succ_cons, List.take_zero] at hK ⊢
                  have HX := Lib.hid hS
                  clear hS hE hlo
                  go_wp2_with fail
                  exact hK.out _ rfl
                · intro v wz c hlo hS hE K hK
                  simp only [putAll, Act.put, List.setIfInBounds_toArray, List.set_cons_zero, List.set_cons_succ, Nat.zero_add, Nat.reduceAdd, List.take_succ_cons, List.take_zero] at hK ⊢
                  have e7 : v 7 = _ := hE.1 rfl
                  rw [e7] at hK ⊢
                  have c1 := (World.cell?_of_block (a := ⟨w.heap.size, 1, none⟩) (hS.1.blk _ lM nM)).trans xm1
                  have l1 : w.heap.size < wz.heap.size := by have := hS.1.size; omega
                  have HX := Lib.hid hS
                  clear hS hE hlo
                  go_wp2_with fail
                  exact hK.out _ rfl
                · intro v wz c hlo hS hE K hK
                  simp only [putAll, Act.put, List.setIfInBounds_toArray, List.set_cons_zero, List.set_cons_succ, Nat.zero_add, Nat.reduceAdd, List.take_succ_cons, List.take_zero] at hK ⊢
                  have HX := Lib.hid hS
                  clear hS hE hlo
                  go_wp2_with fail
                  exact hK.out _ rfl
                · intro v wz c hlo hS hE K hK
                  simp only [putAll, Act.put, List.setIfInBounds_toArray, List.set_cons_zero, List.set_cons_succ, Nat.zero_add, Nat.reduceAdd, List.take_succ_cons, List.take_zero] at hK ⊢
                  have HX := Lib.hid hS
                  clear hS hE hlo
                  go_wp2_with fail
                  exact hK.out _ rfl
                · intro v wz c hlo hS hE K hK
                  simp only [putAll, Act.put, List.setIfInBounds_toArray, List.set_cons_zero, List.set_cons_succ, Nat.zero_add, Nat.reduceAdd, List.take_succ_cons, List.take_zero] at hK ⊢
                  have e9 : v 9 = _ := hE.1 rfl
                  have e10 : v 10 = _ := hE.2.1 rfl
                  rw [e9, e10] at hK ⊢
                  have HX := Lib.hid hS
                  clear hS hE hlo
                  go_wp2_with fail
                  exact hK.out _ rfl
                · intro v wz c hlo hS hE K hK
                  simp only [putAll, Act.put, List.setIfInBounds_toArray, List.set_cons_zero, List.set_cons_succ, Nat.zero_add, Nat.reduceAdd, List.take_succ_cons, List.take_zero] at hK ⊢
                  have e11 : v 11 = _ := hE.1 rfl
                  rw [e11] at hK ⊢
                  have c1 := (World.cell?_of_block (a := ⟨gs2, i, none⟩) (hS.1.blk _ lgs ngs)).trans xst
                  have l1 : gs2 < wz.heap.size := by have := hS.1.size; omega
                  have HX := Lib.hid hS
                  clear hS hE hlo
                  go_wp2_with fail
                  exact hK.out _ rfl
                · intro v wz c hlo hS hE K hK
                  simp only [putAll, Act.put, List.setIfInBounds_toArray, List.set_cons_zero, List.set_cons_succ, Nat.zero_add, Nat.reduceAdd, List.take_succ_cons, List.take_zero] at hK ⊢
                  have e8 : v 8 = _ := hE.1 rfl
                  have e12 : v 12 = _ := hE.2.1 rfl
                  rw [e8, e12] at hK ⊢
                  have HX := Lib.hid hS
                  clear hS hE hlo
                  go_wp2_with fail
                  exact hK.out _ rfl
                · intro v wz c hlo hS hE K hK
                  simp only [putAll, Act.put, List.setIfInBounds_toArray, List.set_cons_zero, List.set_cons_succ, Nat.zero_add, Nat.reduceAdd, List.take_succ_cons, List.take_zero] at hK ⊢
                  have e13 : v 13 = _ := hE.1 rfl
                  rw [e13] at hK ⊢
                  have c1 := (World.cell?_of_block (a := ⟨ga, fa + s, none⟩) (hS.1.blk _ lga nga)).trans xac
                  have l1 : ga < wz.heap.size := by have := hS.1.size; omega
                  have HX := Lib.hid hS
                  clear hS hE hlo
                  go_wp2_with fail
                  exact hK.out _ rfl
                · intro v wz c hlo hS hE K hK
                  simp only [putAll, Act.put, List.setIfInBounds_toArray, List.set_cons_zero, List.set_cons_succ, Nat.zero_add, Nat.reduceAdd, List.take_succ_cons, List.take_zero] at hK ⊢
                  have e14 : v 14 = _ := hE.1 rfl
                  rw [e14] at hK ⊢
                  have hbz : Below wz.heap.size wz (wz.alloc (.cells #[.bool a] 4)) := (Below.refl _ _).alloc (Nat.le_refl _) _
                  have hzW := hS.1.size
                  have HX := Lib.hid hS
                  have HBZ := Lib.hid hbz
                  clear hS hE hlo hbz
                  go_wp2_with fail
                  exact hK.out _ _ (fun j y _ h => factL21_bl HBZ.out h) (HX.out.later hsl HNE.out.2.1 HBZ.out) ⟨wz.heap.size, rfl, hzW, by simp, by go_simp⟩
                · intro v wz hS hE K hK
                  simp only [putAll, Act.put, List.setIfInBounds_toArray, List.set_cons_zero, List.set_cons_succ, Nat.zero_add, Nat.reduceAdd, List.take_succ_cons, List.take_zero] at hK ⊢
                  have e6 : v 6 = _ := hE.1 rfl
                  rw [e6] at hK ⊢
                  have E15 := hE.2.1 rfl
                  obtain ⟨g, e15, hgW, hgl, hg0⟩ := E15
                  rw [e15] at hK ⊢
                  have hown : wz.ownsRow w1.heap.size 4 1 (.slice AV i cA) i av := own_same HV1.out fun g hg => hS.2.2.1 (by decide) g hg
                  have hzz := hS.1.size
                  have hcell : ∀ j u, ([.bool a] : List Value)[j]? = some u → wz.cell? ((⟨g, 0, none⟩ : Addr).add j) = some u := fun j u hj => by
                    match j, hj with
                    | 0, hj => simp at hj; rw [← hj, Addr.add_lit]; exact hg0
                  have HX := Lib.hid hS
                  clear hS hE
                  go_wp2_with (at_builtin; refine appI_at rfl _ _ 74 rfl w1.heap.size 4 ib (.bool false) 1 1 Tryz.underlying74 hib hb0 hb1 hb2 rfl (by decide) _ i av rfl hown ⟨g, 0, none⟩ 1 1 [.bool a] rfl rfl hcell (by intro u hu; simp at hu; subst hu; rfl) (by unfold maxLen; omega) (by omega) (by have := HZ1.out; omega) ?_)
                  intro v' wx hown1 hg1 hfr
                  obtain ⟨A', c', rfl, -, -⟩ := own_form hown1
                  have hfr2 : Fresh (.slice A' (i + 1) c') (.slice AV i cA) W.heap.size := hfr.imp id fun ⟨g, h1, h2⟩ => ⟨g, h1, Nat.le_trans hzz h2⟩
                  refine hK.out _ _ (factL21_12 hg1 HNE.out.2.1 HNE.out.2.2.1) (HX.out.s2 hsl hg1 HNE.out.2.2.2.2.1) (fun _ => ⟨A', c', rfl, hown1, hfr2⟩)
                · intro v wz c hlo hS hE K hK
                  simp only [putAll, Act.put, List.setIfInBounds_toArray, List.set_cons_zero, List.set_cons_succ, Nat.zero_add, Nat.reduceAdd, List.take_succ_cons, List.take_zero] at hK ⊢
                  have HX := Lib.hid hS
                  clear hS hE hlo
                  go_wp2_with fail
                  exact hK.out _ rfl
                · intro v wz hS hE K hK
                  simp only [putAll, Act.put, List.setIfInBounds_toArray, List.set_cons_zero, List.set_cons_succ, Nat.zero_add, Nat.reduceAdd, List.take_succ_cons, List.take_zero] at hK ⊢
                  have e17 : v 17 = _ := hE.1 rfl
                  rw [e17] at hK ⊢
                  have E4 := hE.2.1 rfl
                  obtain ⟨A, c', ev, ho, hfr⟩ := E4 (by decide)
                  rw [ev] at hK ho hfr ⊢
                  have hrow := (hS.2.1 (by decide)).trans HNB.out
                  have cz : wz.cell? ⟨w2.heap.size + 1, 0, none⟩ = some (.slice AE i cE) := by rw [cell_of_row _ _ _ _ _ _ hrow]; rfl
                  have fz : wz.frozen? ⟨w2.heap.size + 1, 0, none⟩ = false := by simp [World.frozen?, hrow]
                  have HX := Lib.hid hS
                  have HO := Lib.hid (And.intro ho (And.intro hfr hrow))
                  clear hS hE ho hfr hrow ev
                  go_wp2_with fail
                  have hns : ∀ g, (Value.slice A (i + 1) c').ownBlock = some g → g ≠ w2.heap.size + 1 := fun g hg => HO.out.2.1.elim (fun e => by rw [e] at hg; intro e2; subst e2; exact HNE.out.2.2.2.1 hg) fun ⟨g', e, h2⟩ => by rw [e] at hg; injection hg with hg; omega
                  refine hK.out undef _ (factL21_23 hsl HNE.out.2.2.2.1 HNE.out.2.2.2.2.1 _) (HX.out.s3 _) (fun _ => ⟨A, c', own_same HO.out.1 fun g hg => Below.heap_setCell _ _ _ _ (hns g hg), HO.out.2.1, by have := set_row3 HO.out.2.2 0 (.slice A (i + 1) c'); simpa using this⟩)
                · intro v wz c hlo hS hE K hK
                  simp only [putAll, Act.put, List.setIfInBounds_toArray, List.set_cons_zero, List.set_cons_succ, Nat.zero_add, Nat.reduceAdd, List.take_succ_cons, List.take_zero] at hK ⊢
                  have HX := Lib.hid hS
                  clear hS hE hlo
                  go_wp2_with fail
                  exact hK.out _ rfl
              · intro v wz hS hF
                have e0 : v 0 = _ := hF 0 (by decide)
                have e1 : v 1 = _ := hF 1 (by decide)
                have e2 : v 2 = _ := hF 2 (by decide)
                have e5 : v 5 = _ := hF 5 (by decide)
                have e6 : v 6 = _ := hF 6 (by decide)
                have e7 : v 7 = _ := hF 7 (by decide)
                have e8 : v 8 = _ := hF 8 (by decide)
                have e9 : v 9 = _ := hF 9 (by decide)
                have e10 : v 10 = _ := hF 10 (by decide)
                have e11 : v 11 = _ := hF 11 (by decide)
                have e12 : v 12 = _ := hF 12 (by decide)
                have e13 : v 13 = _ := hF 13 (by decide)
                have e14 : v 14 = _ := hF 14 (by decide)
                have e17 : v 17 = _ := hF 17 (by decide)
                have e19 : v 19 = _ := hF 19 (by decide)
                have E3 := hF 3 (by decide)
                have E4 := hF 4 (by decide)
                have E15 := hF 15 (by decide)
                have E16 := hF 16 (by decide)
                have E18 := hF 18 (by decide)
                simp only [putAll, Act.put, List.setIfInBounds_toArray, List.set_cons_zero, List.set_cons_succ, Nat.zero_add, Nat.reduceAdd, List.take_succ_cons, List.take_zero, List.drop_succ_cons, List.drop_zero, e0, e1, e2, e5, e6, e7, e8, e9, e10, e11, e12, e13, e14, e17, e19]
                clear hF e0 e1 e2 e5 e6 e7 e8 e9 e10 e11 e12 e13 e14 e17 e19
                obtain ⟨A18, c18, ho18, hf18, hr18⟩ := E18 (by decide)
                obtain ⟨A16, c16, ev16, ho16, hf16⟩ := E16 (by decide)
                rw [ev16] at ho16 hf16 ⊢
                have hkz := hS.1
                have z1 : wz.cell? ⟨w2.heap.size + 1, 1, none⟩ = some (.slice AV i cA) := by rw [cell_of_row _ _ _ _ _ _ hr18]; rfl
                have fz1 : wz.frozen? ⟨w2.heap.size + 1, 1, none⟩ = false := by simp [World.frozen?, hr18]
                have lNz : w2.heap.size + 1 < wz.heap.size := (Array.getElem?_eq_some_iff.1 hr18).1
                have hset : ∀ k, k ≠ w2.heap.size + 1 → (wz.setCell ⟨w2.heap.size + 1, 1, none⟩ (.slice A16 (i + 1) c16)).heap[k]? = wz.heap[k]? := fun k hk => Below.heap_setCell _ _ _ _ hk
                have hfr : ∀ {v v' : Value}, Fresh v' v W.heap.size → v.ownBlock ≠ some (w2.heap.size + 1) → ∀ g, v'.ownBlock = some g → g ≠ w2.heap.size + 1 := fun hf hn g hg e => by
                  subst e
                  rcases hf with hf | ⟨g', hf, h2⟩
                  · rw [hf] at hg; exact hn hg
                  · rw [hf] at hg; injection hg with hg; omega
                have hks : KeepF (fpM (w2.heap.size + 1) (.slice AE i cE) (.slice AV i cA)) [] W (wz.setCell ⟨w2.heap.size + 1, 1, none⟩ (.slice A16 (i + 1) c16)) :=
                  KeepF.tr (show KeepF (fpM (w2.heap.size + 1) (.slice AE i cE) (.slice AV i cA)) [] W wz from hkz) ⟨rfl, rfl, rfl, by simp [World.setCell], fun k _ hn => hset k (fun e => hn (mem_fpM.2 (.inl e))), fun k hk => by cases hk⟩
                have hfin := HLE.out.1.rowDone HBE.out.2 HLE.out.2.1 hks (by have := set_row3 hr18 1 (.slice A16 (i + 1) c16); simpa using this) (by rw [HAV.out.2.1]; exact own_same ho18 fun g hg => hset g (hfr hf18 HNE.out.2.2.2.1 g hg)) (a := a) (by
                  show World.ownsRow _ _ _ _ _ _ _
                  rw [List.length_append, rowF_app, rowF_single, HAV.out.1, HAV.out.2.2]
                  exact own_same ho16 fun g hg => hset g (hfr hf16 HNE.out.2.2.2.2.1 g hg)) hf18 hf16 HS.out.2.2.2 HLE.out.2.2 (by rw [HS.out.2.1, HJE.out]) HS.out.2.2.1.symm
                have hbf : Below w1.heap.size w1 (wz.setCell ⟨w2.heap.size + 1, 1, none⟩ (.slice A16 (i + 1) c16)) := HBE.out.1.trans (hks.below (fun k hk => (HLE.out.1.ma.lt k hk).1) HZ1.out)
                have HFIN := Lib.hid hfin
                have HBF := Lib.hid hbf
                clear hS hkz hset hfr hks hfin hbf ho18 hf18 hr18 ho16 hf16 ev16 E3 E4 E15 E16 E18
                go_wp2_with fail
                go_roundw
                case rel => exact ⟨i + 1, _, _, _, _, _, _, _, _, by go_num, by omega, HFIN, HBF⟩
                case measure => simp [intOf]; omega
      · have hie : i = nst := by omega
        have hd : decide ((i : Int) < (nst : Int)) = false := decide_eq_false (by omega)
        have hle := HL.out
        have hlei : i = st.length := by rw [HNST.out]; exact hie
        have hmkE := hle.ma.own
        have hmkA : wr.ownsRow w1.heap.size 4 1 vA acs.length (rowF bC acs) := hle.ma.acc
        obtain ⟨AE, cE, rfl, -, -⟩ := own_form hmkE
        obtain ⟨AV, cA, rfl, -, -⟩ := own_form hmkA
        obtain ⟨nE, hnE⟩ : ∃ x, rs.length = x := ⟨_, rfl⟩
        obtain ⟨nV, hnV⟩ : ∃ x, acs.length = x := ⟨_, rfl⟩
        rw [hnE, hnV] at HL
        have hNr := HL.out.ma.hN
        obtain ⟨xn0, xn1⟩ : wr.cell? ⟨w2.heap.size + 1, 0, none⟩ = some (.slice AE nE cE) ∧ wr.cell? ⟨w2.heap.size + 1, 1, none⟩ = some (.slice AV nV cA) := by constructor <;> (rw [cell_of_row _ _ _ _ _ _ hNr]; rfl)
        have hX1 := (HB.out.block (w.heap.size + 1) lx1).trans HX1.out
        obtain ⟨q0, q1⟩ : wr.cell? ⟨w.heap.size + 1, 0, none⟩ = some (.slice none 0 0) ∧ wr.cell? ⟨w.heap.size + 1, 1, none⟩ = some (.slice none 0 0) := by constructor <;> (rw [cell_of_row _ _ _ _ _ _ hX1]; rfl)
        have g0 : wr.frozen? ⟨w.heap.size + 1, 0, none⟩ = false := by simp [World.frozen?, hX1]
        have g1 : wr.frozen? ⟨w.heap.size + 1, 1, none⟩ = false := by simp [World.frozen?, hX1]
        have lNr : w2.heap.size + 1 < wr.heap.size := (Array.getElem?_eq_some_iff.1 hNr).1
        have lXr : w.heap.size + 1 < wr.heap.size := by omega
        have HEI := Lib.hid (And.intro hlei (And.intro hnE hnV))
        clear hle hlei hmkE hmkA hNr hX1 hnE hnV hie
        go_wp2_with fail
        refine post_named fun Wf hWf => ?_
        refine bodyPost_ret (v := .agg #[.slice AE nE cE, .slice AV nV cA]) (by rw [hWf]; simp [results, Tryz.results139, go_sem, q0, q1, lXr]; try rfl) rfl ?_
        have hkl : KeepF [w.heap.size + 1] [] wr Wf := by
          rw [hWf]
          have hne : ∀ k, k ∉ [w.heap.size + 1] → k ≠ w.heap.size + 1 := fun k hn e => hn (List.mem_singleton.2 e)
          exact ⟨rfl, rfl, rfl, by simp [World.setCell], fun k _ hn => (Below.heap_setCell (wr.setCell ⟨w.heap.size + 1, 0, none⟩ (.slice AE nE cE)) ⟨w.heap.size + 1, 1, none⟩ (.slice AV nV cA) k (hne k hn)).trans (Below.heap_setCell wr ⟨w.heap.size + 1, 0, none⟩ (.slice AE nE cE) k (hne k hn)), fun k hk => by cases hk⟩
        have hmk := HL.out.ma.low hkl (fun k hk => by rw [List.mem_singleton] at hk; omega)
        have hle := HL.out.le
        rw [HEI.out.1] at hle
        obtain ⟨d1, d2, d3⟩ := hle.done HV.out HCL.out.2.1
        have hac2 : acs = (leastM m (clF cs) (numC (clF cs) st) st).ac := by rw [HL.out.ac, HEI.out.1, List.take_length]; rfl
        have hm' : (⟨rs, acs⟩ : Mc) = leastM m (clF cs) (numC (clF cs) st) st := by rw [d1, hac2]
        have hww1 := HB1.out.size
        have hbf : Below w.heap.size w Wf := (HB1.out.trans (HB.out.mono HB1.out.size)).trans (hkl.below (fun k hk => by rw [List.mem_singleton] at hk; omega) (by omega))
        refine ⟨_, ⟨rs, acs⟩, rfl, hmk.up.mono hww1, hbf, .inl ⟨?_, by rw [hm']; exact d2, by rw [hm']; exact d3⟩, ?_, ?_⟩
        · by_cases hx : LiveS m 0
          · exact hx
          · exact absurd ((HCL.out.2.1.dead 0 (by rw [HN.out.1]; exact HN1.out)).2 hx) (HL.out.le.lv 0 (List.mem_of_getElem? HL.out.le.zero)).2
        · show rs.length ≤ _
          rw [d1]; unfold leastM; simp; exact HL.out.le.nodup
        · rw [hm']
          have hr : ∀ r ∈ (leastM m (clF cs) (numC (clF cs) st) st).ed, ∃ s ∈ st, r = renE (numC (clF cs) st) (joinF (clF cs) (rowM m s)) := fun r hr => by
            unfold leastM at hr
            obtain ⟨s, h1, h2⟩ := List.mem_map.1 hr
            exact ⟨s, h1, h2.symm⟩
          have hrm : ∀ s ∈ st, rowM m s ∈ m.ed := fun s hs => by
            obtain ⟨h1, -⟩ := HL.out.le.lv s hs
            unfold rowM; rw [List.getElem?_eq_getElem h1]; exact List.getElem_mem h1
          refine ⟨fun r h e he => ?_, fun r h => ?_, ?_⟩
          · obtain ⟨s, h1, rfl⟩ := hr r h
            unfold renE at he
            obtain ⟨f, h2, rfl⟩ := List.mem_map.1 he
            have := joinF_by (cls := clF cs) (HV.out.srt _ (hrm s h1)) (HSM.out.by_ _ (hrm s h1)) f h2
            exact ⟨this.1, this.2.1⟩
          · obtain ⟨s, h1, rfl⟩ := hr r h
            rw [renE_len]
            exact Nat.le_trans (joinF_len _ _) (HSM.out.rl _ (hrm s h1))
          · unfold leastM; simp
            have := HL.out.le.nodup
            have := HSM.out.n
            omega
end Go.Proofs.YtoaibhacognbjaaGreatDoor
