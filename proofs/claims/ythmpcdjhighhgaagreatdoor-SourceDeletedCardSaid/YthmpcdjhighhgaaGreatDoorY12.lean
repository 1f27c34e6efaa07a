/- A strings.Builder whose buffer lies apart from what a round must keep; slices.Chunk as it is ranged over. -/
import Derived.RangeFuncNested
import Derived.RangeFuncBound
import Derived.RangeFuncCalls
import Derived.RangeFuncLeaves
import Derived.Shelf.Abstract
import Derived.Shelf.RegionOpen
import Derived.WalkKit
import Derived.OwnWalkIn
import Derived.TacticsInMore
import Derived.LoopNIn
import Derived.LoopIn
import Derived.Test.YthmpcdjhighhgaaGreatDoorY09
namespace Go.Proofs.YthmpcdjhighhgaaGreatDoor
set_option linter.unusedVariables false
set_option linter.unusedSimpArgs false
set_option maxRecDepth 100000
open Go.RowKit Go.Shelf
attribute [local go_sem] Oper.semAt_some
/-- What a call on a builder at b may change: b, blocks of cells from B on, new blocks. -/
structure Ch (b B : Nat) (w w' : World) : Prop where
  os : w'.os = w.os
  tape : w'.tape = w.tape
  output : w'.output = w.output
  low : ∀ k, k < B → k ≠ b → w'.heap[k]? = w.heap[k]?
  keeps : KeepsOthers w w'
theorem Ch.refl (b B : Nat) (w : World) : Ch b B w w := ⟨rfl, rfl, rfl, fun _ _ _ => rfl, KeepsOthers.refl _⟩
theorem Ch.trans {b B : Nat} {w w1 w2 : World} (h : Ch b B w w1) (h' : Ch b B w1 w2) : Ch b B w w2 :=
  ⟨h'.os.trans h.os, h'.tape.trans h.tape, h'.output.trans h.output, fun k hk hb => (h'.low k hk hb).trans (h.low k hk hb), h.keeps.trans h'.keeps⟩
theorem Ch.setCell (b B : Nat) (w : World) (o : Nat) (v : Value) : Ch b B w (w.setCell ⟨b, o, none⟩ v) :=
  ⟨rfl, rfl, rfl, fun _ _ hb => Below.heap_setCell _ _ _ _ hb, KeepsOthers.setCell _ _ _⟩
theorem Ch.alloc (b B : Nat) (w : World) (o : Obj) (hB : B ≤ w.heap.size) : Ch b B w (w.alloc o) :=
  ⟨rfl, rfl, rfl, fun k hk _ => Below.heap_alloc w o k (by omega), KeepsOthers.alloc _ _⟩
theorem Ch.grown {b B : Nat} {w w' : World} {row : Option Nat} (hg : w.grownBy w' row) (hB : B ≤ w.heap.size) (hr : ∀ r, row = some r → B ≤ r ∧ ∃ o, w.heap[r]? = some o ∧ o.isCells = true) : Ch b B w w' :=
  ⟨hg.os, hg.tape, hg.output, fun k hk _ => hg.block k (by omega) (fun e => by have := (hr k e.symm).1; omega), KeepsOthers.of_grownBy hg (fun j o hj ho => by obtain ⟨o', ho', hc⟩ := (hr j hj).2; rw [ho] at ho'; cases ho'; exact hc)⟩
theorem Ch.below {b B n : Nat} {w w' : World} (h : Ch b B w w') (h1 : n ≤ b) (h2 : n ≤ B) : Below n w w' :=
  ⟨h.os, h.tape, h.output, h.keeps.size, fun k hk => h.low k (by omega) (by omega)⟩
theorem own_cells {B e n k : Nat} {v : Value} {xs : List Value} {w : World} (h : w.ownsRow B e k v n xs) : ∀ r, v.ownBlock = some r → B ≤ r ∧ ∃ o, w.heap[r]? = some o ∧ o.isCells = true := by
  intro r hr
  rcases h.2 with ⟨h1, -⟩ | ⟨g, cap, cur, rfl, hb, hg, -⟩
  · subst h1; simp [Value.ownBlock] at hr
  · simp [Value.ownBlock] at hr; subst hr; exact ⟨hb, _, hg, rfl⟩
def BuC (b B : Nat) (l : List UInt8) (w : World) : Prop := b < B ∧ B ≤ w.heap.size ∧ ∃ p v, (p = .pointer none ∨ p = .pointer (some ⟨b, 0, none⟩)) ∧ w.heap[b]? = some (.cells #[p, v] 208 (0, 0)) ∧ w.ownsRow B 5 1 v (Lib.byteCells l).length (Lib.byteCells l)
theorem BuC.isB {b B : Nat} {l : List UInt8} {w : World} (h : BuC b B l w) : IsB b l w := by
  obtain ⟨h1, h2, p, v, hp, hb, ho⟩ := h
  have hne : v.ownBlock ≠ some b := fun e => by have := (own_cells ho b e).1; omega
  have ho' : w.ownsRow b 5 1 v (Lib.byteCells l).length (Lib.byteCells l) := by
    refine ⟨ho.1, ?_⟩
    rcases ho.2 with h3 | ⟨g, cap, cur, h3, h4, rest⟩
    · exact .inl h3
    · exact .inr ⟨g, cap, cur, h3, by omega, rest⟩
  rcases hp with rfl | rfl
  · exact ⟨.inl ⟨Nat.le_refl _, v, hb, ho', hne⟩, by omega⟩
  · exact ⟨.inr ⟨Nat.le_refl _, v, hb, ho', hne⟩, by omega⟩
theorem BuC.fresh {b B : Nat} {w : World} (h1 : b < B) (h2 : B ≤ w.heap.size) (hb : w.heap[b]? = some (.cells #[.pointer none, .slice none 0 0] 208 (0, 0))) : BuC b B [] w :=
  ⟨h1, h2, _, _, .inl rfl, hb, World.ownsRow_nil _ _ _ _⟩
theorem BuC.turn {b B : Nat} {l : List UInt8} {w w' : World} {row : Option Nat} (h : BuC b B l w) (hg : w.grownBy w' row) (hr : ∀ r, row = some r → ∃ o : Obj, w.heap[r]? = some o ∧ o.isCells = false) : BuC b B l w' := by
  obtain ⟨h1, h2, p, v, hp, hb, ho⟩ := h
  refine ⟨h1, Nat.le_trans h2 hg.size, p, v, hp, (grownBy_keeps_cells hg hr hb rfl).trans hb, ?_⟩
  refine World.ownsRow.kept ho hg ?_
  cases hv : v.ownBlock with
  | none => exact .inl rfl
  | some i =>
    refine .inr ?_
    intro e
    obtain ⟨o, ho1, hc1⟩ := (own_cells ho i hv).2
    obtain ⟨o2, ho2, hc2⟩ := hr i e.symm
    rw [ho1] at ho2; cases ho2; rw [hc1] at hc2; cases hc2
theorem copy_C (b B : Nat) (l : List UInt8) (w : World) (h : BuC b B l w) :
    Calls Tryz.prog 180 #[.pointer (some ⟨b, 0, none⟩)] w fun e w' => e = .returned (.tuple #[]) ∧ (∃ v, w'.heap[b]? = some (.cells #[.pointer (some ⟨b, 0, none⟩), v] 208 (0, 0)) ∧ w'.ownsRow B 5 1 v (Lib.byteCells l).length (Lib.byteCells l)) ∧ Ch b B w w' := by
  obtain ⟨h1, h2, p, v, hp, hb, ho⟩ := h
  rcases hp with rfl | rfl
  · refine (copy_fresh b w (by rw [Lib.cell_of_heap hb]; rfl) (by simp [World.shape?, hb]) (Lib.frozen_of_heap hb 0)).mono ?_
    rintro e w' ⟨rfl, rfl⟩
    refine ⟨rfl, ⟨v, by simp [World.setCell, Array.getElem?_modify, hb], ?_⟩, Ch.setCell _ _ _ _ _⟩
    exact World.ownsRow.kept (row := some b) ho ⟨rfl, rfl, rfl, by simp [World.setCell], fun k _ hk => Below.heap_setCell _ _ _ _ (fun e => hk (by simp [e]))⟩ (by
      cases hv : v.ownBlock with
      | none => exact .inl rfl
      | some i => exact .inr (by intro e; injection e with e; have := (own_cells ho i hv).1; omega))
  · refine (copy_used b w (by rw [Lib.cell_of_heap hb]; rfl)).mono ?_
    rintro e w' ⟨rfl, rfl⟩
    exact ⟨rfl, ⟨v, hb, ho⟩, Ch.refl _ _ _⟩
theorem byte_C (b B : Nat) (l : List UInt8) (c : Int) (u : UInt8) (hu : c = u.toNat) (w : World) (h : BuC b B l w) (hlen : l.length < 1000000000) :
    Calls Tryz.prog 194 #[.pointer (some ⟨b, 0, none⟩), .int .u8 c] w fun e w' => e = .returned .nilIface ∧ BuC b B (l ++ [u]) w' ∧ Ch b B w w' := by
  obtain ⟨i0, hi, hz0, hz1, hz2⟩ := info_parts info_u8
  have hbB := h.1
  have hBw := h.2.1
  have hbl : (Lib.byteCells l).length = l.length := Lib.byteCells_length l
  have Hbl := Lib.hid hbl; clear hbl
  have hx := Lib.hid (show Lib.byteCells l ++ [Value.int .u8 c] = Lib.byteCells (l ++ [u]) by subst hu; simp [Lib.byteCells])
  clear hu
  go_enter Tryz.func194, Tryz.ntmps194
  go_wp2_with (go_at_call 180; refine (copy_C b B _ _ h).mono ?_)
  rintro e w1 ⟨rfl, ⟨v, hbk, hown⟩, hb1⟩
  have hBw1 : B ≤ w1.heap.size := Nat.le_trans hBw hb1.keeps.size
  have c0 : w1.cell? ⟨b, 0, none⟩ = some (.pointer (some ⟨b, 0, none⟩)) := by rw [Lib.cell_of_heap hbk]; rfl
  have c1 : w1.cell? ⟨b, 1, none⟩ = some v := by rw [Lib.cell_of_heap hbk]; rfl
  go_wp2_with (at_builtin; refine wpList_append_own _ rfl _ _ 30 rfl B 5 i0 (.int .u8 0) 1 1 Tryz.underlying30 hi hz0 hz1 hz2 rfl (by decide) _ _ _ rfl (hown.alloc _) ⟨w1.heap.size, 0, none⟩ 1 1 [.int .u8 c] rfl rfl ?c1 ?c2 ?c3 ?c4 ?c5 ?_)
  case c1 =>
    intro j x hj
    match j, hj with
    | 0, hj => simp at hj; subst hj; simp [Addr.add]
  case c2 => intro x hx; simp at hx; subst hx; rfl
  case c3 => have := Hbl.out; unfold maxLen; omega
  case c4 => have := Hbl.out; omega
  case c5 => exact Nat.le_trans hBw1 ((Below.refl 0 w1).alloc (Nat.zero_le _) _).size
  intro v' w2 hown' hgrow _
  have hne : v.ownBlock ≠ some b := fun e => by have := (own_cells hown b e).1; omega
  have hgc : Ch b B (w1.alloc (.cells #[.int .u8 c] 5)) w2 := Ch.grown hgrow (by simp; omega) (fun r hr => by
    obtain ⟨h3, o, h4, h5⟩ := own_cells hown r hr
    exact ⟨h3, o, (Below.heap_alloc w1 _ r (Array.getElem?_eq_some_iff.1 h4).1).trans h4, h5⟩)
  have hb2 : w2.heap[b]? = some (.cells #[.pointer (some ⟨b, 0, none⟩), v] 208 (0, 0)) := by
    rw [hgrow.block b (by simp; omega) (fun e => hne e.symm), Lib.alloc_old w1 _ b (by omega)]
    exact hbk
  have d0 : w2.cell? ⟨b, 0, none⟩ = some (.pointer (some ⟨b, 0, none⟩)) := by rw [Lib.cell_of_heap hb2]; rfl
  have d1 : w2.cell? ⟨b, 1, none⟩ = some v := by rw [Lib.cell_of_heap hb2]; rfl
  have f1 : w2.frozen? ⟨b, 1, none⟩ = false := Lib.frozen_of_heap hb2 1
  obtain ⟨g, cap, rfl⟩ : ∃ g cap, v' = .slice (some ⟨g, 0, none⟩) ((Lib.byteCells l).length + 1) cap := by
    rcases hown'.2 with ⟨_, h0⟩ | ⟨g, cap, cur, hv, _⟩
    · omega
    · exact ⟨g, cap, hv⟩
  go_wp2
  go_ret
  have hch := (((hb1.trans (Ch.alloc b B w1 (.cells #[.int .u8 c] 5) hBw1)).trans hgc).trans (Ch.setCell b B w2 1 (.slice (some ⟨g, 0, none⟩) ((Lib.byteCells l).length + 1) cap)))
  have hx2 := hx.out
  have hl2 : (Lib.byteCells (l ++ [u])).length = (Lib.byteCells l).length + 1 := by rw [← hx2, List.length_append]; rfl
  refine ⟨rfl, ⟨hbB, Nat.le_trans hBw hch.keeps.size, .pointer (some ⟨b, 0, none⟩), .slice (some ⟨g, 0, none⟩) ((Lib.byteCells l).length + 1) cap, .inr rfl, ?_, ?_⟩, hch⟩
  · exact (by simp [World.setCell, Array.getElem?_modify, hb2] : (w2.setCell ⟨b, 1, none⟩ (.slice (some ⟨g, 0, none⟩) ((Lib.byteCells l).length + 1) cap)).heap[b]? = some (.cells #[.pointer (some ⟨b, 0, none⟩), .slice (some ⟨g, 0, none⟩) ((Lib.byteCells l).length + 1) cap] 208 (0, 0)))
  · rw [hl2, ← hx2]
    refine World.ownsRow.kept (row := some b) hown' ⟨rfl, rfl, rfl, by simp [World.setCell], fun k _ hk => Below.heap_setCell _ _ _ _ (fun e => hk (by simp [e]))⟩ (.inr ?_)
    intro e
    have := (own_cells hown' b e).1
    omega
/-- What a round over chunks keeps: the two boxes. -/
def KpC (s n : Nat) (W W' : World) : Prop := W'.heap[s]? = W.heap[s]? ∧ W'.heap[n]? = W.heap[n]?
theorem KpC.refl (s n : Nat) (W : World) : KpC s n W W := ⟨rfl, rfl⟩
theorem KpC.trans {s n : Nat} {A B C : World} (h : KpC s n A B) (k : KpC s n B C) : KpC s n A C := ⟨k.1.trans h.1, k.2.trans h.2⟩
theorem chunk_in (F : Fence) (n : Nat) (h54 : F.fn 107) (hro : F.round = none) (a : Option Addr) (len cap : Nat) (w : World) :
    CallsIn F n Tryz.prog 107 #[.slice a len cap, .int .i64 3] w fun e w' => e = .returned (.func (.func 167) #[] #[.pointer (some ⟨w.heap.size, 0, none⟩), .pointer (some ⟨w.heap.size + 1, 0, none⟩)]) ∧
      w' = (w.alloc (.cells #[.slice a len cap] 30)).alloc (.cells #[.int .i64 3] 3) := by
  refine callsIn_of_wp Tryz.func107 rfl h54 ?_ hro
  simp only [Tryz.ntmps107, List.size_toArray, List.length_cons, List.length_nil, Nat.reduceAdd, Nat.reduceSub, Array.replicate_succ, Array.replicate_zero, List.push_toArray, List.append_toArray, List.nil_append, List.cons_append]
  gi_wp2
  go_ret
  exact ⟨rfl, rfl⟩
set_option maxRecDepth 100000 in
set_option maxHeartbeats 2000000 in
theorem chunk1_in (F : Fence) (n : Nat) (h71 : F.fn 167) (hro : F.round = none) (hn : 1 ≤ n) (l s m : Nat) (ad : Addr) (len cap : Nat) (hlc : len ≤ cap) (hl : len ≤ 100000) (J Jx : List Nat → World → Prop)
    (hJa : ∀ pre (A : World), J pre A → J pre A.drew)
    (hY : ∀ pre x W, J pre W → pre.length < (len + 2) / 3 → YieldAt F (n - 1) Tryz.prog l #[.slice (some (ad.add (3 * x))) (min 3 (len - 3 * x)) (min 3 (len - 3 * x))] W fun e W' =>
      (e = .returned (.bool true) ∧ J (pre ++ [x]) W' ∧ KpC s m W W') ∨ (e = .returned (.bool false) ∧ Jx (pre ++ [x]) W'))
    (W : World) (hs : W.cell? ⟨s, 0, none⟩ = some (.slice (some ad) len cap)) (hm : W.cell? ⟨m, 0, none⟩ = some (.int .i64 3)) (h0 : J [] W) :
    CallsIn F n Tryz.prog 167 #[.func (.yield l) #[] #[], .pointer (some ⟨s, 0, none⟩), .pointer (some ⟨m, 0, none⟩)] W fun e W' => (∃ v, e = .returned v) ∧
      ((∃ ys, ys = List.range ((len + 2) / 3) ∧ J ys W') ∨ (∃ pre, True ∧ Jx pre W')) := by
  refine callsIn_of_wp Tryz.func167 rfl h71 ?_ hro
  simp only [Tryz.ntmps167, List.size_toArray, List.length_cons, List.length_nil, Nat.reduceAdd, Nat.reduceSub, Array.replicate_succ, Array.replicate_zero, List.push_toArray, List.append_toArray, List.nil_append, List.cons_append]
  gi_wp2
  gi_loopw [4] (fun i wr => ∃ k : Nat, 3 * k < len + 3 ∧ i = .int .i64 (3 * (k : Int)) ∧ J (List.range k) wr ∧ KpC s m W wr)
    (fun i _ => len - (intOf i).toNat)
  case atStart => exact ⟨0, by omega, rfl, h0, KpC.refl _ _ _⟩
  case round =>
    obtain ⟨k, hk, rfl, hJs, hkp⟩ := hrel
    have hs1 : wr.cell? ⟨s, 0, none⟩ = some (.slice (some ad) len cap) := (World.cell?_of_block hkp.1).trans hs
    have hm1 : wr.cell? ⟨m, 0, none⟩ = some (.int .i64 3) := (World.cell?_of_block hkp.2).trans hm
    by_cases hlt : 3 * k < len
    · have hd : decide (3 * (k : Int) < len) = true := decide_eq_true (by omega)
      obtain ⟨fn, tmps, assign, body, hy, hR⟩ := hY _ k wr.drew (hJa _ _ hJs) (by rw [List.length_range]; omega)
      have hmx : Tryz.prog.follows .mixedOrders = true := by kernel_rfl
      have e1 : (3 * (k : Int) + min 3 ((len - 3 * k : Nat) : Int)).toNat - 3 * k = min 3 (len - 3 * k) := by omega
      rw [← e1] at hy
      have hck : ¬ cap = 3 * k := by omega
      clear e1
      gi_wp2
      gi_region
      all_goals
        gi_wp2
        refine hR.mono ?_
        rintro e W3 (⟨rfl, hJ3, hk3⟩ | ⟨rfl, hJx3⟩)
        · have hm3 : W3.cell? ⟨m, 0, none⟩ = some (.int .i64 3) := (World.cell?_of_block hk3.2).trans hm1
          gi_wp2
          go_roundw
          case rel => exact ⟨k + 1, by omega, by go_num, by rw [List.range_succ]; exact hJ3, KpC.trans hkp hk3⟩
          case measure => simp [intOf]; omega
        · gi_wp2
          refine bodyPost_ret (results_none rfl _ _ _) rfl ?_
          exact ⟨⟨_, rfl⟩, .inr ⟨_, trivial, hJx3⟩⟩
    · have hd : decide (3 * (k : Int) < len) = false := decide_eq_false (by omega)
      have hkk : k = (len + 2) / 3 := by omega
      have HKK := Lib.hid hkk; clear hkk
      gi_wp2
      go_end0
      exact ⟨⟨_, rfl⟩, .inl ⟨_, by rw [HKK.out], hJs⟩⟩
end Go.Proofs.YthmpcdjhighhgaaGreatDoor
