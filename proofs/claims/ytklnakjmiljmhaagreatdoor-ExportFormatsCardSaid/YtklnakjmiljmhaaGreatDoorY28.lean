/- Walks: all texts, by the reference. · Walk: messages that are valid. · What the code's Parse needs beside its walk: sizes of what is read, what stands between two rounds. · Walks: all texts, by the code. -/
import Derived.Test.YtklnakjmiljmhaaGreatDoorY25
import Derived.Test.YtklnakjmiljmhaaGreatDoorY27
import Derived.Test.YtklnakjmiljmhaaGreatDoorY01
import Derived.Test.YtklnakjmiljmhaaGreatDoorY26
import Derived.Test.YtklnakjmiljmhaaGreatDoorY11
import Derived.Test.YtklnakjmiljmhaaGreatDoorY02
import Derived.Test.YtklnakjmiljmhaaGreatDoorY20
import Derived.Test.YtklnakjmiljmhaaGreatDoorY23
namespace Go.Proofs.YtklnakjmiljmhaaGreatDoor
set_option linter.unusedVariables false
set_option linter.unusedSimpArgs false
set_option maxRecDepth 100000
open Go.RowKit
theorem encM_E : EncS encM 5 := ⟨by decide, fun x => rfl, fun x u hu => by
  simp [encM] at hu; rcases hu with rfl | rfl | rfl | rfl | rfl <;> rfl⟩
abbrev OM (B : Nat) (v : Value) (o : List Ms) (w : World) : Prop := OR 43 5 encM B v o w
theorem MC.of_own {B : Nat} {v : Value} {o : List Ms} {w : World} (h : OM B v o w) : MC v o w := by
  obtain ⟨A, c, rfl, hc, h⟩ := OR.cells encM_E h
  refine ⟨A, c, rfl, hc, h.imp id ?_⟩
  rintro ⟨g, rfl, -, hg, hcell⟩
  refine ⟨g, 0, rfl, hg, fun i hi => ?_⟩
  have q := fun j hj => (hcell i hi j hj).1
  refine ⟨?_, ?_, ?_, ?_, ?_⟩
  · rw [Nat.zero_add]; exact q 0 (by decide)
  · rw [Nat.zero_add]; exact q 1 (by decide)
  · rw [Nat.zero_add]; exact q 2 (by decide)
  · rw [Nat.zero_add]; exact q 3 (by decide)
  · rw [Nat.zero_add]; exact q 4 (by decide)
theorem info_msg : (Tryz.prog.info? 43).map (fun i => (i.zero, i.size, i.bytes)) = some (some (.agg #[.int .i64 0, .int .i64 0, .string ⟨#[]⟩, .int .i64 0, .string ⟨#[]⟩]), 5, 56) := by kernel_rfl
theorem keepM_drop {l : List Ms} {k : Nat} (h : k < l.length) : keepM (l.drop k) = (if (l[k]).kind = 3 then [] else [l[k]]) ++ keepM (l.drop (k + 1)) := by
  rw [List.drop_eq_getElem_cons h]
  unfold keepM
  rw [List.filter_cons]
  by_cases h3 : (l[k]).kind = 3
  · rw [if_neg (by simp [h3]), if_pos h3]; rfl
  · rw [if_pos (by simpa using h3), if_neg h3]; rfl
/-- What hands back a list of messages. -/
def MsPost (o : List Ms) (w : World) (e : Ending) (w' : World) : Prop := ∃ v, e = .returned v ∧ OM w.heap.size v o w' ∧ Below w.heap.size w w'
set_option maxHeartbeats 2000000 in
theorem texts_ref (v : Value) (l : List Ms) (w : World) (h : MC v l w) (hs : Small l) : Calls Tryz.prog 22 #[v] w (MsPost (textsM l) w) := by
  obtain ⟨i0, hi, hz0, hz1, hz2⟩ := info_parts info_msg
  have V := Lib.hid (valid_ref17 v l w h hs)
  have hl := hs.1
  have H := Lib.hid h
  clear hs
  by_cases h0 : errM l = 0
  · rw [h0] at V
    have HT := Lib.hid (show textsM l = keepM l by unfold textsM; rw [if_pos h0])
    clear h0
    obtain ⟨A, c, rfl, hc, -⟩ := h
    go_enter Tryz.func22, Tryz.ntmps22
    go_wp2_with fail
    refine V.out.mono ?_
    rintro e w0 ⟨rfl, hb0⟩
    obtain ⟨A', c', hv, -, hcell⟩ := H.out
    injection hv with hv1 hv2 hv3
    rw [← hv1] at hcell
    have HC := Lib.hid hcell
    clear hcell hv1 hv2 hv3 V H
    go_wp2_with fail
    go_loopw [3, 4] (fun v i wr => ∃ (k : Nat) (o : List Ms), k ≤ l.length ∧ i = .int .i64 (k : Int) ∧ OM w.heap.size v o wr ∧ o.length ≤ k ∧ Below w.heap.size w wr ∧ Hid (o ++ keepM (l.drop k) = keepM l)) (fun _ i _ => l.length - (intOf i).toNat)
    case atStart => exact ⟨0, [], by omega, rfl, OR.nil_ _ _ _, by simp, hb0, rfl⟩
    case round =>
      obtain ⟨k, o, hk, rfl, hown, ho, hbel, HR⟩ := hrel
      by_cases hlt : k < l.length
      · have hd : decide ((k : Int) < (l.length : Int)) = true := decide_eq_true (by omega)
        have hdn : decide (k < l.length) = true := decide_eq_true hlt
        obtain ⟨g, ff, rfl, hg, hcs⟩ := HC.out.resolve_left (by intro e; rw [e] at hlt; simp at hlt)
        obtain ⟨a0, a1, a2, a3, a4⟩ := (hcs k hlt).later (hbel.block g hg)
        have HD := Lib.hid (show o ++ ((if (l[k]).kind = 3 then [] else [l[k]]) ++ keepM (l.drop (k + 1))) = keepM l by rw [← keepM_drop hlt]; exact HR.out)
        clear hcs
        obtain ⟨m, hm⟩ : ∃ m, l[k] = m := ⟨_, rfl⟩
        rw [hm] at a0 a1 a2 a3 a4 HD
        clear hm
        by_cases h3 : m.kind = 3
        · have d3 : (m.kind != 3) = false := by simpa using h3
          have HE := Lib.hid (show o ++ keepM (l.drop (k + 1)) = keepM l by rw [← HD.out, if_pos h3]; rfl)
          clear h3
          go_wp2_with fail
          go_roundw
          case rel => exact ⟨k + 1, o, by omega, by go_num, hown, by omega, hbel, HE⟩
          case measure => simp [intOf]; omega
        · have d3 : (m.kind != 3) = true := by simpa using h3
          have HE := Lib.hid (show (o ++ [m]) ++ keepM (l.drop (k + 1)) = keepM l by rw [← HD.out, if_neg h3, List.append_assoc])
          clear h3
          go_wp2_with (at_builtin; refine app_one encM_E Tryz.underlying30 hi hz0 hz1 hz2 rfl (by decide) _ _ _ _ o m _ w.heap.size rfl rfl rfl rfl rfl hown (by omega) hbel.size ?_; intro v1 w1 hown1 hb1)
          go_roundw
          case rel => exact ⟨k + 1, o ++ [m], by omega, by go_num, hown1, by simp; omega, hbel.trans hb1, HE⟩
          case measure => simp [intOf]; omega
      · obtain rfl : k = l.length := by omega
        have hd : decide ((l.length : Int) < (l.length : Int)) = false := decide_eq_false (by omega)
        have hdn : decide (l.length < l.length) = false := decide_eq_false (by omega)
        have HE := Lib.hid (show o = textsM l by rw [HT.out, ← HR.out, List.drop_length]; simp [keepM])
        go_wp2_with fail
        go_ret
        exact ⟨_, rfl, HE.out ▸ hown, hbel⟩
  · have hne : (errM l != 0) = true := by simpa using h0
    have HT := Lib.hid (show textsM l = [] by unfold textsM; rw [if_neg h0])
    clear h0
    generalize errM l = x at *
    go_enter Tryz.func22, Tryz.ntmps22
    go_wp2_with fail
    refine V.out.mono ?_
    rintro e w0 ⟨rfl, hb0⟩
    go_wp2_with fail
    go_ret
    exact ⟨_, rfl, by rw [HT.out]; exact OR.nil_ _ _ _, hb0⟩
end Go.Proofs.YtklnakjmiljmhaaGreatDoor
namespace Go.Proofs.YtklnakjmiljmhaaGreatDoor
set_option linter.unusedVariables false
set_option linter.unusedSimpArgs false
set_option maxRecDepth 100000
open Go.RowKit
open Go.Maps (Keyed)
def MakePost (b : Nat) (w : World) (e : Ending) (w' : World) : Prop := ∃ u l B, e = .returned u ∧ OM B u l w' ∧ errM l = 0 ∧ l.length ≤ 6 ∧ (∀ m ∈ l, m.text.length ≤ 60) ∧ TapeOK b w' ∧ Fr b w w'
/-- The cells of a message that was made. -/
def msgRow (next : Nat) (tm : Int) (q : Nat) (l : List UInt8) : Obj := .cells #[.int .i64 1, .int .i64 (next : Int), .string (nmF q), .int .i64 tm, .string (bs l)] 43 (0, 0)
def msgZero : Obj := .cells #[.int .i64 0, .int .i64 0, .string ByteArray.empty, .int .i64 0, .string ByteArray.empty] 43 (0, 0)
/-- The facts of the region that makes a message: what each operation has left. -/
def fact8 (b : Nat) (W : World) (next : Nat) (tm : Int) (kv : Value) (f : Nat → Bool) : Nat → Value → World → Prop
  | 0, x, _ => x = .int .i64 (next : Int)
  | 1, x, w => ∃ g, x = .slice (some ⟨g, 0, none⟩) 2 2 ∧ W.heap.size ≤ g ∧ (f 15 = false → ∀ j, j < 2 → w.cell? ⟨g, j, none⟩ = some (.string (nmF j)))
  | 2, x, _ => x = .pointer (some ⟨b, 0, none⟩)
  | 3, x, _ => ∃ q : Nat, q < 2 ∧ x = .int .i64 (q : Int)
  | 4, x, w => ∃ g q, q < 2 ∧ x = .pointer (some ⟨g, q, none⟩) ∧ W.heap.size ≤ g ∧ (f 15 = false → w.cell? ⟨g, q, none⟩ = some (.string (nmF q)))
  | 5, x, _ => ∃ q, x = .string (nmF q)
  | 6, x, _ => x = .int .i64 tm
  | 7, x, _ => x = .pointer (some ⟨b, 0, none⟩)
  | 8, x, _ => x = kv
  | 9, x, _ => x = .pointer (some ⟨b, 0, none⟩)
  | 10, x, _ => ∃ z : Nat, z < 3 ∧ x = .int .i64 (z : Int)
  | 11, x, w => ∃ l : List UInt8, l.length ≤ 60 ∧ (f 15 = false → OB 5 W.heap.size x l w)
  | 12, x, _ => ∃ l : List UInt8, l.length ≤ 60 ∧ x = .string (bs l)
  | 13, x, _ => ∃ (q : Nat) (l : List UInt8), l.length ≤ 60 ∧ x = .agg #[.int .i64 1, .int .i64 (next : Int), .string (nmF q), .int .i64 tm, .string (bs l)]
  | 14, x, w => ∃ p, x = .pointer (some ⟨p, 0, none⟩) ∧ W.heap.size ≤ p ∧ (f 15 = false → w.heap[p]? = some msgZero) ∧ (f 15 = true → ∃ (q : Nat) (l : List UInt8), l.length ≤ 60 ∧ w.heap[p]? = some (msgRow next tm q l))
  | _, _, _ => True
/-- A message is stored into a block. -/
theorem st5 {w : World} {p : Nat} (h : w.heap[p]? = some msgZero) (next q : Nat) (tm : Int) (l : List UInt8) :
    (storeCells ⟨p, 0, none⟩ [.int .i64 1, .int .i64 (next : Int), .string (nmF q), .int .i64 tm, .string (bs l)] 0).run Tryz.prog w = .ok () (w.setRow p #[.int .i64 1, .int .i64 (next : Int), .string (nmF q), .int .i64 tm, .string (bs l)]) :=
  run_storeCells_from p _ [.int .i64 1, .int .i64 (next : Int), .string (nmF q), .int .i64 tm, .string (bs l)] 0 _ w h (by rfl) (by intro v hv; simp at hv; rcases hv with rfl | rfl | rfl | rfl | rfl <;> rfl)
theorem upI_ne (f : Nat → Bool) {i j : Nat} (h : j ≠ i) : upI f i j = f j := by unfold upI; rw [if_neg h]
theorem fact8_later {b : Nat} {W w w' : World} {next : Nat} {tm : Int} {kv : Value} {f : Nat → Bool} {i : Nat} (hi : i ≠ 15) (hb : b < W.heap.size) (hf : Fr b w w') : ∀ (j : Nat) (x : Value), fact8 b W next tm kv f j x w → fact8 b W next tm kv (upI f i) j x w' := by
  have h15 : upI f i 15 = f 15 := upI_ne f (Ne.symm hi)
  have hc : ∀ (g j : Nat) (v : Value), W.heap.size ≤ g → w.cell? ⟨g, j, none⟩ = some v → w'.cell? ⟨g, j, none⟩ = some v := fun g j v hg h =>
    (World.cell?_of_block (a := ⟨g, j, none⟩) (hf.block g (World.block_lt_of_cell? _ _ h) (by intro e; injection e; omega))).trans h
  have hr : ∀ (g : Nat) (o : Obj), W.heap.size ≤ g → w.heap[g]? = some o → w'.heap[g]? = some o := fun g o hg h =>
    (hf.block g (Array.getElem?_eq_some_iff.1 h).1 (by intro e; injection e; omega)).trans h
  intro j x h
  match j with
  | 0 | 2 | 3 | 5 | 6 | 7 | 8 | 9 | 10 | 12 | 13 => exact h
  | 1 =>
    obtain ⟨g, e, hg, hx⟩ := h
    exact ⟨g, e, hg, fun h0 j hj => hc g j _ hg (hx (h15 ▸ h0) j hj)⟩
  | 4 =>
    obtain ⟨g, q, hq, e, hg, hx⟩ := h
    exact ⟨g, q, hq, e, hg, fun h0 => hc g q _ hg (hx (h15 ▸ h0))⟩
  | 11 =>
    obtain ⟨l, hl, hx⟩ := h
    exact ⟨l, hl, fun h0 => (hx (h15 ▸ h0)).fr hf hb⟩
  | 14 =>
    obtain ⟨p, e, hp, h1, h2⟩ := h
    exact ⟨p, e, hp, fun h0 => hr p _ hp (h1 (h15 ▸ h0)), fun h0 => by
      obtain ⟨q, l, hl, hx⟩ := h2 (h15 ▸ h0)
      exact ⟨q, l, hl, hr p _ hp hx⟩⟩
  | _ + 15 => exact trivial
theorem msg_cells {w : World} {p next q : Nat} {tm : Int} {l : List UInt8} (h : w.heap[p]? = some (msgRow next tm q l)) :
    (w.cell? ⟨p, 0, none⟩ = some (.int .i64 1) ∧ w.cell? ⟨p, 1, none⟩ = some (.int .i64 (next : Int)) ∧ w.cell? ⟨p, 2, none⟩ = some (.string (nmF q)) ∧ w.cell? ⟨p, 3, none⟩ = some (.int .i64 tm) ∧ w.cell? ⟨p, 4, none⟩ = some (.string (bs l))) ∧ ∀ j, w.frozen? ⟨p, j, none⟩ = false := by
  refine ⟨⟨?_, ?_, ?_, ?_, ?_⟩, fun j => by simp [World.frozen?, h, msgRow]⟩ <;> (rw [cell_of_row _ _ _ _ _ _ h]; rfl)
theorem OM.fr {B b : Nat} {v : Value} {o : List Ms} {w w1 : World} (h : OM B v o w) (hf : Fr b w w1) (hB : b < B) : OM B v o w1 :=
  OR.keep h fun k hk => by
    have h1 := World.ownsRow.lt h k hk
    exact hf.block k h1.2 (by intro e; injection e; omega)
theorem msg_row {w : World} {p : Nat} {m : Ms} (h : w.heap[p]? = some (.cells (encM m).toArray 43 (0, 0))) :
    w.cell? ⟨p, 0, none⟩ = some (.int .i64 m.kind) ∧ w.cell? ⟨p, 1, none⟩ = some (.int .i64 m.id) ∧ w.cell? ⟨p, 2, none⟩ = some (.string (bs m.who)) ∧ w.cell? ⟨p, 3, none⟩ = some (.int .i64 m.time) ∧ w.cell? ⟨p, 4, none⟩ = some (.string (bs m.text)) := by
  refine ⟨?_, ?_, ?_, ?_, ?_⟩ <;> (rw [cell_of_row _ _ _ _ _ _ h]; rfl)
theorem row_two {w : World} {p next q : Nat} {tm : Int} {l : List UInt8} (h : w.heap[p]? = some (msgRow next tm q l)) (id kd : Int) :
    ((w.setCell ⟨p, 1, none⟩ (.int .i64 id)).setCell ⟨p, 0, none⟩ (.int .i64 kd)).heap[p]? = some (.cells (encM ⟨kd, id, bl (nmF q), tm, l⟩).toArray 43 (0, 0)) := set_row_at (set_row_at h 1 _) 0 _
theorem row_three {w : World} {p next q : Nat} {tm : Int} {l : List UInt8} (h : w.heap[p]? = some (msgRow next tm q l)) (id : Int) :
    (((w.setCell ⟨p, 1, none⟩ (.int .i64 id)).setCell ⟨p, 0, none⟩ (.int .i64 3)).setCell ⟨p, 4, none⟩ (.string ⟨#[]⟩)).heap[p]? = some (.cells (encM ⟨3, id, bl (nmF q), tm, []⟩).toArray 43 (0, 0)) := set_row_at (set_row_at (set_row_at h 1 _) 0 _) 4 _
theorem says_true {o : Option Bool} (h : (o.map Value.bool).getD (.bool false) = .bool true) : o = some true := by
  cases o with
  | none => cases h
  | some b => injection h with h; rw [h]
theorem says_same {F : Lit → Option Value} {f : Int → Option Bool} {x : Int} (h : SaysB F f) (hx : f x = some true) : SaysB F (upd f x (some true)) := by
  have : upd f x (some true) = f := by
    funext y
    unfold upd
    by_cases e : y = x
    · rw [if_pos e, e, hx]
    · rw [if_neg e]
  rw [this]; exact h
/-- A block that was made since may be written. -/
theorem fr_map {b K : Nat} {w w1 w2 : World} (h : Fr b w w1) (hg : w1.grownBy w2 (some K)) (hK : w.heap.size ≤ K := by omega) : Fr b w w2 :=
  ⟨hg.os.trans h.os, hg.tape.trans h.tape, hg.output.trans h.output, Nat.le_trans h.size hg.size, fun k hk hne => (hg.block k (Nat.lt_of_lt_of_le hk h.size) (by intro e; injection e; omega)).trans (h.block k hk hne)⟩
/-- Behind the store. -/
theorem fact8_store {b : Nat} {W w : World} {next : Nat} {tm : Int} {kv : Value} {f : Nat → Bool} {p q : Nat} {l6 : List UInt8} (hl : l6.length ≤ 60) (hz : w.heap[p]? = some msgZero) : ∀ (j : Nat) (x : Value), j ≠ 15 → (j = 14 → x = .pointer (some ⟨p, 0, none⟩)) → fact8 b W next tm kv f j x w → fact8 b W next tm kv (upI f 15) j x (w.setRow p #[.int .i64 1, .int .i64 (next : Int), .string (nmF q), .int .i64 tm, .string (bs l6)]) := by
  have h15 : upI f 15 15 ≠ false := by intro h; cases h
  intro j x hj hx h
  match j with
  | 0 | 2 | 3 | 5 | 6 | 7 | 8 | 9 | 10 | 12 | 13 => exact h
  | 1 =>
    obtain ⟨g, e, hg, -⟩ := h
    exact ⟨g, e, hg, fun h0 => absurd h0 h15⟩
  | 4 =>
    obtain ⟨g, q, hq, e, hg, -⟩ := h
    exact ⟨g, q, hq, e, hg, fun h0 => absurd h0 h15⟩
  | 11 =>
    obtain ⟨l, hl, -⟩ := h
    exact ⟨l, hl, fun h0 => absurd h0 h15⟩
  | 14 =>
    obtain ⟨p', e, hp, -, -⟩ := h
    have e2 := hx rfl
    rw [e] at e2
    injection e2 with e2
    injection e2 with e2
    injection e2 with e2
    subst e2
    exact ⟨p', e, hp, fun h0 => absurd h0 h15, fun _ => ⟨q, l6, hl, setRow_heap _ _ _ _ _ _ hz⟩⟩
  | 15 => exact absurd rfl hj
  | _ + 16 => exact trivial
set_option maxHeartbeats 8000000 in
theorem messages_any (b : Nat) (v : Value) (w : World) (hk : KnV b w v) (ht : TapeOK b w) : Calls Tryz.prog 9 #[.pointer (some ⟨b, 0, none⟩), v] w (MakePost b w) := by
  have hbs := ht.lt
  have hks := hk
  obtain ⟨g0, f0, n0, c0, U0, rfl, -⟩ := hks
  have HKN := Lib.hid hk
  clear hk
  have hmm := @run_makeMap Tryz.prog
  have K : Keyed Tryz.prog 3 := Maps.int_keyed Tryz.underlying3
  have hz : ∀ w, (zeroValue 4).run Tryz.prog w = .ok (.bool false) w := fun _ => by kernel_rfl
  go_enter Tryz.func9, Tryz.ntmps9
  go_wp2_with fail
  have hb1 : Below w.heap.size w (w.alloc (.map #[] 0)) := (Below.refl _ _).alloc (Nat.le_refl _) _
  refine (next_any b 5 _ (by omega) (by omega) (ht.below hb1)).mono ?_
  rintro e w1 ⟨t0, rfl, ht00, ht01, ht1, hf1⟩
  have hmv1 : MV Tryz.prog 3 w.heap.size 0 (fun _ => none) w1 := (MV.made Tryz.prog 3 w).kept (hf1.block _ (by simp) (by intro e; injection e; omega))
  have hfw1 : Fr b w w1 := (Fr.of_below hb1).trans hf1
  clear hf1 hb1 hmm
  go_wp2_with fail
  refine (next_any b 7 _ (by omega) (by omega) ht1).mono ?_
  rintro e w2 ⟨r, rfl, hr0, hr1, ht2, hf2⟩
  have hmv2 := hmv1.kept (hf2.block _ hmv1.lt (by intro e; injection e; omega))
  have hfw2 := hfw1.trans hf2
  obtain ⟨rn, hrn⟩ : ∃ rn : Nat, r = (rn : Int) := ⟨r.toNat, by omega⟩
  subst hrn
  have hwsz : w.heap.size < w2.heap.size := hmv2.lt
  clear hmv1 hfw1 ht1 hf2 ht
  go_wp2_with fail
  go_loopw [5, 7, 8, 9] (fun v nx nw i wr => ∃ (k : Nat) (o : List Ms) (next : Nat) (now : Int) (F : Lit → Option Value) (n : Nat), k ≤ rn ∧ i = .int .i64 (k : Int) ∧ nx = .int .i64 (next : Int) ∧ nw = .int .i64 now ∧ k + o.length = rn ∧ 1 ≤ next ∧ next ≤ o.length + 1 ∧ 0 ≤ now ∧ now ≤ 4 + 2 * (o.length : Int) ∧ OM w2.heap.size v o wr ∧ GoodM o next now ∧ MV Tryz.prog 3 w.heap.size n F wr ∧ n ≤ o.length ∧ Hid (SaysB F (endF o (fun _ => none))) ∧ TapeOK b wr ∧ Below w2.heap.size w2 w2 ∧ Fr b w wr ∧ w2.heap.size ≤ wr.heap.size ∧ (∀ m ∈ o, m.text.length ≤ 60)) (fun _ _ _ i _ => (intOf i).toNat)
  case atStart => exact ⟨rn, [], 1, t0, fun _ => none, 0, Nat.le_refl _, rfl, rfl, rfl, by simp, by omega, by simp, by omega, by simp; omega, OR.nil_ _ _ _, GoodM.nil _ _, hmv2, by simp, fun _ => rfl, ht2, Below.refl _ _, hfw2, Nat.le_refl _, by simp⟩
  case round =>
    obtain ⟨k, o, next, now, F, n, hk, rfl, rfl, rfl, hko, hx1, hx2, hn0, hn1, hown, hgood, hmv, hn, hsays, htr, -, hfr, hsz, htx⟩ := hrel
    by_cases hlt : 0 < k
    · have hd : decide ((0 : Int) < (k : Int)) = true := decide_eq_true (by omega)
      have hdn : decide (0 < k) = true := decide_eq_true hlt
      have H0 := Lib.hid (And.intro hown (And.intro hgood (And.intro hmv (And.intro hsays (And.intro htr (And.intro hfr htx))))))
      clear hown hgood hmv htr hfr htx hsays
      go_upto_region 7 with fail
      go_cut [8] from 21 to 69 (fun v wx => ∃ r : Int, v = .int .i64 (now + r) ∧ 0 ≤ r ∧ r < 3 ∧ TapeOK b wx ∧ Fr b wr wx)
      case first =>
        go_wp2_with fail
        refine (next_any b 3 _ (by omega) (by omega) H0.out.2.2.2.2.1).mono ?_
        rintro e w3 ⟨r, rfl, r0, r1, ht3, hf3⟩
        have hw3 : IntKind.i64.wrap (now + r) = now + r := IntWalk.i64_in _ (by omega)
        go_wp2_with fail
        go_meet
        exact ⟨r, rfl, r0, r1, ht3, hf3⟩
      case rest =>
        obtain ⟨r, rfl, r0, r1, ht3, hf3⟩ := hcut
        obtain ⟨W3, hW3⟩ : ∃ W3 : World, W3 = wc := ⟨_, rfl⟩
        rw [← hW3] at ht3 hf3 ⊢
        clear hW3
        apply_assumption
        go_upto_region 8 with fail
        have hbW : b < W3.heap.size := ht3.lt
        have hf3w : Fr b w W3 := H0.out.2.2.2.2.2.1.trans hf3
        obtain ⟨tm, htm⟩ : ∃ tm : Int, tm = now + r := ⟨_, rfl⟩
        rw [← htm]
        have HTM := Lib.hid htm
        clear htm
        refine wp_region_facts (fact8 b W3 next tm (.slice (some ⟨g0, f0, none⟩) n0 c0)) (fun _ w' => TapeOK b w' ∧ Fr b W3 w') (by kernel_rfl) (by kernel_rfl) (by kernel_rfl) ⟨ht3.below (Below.refl _ _).drew, (Fr.refl _ _).drew⟩ ?_ ?_
        · refine FSteps.cons ?_ (FSteps.cons ?_ (FSteps.cons ?_ (FSteps.cons ?_ (FSteps.cons ?_ (FSteps.cons ?_ (FSteps.cons ?_ (FSteps.cons ?_ (FSteps.cons ?_ (FSteps.cons ?_ (FSteps.cons ?_ (FSteps.cons ?_ (FSteps.cons ?_ (FSteps.cons ?_ (FSteps.cons ?_ (FSteps.cons ?_ FSteps.nil)))))))))))))))
          all_goals (intro f v w0 h0 hpre hE hF hcl hU hS K hK; simp only [putAll, Act.put, List.setIfInBounds_toArray, List.set_cons_zero, List.set_cons_succ, Nat.zero_add, Nat.reduceAdd] at hK ⊢)
          · go_wp2_with fail
            exact hK.out _ _ hS (fun j _ _ h => fact8_later (by decide) hbW (Fr.refl _ _) j _ h) rfl
          · go_wp2_with fail
            have hb1 : Below w0.heap.size w0 (w0.alloc (.cells #[.string ⟨#[97, 110, 110]⟩, .string ⟨#[98, 111, 98]⟩] 9)) := (Below.refl _ _).alloc (Nat.le_refl _) _
            exact hK.out _ _ ⟨hS.1.below hb1, hS.2.trans (Fr.of_below hb1)⟩ (fun j _ _ h => fact8_later (by decide) hbW (Fr.of_below hb1) j _ h) ⟨w0.heap.size, rfl, hS.2.size, fun _ => nm_new w0 _⟩
          · go_wp2_with fail
            exact hK.out _ _ hS (fun j _ _ h => fact8_later (by decide) hbW (Fr.refl _ _) j _ h) rfl
          · have e2 : v 2 = _ := hE.1 rfl
            rw [e2] at hK ⊢
            go_wp2_with fail
            refine (next_any b 2 _ (by omega) (by omega) hS.1).mono ?_
            rintro e w1 ⟨q, rfl, q0, q1, htN, hfN⟩
            go_wp2_with fail
            exact hK.out _ _ ⟨htN, hS.2.trans hfN⟩ (fun j _ _ h => fact8_later (by decide) hbW hfN j _ h) ⟨q.toNat, by omega, by rw [Int.toNat_of_nonneg q0]⟩
          · have h15 := closed_not hcl 5 15 4 (by kernel_rfl) h0
            obtain ⟨g, e1, hg, hc⟩ := hE.1 rfl
            obtain ⟨q, hq, e3⟩ := hE.2.1 rfl
            rw [e1, e3] at hK ⊢
            have hq0 : (0 : Int) ≤ (q : Int) := by omega
            have hq1 : (q : Int) < 2 := by omega
            have hqn : (q : Int).toNat = q := by omega
            go_wp2_with fail
            exact hK.out _ _ hS (fun j _ _ h => fact8_later (by decide) hbW (Fr.refl _ _) j _ h) ⟨g, q, hq, rfl, hg, fun _ => hc h15 q hq⟩
          · have h15 := closed_not hcl 5 15 5 (by kernel_rfl) h0
            obtain ⟨g, q, hq, e4, hg, hc⟩ := hE.1 rfl
            have hc5 := hc h15
            rw [e4] at hK ⊢
            go_wp2_with fail
            exact hK.out _ _ hS (fun j _ _ h => fact8_later (by decide) hbW (Fr.refl _ _) j _ h) ⟨q, rfl⟩
          · go_wp2_with fail
            exact hK.out _ _ hS (fun j _ _ h => fact8_later (by decide) hbW (Fr.refl _ _) j _ h) rfl
          · go_wp2_with fail
            exact hK.out _ _ hS (fun j _ _ h => fact8_later (by decide) hbW (Fr.refl _ _) j _ h) rfl
          · go_wp2_with fail
            exact hK.out _ _ hS (fun j _ _ h => fact8_later (by decide) hbW (Fr.refl _ _) j _ h) rfl
          · go_wp2_with fail
            exact hK.out _ _ hS (fun j _ _ h => fact8_later (by decide) hbW (Fr.refl _ _) j _ h) rfl
          · have e9 : v 9 = _ := hE.1 rfl
            rw [e9] at hK ⊢
            go_wp2_with fail
            refine (next_any b 3 _ (by omega) (by omega) hS.1).mono ?_
            rintro e w1 ⟨q, rfl, q0, q1, htN, hfN⟩
            go_wp2_with fail
            exact hK.out _ _ ⟨htN, hS.2.trans hfN⟩ (fun j _ _ h => fact8_later (by decide) hbW hfN j _ h) ⟨q.toNat, by omega, by rw [Int.toNat_of_nonneg q0]⟩
          · have e7 : v 7 = _ := hE.1 rfl
            have e8 : v 8 = _ := hE.2.1 rfl
            obtain ⟨z, hz, e10⟩ := hE.2.2.1 rfl
            rw [e7, e8, e10] at hK ⊢
            go_wp2_with fail
            refine (text_any b z _ _ (HKN.out.later (Stay.of_fr (hf3w.trans hS.2))) (by omega) hS.1).mono ?_
            rintro e w1 ⟨v6, l6, rfl, hl6, hv6, htN, hfN⟩
            go_wp2_with fail
            exact hK.out _ _ ⟨htN, hS.2.trans hfN⟩ (fun j _ _ h => fact8_later (by decide) hbW hfN j _ h) ⟨l6, by omega, fun _ => hv6.mono hS.2.size⟩
          · have h15 := closed_not hcl 5 15 12 (by kernel_rfl) h0
            obtain ⟨l6, hl6, ho⟩ := hE.1 rfl
            obtain ⟨A6, n6, c6, e6⟩ := (ho h15).slice
            have ho' := ho h15
            rw [e6] at hK ho' ⊢
            have hcv := ho'.conv (P := Tryz.prog) (T := 23) (d := 9) Tryz.underlying23 Tryz.underlying5 Tryz.underlying9
            go_wp2_with fail
            exact hK.out _ _ hS (fun j _ _ h => fact8_later (by decide) hbW (Fr.refl _ _) j _ h) ⟨l6, hl6, rfl⟩
          · have e0 : v 0 = _ := hE.1 rfl
            obtain ⟨q, e5⟩ := hE.2.1 rfl
            have e6 : v 6 = _ := hE.2.2.1 rfl
            obtain ⟨l6, hl6, e12⟩ := hE.2.2.2.1 rfl
            rw [e0, e5, e6, e12] at hK ⊢
            go_wp2_with fail
            exact hK.out _ _ hS (fun j _ _ h => fact8_later (by decide) hbW (Fr.refl _ _) j _ h) ⟨q, l6, hl6, rfl⟩
          · have h15 := closed_not hcl 5 15 14 (by kernel_rfl) h0
            go_wp2_with fail
            have hb1 : Below w0.heap.size w0 (w0.alloc (.cells #[.int .i64 0, .int .i64 0, .string ⟨#[]⟩, .int .i64 0, .string ⟨#[]⟩] 43)) := (Below.refl _ _).alloc (Nat.le_refl _) _
            exact hK.out _ _ ⟨hS.1.below hb1, hS.2.trans (Fr.of_below hb1)⟩ (fun j _ _ h => fact8_later (by decide) hbW (Fr.of_below hb1) j _ h) ⟨w0.heap.size, rfl, hS.2.size, fun _ => heap_alloc_new w0 _, fun h => by rw [upI_ne f (by decide), h15] at h; cases h⟩
          · obtain ⟨q, l6, hl6, e13⟩ := hE.2.1 rfl
            obtain ⟨p, e14, hp, hz, -⟩ := hE.1 rfl
            have hzr : w0.heap[p]? = some msgZero := hz h0
            have hst := st5 hzr next q tm l6
            rw [e13, e14] at hK ⊢
            have hpw : p < w0.heap.size := (Array.getElem?_eq_some_iff.1 hzr).1
            have HZ := Lib.hid hzr
            simp [go_sem] at hst
            clear hzr hz hE hF
            go_wp2_with fail
            exact hK.out undef _ ⟨tape_row hS.1 (by omega), fr_row hS.2 hp⟩ (fun j hj hfj h => fact8_store hl6 HZ.out j _ hj (by rintro rfl; exact e14) h) trivial
        · intro f v w' hall hF hS
          obtain ⟨p, e14, hp, -, hc⟩ := hF 14 (by decide)
          obtain ⟨q, l6, hl6, hrow⟩ := hc (hall 15 (by decide))
          simp only [putAll, Act.put, List.setIfInBounds_toArray, List.set_cons_zero, List.set_cons_succ, Nat.zero_add, Nat.reduceAdd]
          rw [e14]
          have hbp : b < p := by omega
          have H8 := Lib.hid (And.intro hrow (And.intro hS.1 (And.intro hS.2 (And.intro hl6 HTM.out))))
          clear hF hall hc hrow hS e14 HTM
          obtain ⟨W8, hW8⟩ : ∃ W8 : World, W8 = w' := ⟨_, rfl⟩
          rw [← hW8] at H8 ⊢
          clear hW8
          apply_assumption
          have hwn : IntKind.i64.wrap ((next : Int) + 1) = (next : Int) + 1 := IntWalk.i64_in _ (by omega)
          go_wp2_with fail
          refine (next_any b ((next : Int) + 1) _ (by omega) (by omega) H8.out.2.1).mono ?_
          rintro e w9 ⟨old, rfl, d0, d1, ht9, hf9⟩
          have H9 := Lib.hid (And.intro (KR.step H8.out.1 hf9 hbp) (And.intro ht9 (And.intro (H8.out.2.2.1.trans hf9) H8.out.2.2.2)))
          have hmv9 := (H0.out.2.2.1.kept ((hf3.trans (H8.out.2.2.1.trans hf9)).block _ H0.out.2.2.1.lt (by intro e; injection e; omega)))
          clear ht9 hf9 H8
          have hlk := hmv9.look K Tryz.underlying54 hz (key_int Tryz.underlying3 old (by omega) (by omega)) trivial
          rw [H0.out.2.2.2.1.out old] at hlk
          obtain ⟨tb, htb⟩ : ∃ tb : Bool, ((endF o (fun _ => none) old).map Value.bool).getD (.bool false) = .bool tb := by
            cases endF o (fun _ => none) old with
            | none => exact ⟨false, rfl⟩
            | some b => exact ⟨b, rfl⟩
          have HTB := Lib.hid htb
          rw [htb] at hlk
          clear htb
          have hrow9 := H9.out.1
          go_upto_region 10 with fail
          go_cut [50] from 21 to 69 (fun v wx => ∃ t : Bool, v = .bool t ∧ Hid (t = true → tb = true) ∧ TapeOK b wx ∧ Fr b w9 wx)
          case first =>
            cases tb with
            | true =>
              go_wp2_with fail
              refine (next_any b 3 _ (by omega) (by omega) H9.out.2.1).mono ?_
              rintro e w10 ⟨z, rfl, z0, z1, ht10, hf10⟩
              go_wp2_with fail
              go_meet
              exact ⟨decide (0 < z), rfl, (by first | exact trivial | exact fun _ => trivial | exact fun _ => rfl), ht10, hf10⟩
            | false =>
              go_wp2_with fail
              go_meet
              exact ⟨false, rfl, fun h => (by cases h), H9.out.2.1, Fr.refl _ _⟩
          case rest =>
            obtain ⟨t, rfl, htt, ht10, hf10⟩ := hcut
            obtain ⟨W10, hW10⟩ : ∃ W10 : World, W10 = wc := ⟨_, rfl⟩
            rw [← hW10] at ht10 hf10 ⊢
            clear hW10
            have hrow10 := KR.step hrow9 hf10 hbp
            have hmv10 := hmv9.kept (hf10.block _ hmv9.lt (by intro e; injection e; omega))
            have hfx10 := H9.out.2.2.1.trans hf10
            have hfw10 := (H0.out.2.2.2.2.2.1.trans hf3).trans hfx10
            have hpw2 : w2.heap.size ≤ p := by have h1 := H0.out.2.2.2.2.2.1.size; have h2 := hf3.size; omega
            have hpk : p < W10.heap.size := (Array.getElem?_eq_some_iff.1 hrow10).1
            have hown10 := OM.fr H0.out.1 (hf3.trans hfx10) (by omega)
            have hl6' := H9.out.2.2.2.1
            have hok : ∀ q, u5.ownBlock = some q → w2.heap.size ≤ q ∧ q < p := fun q hq => by
              have h1 := World.ownsRow.lt H0.out.1 q hq
              have h2 := hf3.size
              omega
            have HOK := Lib.hid hok
            clear hok
            have H10 := Lib.hid (And.intro hown10 (And.intro H0.out.2.1 (And.intro H0.out.2.2.2.1 (And.intro ht10 (And.intro hfw10 (And.intro H0.out.2.2.2.2.2.2 H9.out.2.2.2.2))))))
            have HB := Lib.hid hmv10
            clear hrow9 hlk hmv9 H9 H0 ht10 hf10 hfx10 hfw10 hown10 hmv10 hf3w ht3 hf3
            apply_assumption
            go_cut [7] from 21 to 69 (fun nx wx => ∃ (m : Ms) (next' n' : Nat) (F' : Lit → Option Value), nx = .int .i64 (next' : Int) ∧ Hid (wx.heap[p]? = some (.cells (encM m).toArray 43 (0, 0)) ∧ GoodM (o ++ [m]) next' tm ∧ MV Tryz.prog 3 w.heap.size n' F' wx ∧ SaysB F' (endF (o ++ [m]) (fun _ => none)) ∧ TapeOK b wx ∧ Fr b w wx ∧ OM w2.heap.size u5 o wx ∧ m.text.length ≤ 60) ∧ 1 ≤ next' ∧ next' ≤ next + 1 ∧ n' ≤ n + 1)
            case first =>
              cases t with
              | true =>
                have htb := htt.out rfl
                subst htb
                go_wp2_with fail
                refine (between_any b 2 3 _ (by omega) (by omega) (by omega) (by omega) H10.out.2.2.2.1).mono ?_
                rintro e w11 ⟨z, rfl, z0, z1, ht11, hf11⟩
                have hrow11 := KR.step hrow10 hf11 hbp
                obtain ⟨⟨c0', c1', c2', c3', c4'⟩, hfz⟩ := msg_cells hrow11
                have f0' := hfz 0
                have f1' := hfz 1
                have f4' := hfz 4
                clear hfz
                have H11 := Lib.hid (And.intro hrow11 (And.intro ht11 (And.intro hf11 (HB.out.kept (hf11.block _ HB.out.lt (by intro e; injection e; omega))))))
                clear hrow11 ht11 hf11 hrow10
                have hz23 : z = 2 ∨ z = 3 := by omega
                clear z0 z1
                rcases hz23 with rfl | rfl
                · go_wp2_with fail
                  go_meet
                  have HE1 := says_true HTB.out
                  refine ⟨⟨2, old, bl (nmF q), tm, l6⟩, next, n, F, rfl, ⟨row_two H11.out.1 old 2, ?_, H11.out.2.2.2.kept ?_, ?_, tape_set (tape_set H11.out.2.1 hbp) hbp, fr_set (fr_set (H10.out.2.2.2.2.1.trans H11.out.2.2.1) (by omega)) (by omega), ?_, hl6'⟩, by omega, by omega, by omega⟩
                  · obtain ⟨h1, h2⟩ := H10.out.2.1.known old (by rw [HE1]; simp)
                    have h3 := H10.out.2.2.2.2.2.2
                    exact H10.out.2.1.turn _ (by dsimp only; omega) HE1 rfl (by omega) (by omega) (wrong_made (by omega) (by omega) h1 (by omega) (who_nm q) (fun h => by omega)) hl6'
                  · rw [Below.heap_setCell _ _ _ _ (by dsimp only; omega), Below.heap_setCell _ _ _ _ (by dsimp only; omega)]
                  · rw [endF_snoc]
                    exact says_same H10.out.2.2.1 HE1
                  · refine OR.keep (OM.fr H10.out.1 H11.out.2.2.1 (by omega)) fun q' hq' => ?_
                    have h4 := HOK.out q' hq'
                    rw [Below.heap_setCell _ _ _ _ (by dsimp only; omega), Below.heap_setCell _ _ _ _ (by dsimp only; omega)]
                · have hmvs : MV Tryz.prog 3 w.heap.size n F (((w11.setCell ⟨p, 1, none⟩ (.int .i64 old)).setCell ⟨p, 0, none⟩ (.int .i64 3)).setCell ⟨p, 4, none⟩ (.string ⟨#[]⟩)) := by
                    refine H11.out.2.2.2.kept ?_
                    rw [Below.heap_setCell _ _ _ _ (by dsimp only; omega), Below.heap_setCell _ _ _ _ (by dsimp only; omega), Below.heap_setCell _ _ _ _ (by dsimp only; omega)]
                  have hkl := key_int (P := Tryz.prog) Tryz.underlying3 old (by omega) (by omega)
                  have hnm : n < maxLen := by unfold maxLen; omega
                  go_wp2_with (at_mapUpdate; refine wpList_put_MV _ rfl _ _ _ 54 rfl 3 4 K Tryz.underlying54 w.heap.size n F rfl hmvs hnm _ _ _ rfl rfl hkl trivial ?_; intro w12 hmv12 hgr12)
                  go_meet
                  have HE1 := says_true HTB.out
                  refine ⟨⟨3, old, bl (nmF q), tm, []⟩, next, n + 1, _, rfl, ⟨?_, ?_, hmv12, ?_, ?_, ?_, ?_, by simp⟩, by omega, by omega, by omega⟩
                  · rw [hgr12.block p (by simp [World.setCell]; have := H11.out.2.2.1.size; omega) (by intro e; injection e; omega)]
                    exact row_three H11.out.1 old
                  · obtain ⟨h1, h2⟩ := H10.out.2.1.known old (by rw [HE1]; simp)
                    have h3 := H10.out.2.2.2.2.2.2
                    exact H10.out.2.1.turn _ (by dsimp only; omega) HE1 rfl (by omega) (by omega) (wrong_made (by omega) (by omega) h1 (by omega) (who_nm q) (fun _ => rfl)) (by simp)
                  · rw [endF_snoc]
                    exact H10.out.2.2.1.put old false
                  · refine TapeOK.keep (tape_set (tape_set (tape_set H11.out.2.1 hbp) hbp) hbp) fun q' hq' => hgr12.block q' ?_ (by intro e; injection e; omega)
                    simp [World.setCell]; have := H11.out.2.2.1.size; omega
                  · exact fr_map (fr_set (fr_set (fr_set (H10.out.2.2.2.2.1.trans H11.out.2.2.1) (by omega)) (by omega)) (by omega)) hgr12
                  · refine OR.keep (OM.fr H10.out.1 H11.out.2.2.1 (by omega)) fun q' hq' => ?_
                    have h4 := HOK.out q' hq'
                    have h5 := H11.out.2.2.1.size
                    rw [hgr12.block q' (by simp [World.setCell]; omega) (by intro e; injection e; omega), Below.heap_setCell _ _ _ _ (by dsimp only; omega), Below.heap_setCell _ _ _ _ (by dsimp only; omega), Below.heap_setCell _ _ _ _ (by dsimp only; omega)]
              | false =>
                have hkl := key_int (P := Tryz.prog) Tryz.underlying3 (next : Int) (by omega) (by omega)
                have hnm : n < maxLen := by unfold maxLen; omega
                have hwn : IntKind.i64.wrap ((next : Int) + 1) = (next : Int) + 1 := IntWalk.i64_in _ (by omega)
                have hmvs := HB.out
                go_wp2_with (at_mapUpdate; refine wpList_put_MV _ rfl _ _ _ 54 rfl 3 4 K Tryz.underlying54 w.heap.size n F rfl hmvs hnm _ _ _ rfl rfl hkl trivial ?_; intro w12 hmv12 hgr12)
                go_meet
                refine ⟨⟨1, next, bl (nmF q), tm, l6⟩, next + 1, n + 1, _, by go_num, ⟨?_, ?_, hmv12, ?_, ?_, ?_, ?_, hl6'⟩, by omega, by omega, by omega⟩
                · rw [hgr12.block p hpk (by intro e; injection e; omega)]
                  exact hrow10
                · have h3 := H10.out.2.2.2.2.2.2
                  exact H10.out.2.1.post _ rfl rfl (by omega) rfl (by omega) (by omega) (wrong_made (by omega) (by omega) (by omega) (by omega) (who_nm q) (fun h => by omega)) hl6'
                · rw [endF_snoc]
                  exact H10.out.2.2.1.put (next : Int) true
                · exact TapeOK.keep H10.out.2.2.2.1 fun q' hq' => hgr12.block q' (by omega) (by intro e; injection e; omega)
                · exact fr_map H10.out.2.2.2.2.1 hgr12
                · refine OR.keep H10.out.1 fun q' hq' => ?_
                  have h4 := HOK.out q' hq'
                  exact hgr12.block q' (by omega) (by intro e; injection e; omega)
            case rest =>
              obtain ⟨m, next', n', F', rfl, HM, hx1', hx2', hn'⟩ := hcut
              obtain ⟨W12, hW12⟩ : ∃ W12 : World, W12 = wc := ⟨_, rfl⟩
              rw [← hW12] at HM ⊢
              clear hW12
              obtain ⟨i0, hi, hj0, hj1, hj2⟩ := info_parts info_msg
              have hrow12 := HM.out.1
              obtain ⟨k0, k1, k2, k3, k4⟩ := msg_row hrow12
              have hsz12 : w2.heap.size ≤ W12.heap.size := by have := (Array.getElem?_eq_some_iff.1 hrow12).1; omega
              have hown12 := HM.out.2.2.2.2.2.2.1
              have hw1 : IntKind.i64.wrap ((k : Int) - 1) = (k : Int) - 1 := IntWalk.i64_in _ (by omega)
              have hol : o.length ≤ 1000 := by omega
              clear hrow12
              apply_assumption
              go_wp2_with (at_builtin; refine app_one encM_E Tryz.underlying30 hi hj0 hj1 hj2 rfl (by omega) _ _ _ _ _ m _ _ rfl rfl rfl rfl rfl hown12 (by omega) hsz12 ?_; intro v13 w13 hown13 hb13)
              go_roundw
              case rel =>
                have hbl : w.heap.size < w2.heap.size := hwsz
                refine ⟨k - 1, o ++ [m], next', tm, F', n', by omega, by go_num, rfl, rfl, by simp; omega, hx1', by simp; omega, ?_, ?_, hown13, HM.out.2.1, HM.out.2.2.1.kept (hb13.block _ (by omega)), by simp; omega, HM.out.2.2.2.1, ?_, Below.refl _ _, ?_, ?_, ?_⟩
                · have := H10.out.2.2.2.2.2.2; omega
                · have := H10.out.2.2.2.2.2.2; simp; omega
                · exact HM.out.2.2.2.2.1.below' hb13 (by omega)
                · exact HM.out.2.2.2.2.2.1.then (hb13.mono (by omega))
                · exact Nat.le_trans hsz12 hb13.size
                · intro x hx
                  rcases List.mem_append.1 hx with h | h
                  · exact H10.out.2.2.2.2.2.1 x h
                  · rw [List.mem_singleton.1 h]; exact HM.out.2.2.2.2.2.2.2
              case measure => simp [intOf]; omega
    · obtain rfl : k = 0 := by omega
      have H0 := Lib.hid (And.intro hown (And.intro hgood (And.intro htr (And.intro hfr htx))))
      clear hown hgood hmv htr hfr htx hsays
      go_wp2_with fail
      go_ret
      obtain ⟨hown, hgood, htr, hfr, htx⟩ := H0.out
      exact ⟨_, o, _, rfl, hown, hgood.err (by omega) (by omega), by omega, htx, htr, hfr⟩
end Go.Proofs.YtklnakjmiljmhaaGreatDoor
namespace Go.Proofs.YtklnakjmiljmhaaGreatDoor
set_option linter.unusedVariables false
set_option linter.unusedSimpArgs false
set_option maxRecDepth 100000
open Go.RowKit
theorem escO_bd : ∀ (n : Nat) (l o x : List UInt8), l.length ≤ n → decEsc l o = some x → x.length ≤ o.length + l.length := by
  intro n
  induction n with
  | zero =>
    intro l o x hl h
    have : l = [] := List.length_eq_zero_iff.1 (by omega)
    subst this
    rw [decEsc] at h; cases h; simp
  | succ n ih =>
    intro l o x hl h
    match l with
    | [] => rw [decEsc] at h; cases h; simp
    | c :: r =>
      simp only [List.length_cons] at hl ⊢
      by_cases hc : c = 92
      · subst hc
        match r with
        | [] => rw [decEsc_end] at h; cases h
        | d :: r' =>
          simp only [List.length_cons] at hl ⊢
          rw [decEsc_esc] at h
          unfold escO at h
          split at h
          · have := ih r' _ x (by omega) h; simp at this; omega
          · split at h
            · have := ih r' _ x (by omega) h; simp at this; omega
            · split at h
              · have := ih r' _ x (by omega) h; simp at this; omega
              · split at h
                · have := ih r' _ x (by omega) h; simp at this; omega
                · split at h
                  · split at h
                    · cases h
                    · have := ih (r'.drop 2) _ x (by rw [List.length_drop]; omega) h
                      rw [List.length_drop] at this; simp at this; omega
                  · cases h
      · rw [decEsc_own c r o hc] at h
        have := ih r _ x (by omega) h; simp at this; omega
theorem textF_bd {e x : List UInt8} (h : textF e = some x) : x.length ≤ e.length := by
  unfold textF at h
  split at h
  · cases h
  · have := escO_bd _ e [] x (Nat.le_refl _) h; simpa using this
theorem lineC_bd {s : List UInt8} {m : Ms} (h : lineC s = some m) : m.who.length ≤ s.length ∧ m.text.length ≤ s.length := by
  unfold lineC at h
  have hm := fun x (hx : x ∈ Lib.splitN s [32] 5) => splitN_mem hx
  generalize Lib.splitN s [32] 5 = ws at h hm
  unfold lineW at h
  split at h
  · split at h
    · cases h; exact ⟨hm _ (by simp), by simp⟩
    · cases h
  · split at h
    · next hx =>
      cases h
      exact ⟨hm _ (by simp), Nat.le_trans (textF_bd hx) (hm _ (by simp))⟩
    · cases h
  · cases h
theorem readG_app : ∀ (a b : List (List UInt8)) (o : List Ms), readG (a ++ b) o = (readG a o).bind (readG b)
  | [], b, o => rfl
  | x :: a, b, o => by
    rw [List.cons_append, readG, readG]
    cases lineC (chopN x) with
    | none => rfl
    | some m =>
      simp only
      split
      · rfl
      · exact readG_app a b _
/-- What is read is small. -/
def SmO (o : List Ms) : Prop := o.length ≤ 300 ∧ ∀ m ∈ o, m.who.length ≤ 1000000 ∧ m.text.length ≤ 1000000
theorem SmO.small {o : List Ms} (h : SmO o) : Small o := ⟨by have := h.1; omega, h.2⟩
theorem SmO.snoc {o : List Ms} {m : Ms} (h : SmO o) (h3 : ¬ o.length = 300) (h1 : m.who.length ≤ 1000000) (h2 : m.text.length ≤ 1000000) : SmO (o ++ [m]) := by
  refine ⟨by have := h.1; simp; omega, fun x hx => ?_⟩
  rcases List.mem_append.1 hx with hx | hx
  · exact h.2 x hx
  · simp at hx; subst hx; exact ⟨h1, h2⟩
def parseE (l : List UInt8) : Int := if 524288 < l.length then 3 else match parseM l with | none => 10 | some _ => 0
def parseO (l : List UInt8) : List Ms := if 524288 < l.length then [] else (parseM l).getD []
def PsPost (l : List UInt8) (w : World) (e : Ending) (w' : World) : Prop := ∃ v, e = .returned (.tuple #[v, .int .i64 (parseE l)]) ∧ OM w.heap.size v (parseO l) w' ∧ Below w.heap.size w w'
/-- 'out = append(out, x)' of one struct, in a round. -/
theorem app_oneIn {α : Type} {enc : α → List Value} {n : Nat} {F : Fence} {m : Nat} (E : EncS enc n) {P : Program} {T e : TypeId} {i0 : TypeInfo} {z : Value} {by_ : Nat} (ht : P.underlying T = some (.slice e)) (hi : P.info? e = some i0) (hz0 : i0.zero = some z) (hz1 : i0.size = n) (hz2 : i0.bytes = by_) (hzs : z.cells.size = n) (hby : by_ ≤ 1000)
    {w : World} {ops : Array Oper} {rest : List Oper} {op : Oper} {a : Act} {Q : Exit → Act → World → Prop} (s x : Operand) (v : Value) (c : Nat) (o : List α) (r : α) (cs : Array Value) (B g : Nat) (hgw : g = w.heap.size)
    (hgd : op.guard = none) (ho : op.op = .call { callee := .builtin .append, args := #[s, x], argTypes := #[T, T] })
    (hs : a.eval s = v) (hx : a.eval x = .slice (some ⟨g, 0, none⟩) 1 c) (hcs : cs = (enc r).toArray) (hown : OR e n enc B v o w) (hl : o.length ≤ 1000000) (hB : B ≤ w.heap.size)
    (h : ∀ v' w1, OR e n enc B v' (o ++ [r]) w1 → (w.alloc (.cells cs e)).grownBy w1 v.ownBlock → Below B w w1 → wpListIn F m P ops Q rest (a.put op.dst v') w1) :
    wpListIn F m P ops Q (op :: rest) a (w.alloc (.cells cs e)) := by
  subst hcs hgw
  refine wpListIn_append_own _ hgd s x T ho B e i0 z n by_ ht hi hz0 hz1 hz2 hzs E.pos v o.length _ hs (World.ownsRow.alloc hown _) ⟨w.heap.size, 0, none⟩ 1 c (enc r) hx (by rw [E.len]; omega) ?_ (E.one r) (by unfold maxLen; omega) ?_ (by simp; omega) ?_
  · intro j u hj
    rw [Addr.add_lit, Nat.zero_add, World.cell?_alloc_mark]
    simpa using hj
  · have : (o.length + 1) * by_ ≤ (o.length + 1) * 1000 := Nat.mul_le_mul_left _ hby
    omega
  · intro v' w1 hown1 hg _
    refine h v' w1 ?_ hg (((Below.refl B w).alloc hB (.cells (enc r).toArray e)).grown hg (by simp; omega) (fun k hk => (World.ownsRow.lt hown k hk).1))
    show w1.ownsRow B e n v' (o ++ [r]).length (rowF enc (o ++ [r]))
    rw [rowF_app, rowF_single, List.length_append]; exact hown1
theorem BIn.conv {P : Program} {T e d : TypeId} {B n c : Nat} {A : Option Addr} {l : List UInt8} {w : World} (h : BIn B w (.slice A n c) l) (hs : P.underlying T = some (.slice e)) (he : P.underlying e = some (.int .u8)) (hd : P.underlying d = some .string) :
    (convert T d (.slice A n c)).run P w = .ok (.string (bs l)) w := by
  obtain ⟨A', n', c', hv, hn, -, hcell⟩ := h
  injection hv with h1 h2 h3
  subst h1 h2 h3 hn
  rcases hcell with h0 | ⟨ad, rfl, -, hc⟩
  · have : l = [] := List.length_eq_zero_iff.1 h0
    subst this
    cases A with
    | none => exact run_convert_bytes_nil w T e hs he _ _ d hd
    | some ad => exact run_convert_bytes_back w T d e ad c [] hs he hd (fun j hj => by simp at hj)
  · exact run_convert_bytes_back w T d e ad c l hs he hd hc
theorem equalB_any (v u : Value) (x y : List UInt8) (w : World) (hx : (convert 23 9 v).run Tryz.prog w = .ok (.string (bs x)) w) (hy : (convert 23 9 u).run Tryz.prog w = .ok (.string (bs y)) w) :
    Calls Tryz.prog 33 #[v, u] w fun e w' => e = .returned (.bool (x == y)) ∧ w = w' := by
  go_enter Tryz.func33, Tryz.ntmps33
  go_wp2
  go_ret
  exact ⟨ret_bool (by rw [toList_bs', toList_bs']), rfl⟩
end Go.Proofs.YtklnakjmiljmhaaGreatDoor
namespace Go.Proofs.YtklnakjmiljmhaaGreatDoor
set_option linter.unusedVariables false
set_option linter.unusedSimpArgs false
set_option maxRecDepth 100000
open Go.RowKit
theorem encM_get (m : Ms) (w : World) (g f : Nat) (h : MCell w g f m) : ∀ j < 5, w.cell? ⟨g, f + j, none⟩ = (encM m)[j]? := by
  obtain ⟨h0, h1, h2, h3, h4⟩ := h
  intro j hj
  have : j = 0 ∨ j = 1 ∨ j = 2 ∨ j = 3 ∨ j = 4 := by omega
  rcases this with rfl | rfl | rfl | rfl | rfl
  · exact h0
  · exact h1
  · exact h2
  · exact h3
  · exact h4
set_option maxHeartbeats 1000000 in
theorem clone_any (v : Value) (l : List Ms) (w : World) (h : MC v l w) (hl : l.length ≤ 100000) : Calls Tryz.prog 37 #[v] w (MsPost l w) := by
  obtain ⟨i0, hi, hz0, hz1, hz2⟩ := info_parts info_msg
  obtain ⟨A, c, rfl, hc, hcell⟩ := h
  have hnil := fun w => Lib.run_eql_slice_nil (P := Tryz.prog) w 30 43 A l.length c 0 0 Tryz.underlying30
  cases A with
  | none =>
    obtain rfl : l = [] := by
      rcases hcell with h | ⟨g, f, h, -⟩
      · exact h
      · cases h
    simp only [List.length_nil] at hnil
    go_enter Tryz.func37, Tryz.ntmps37
    go_wp2_with fail
    go_ret
    exact ⟨_, rfl, OR.nil_ _ _ _, Below.refl _ _⟩
  | some ad =>
    have HC := Lib.hid (show ∀ w1, Below w.heap.size w w1 → ∀ i (h : i < l.length), ∀ j < 5, w1.cell? (ad.add (i * 5 + j)) = (encM l[i])[j]? from fun w1 hb i hi j hj => by
      rcases hcell with h | ⟨g, f, h, hg, hm⟩
      · rw [h] at hi; simp at hi
      · injection h with h; subst h
        rw [Addr.add_lit, ← Nat.add_assoc]
        exact encM_get _ _ _ _ ((hm i hi).later (hb.block g hg)) j hj)
    clear hcell
    have h0 := OR.empty (enc := encM) (n := 5) 43 w
    have hb0 := (Below.refl w.heap.size w).alloc (Nat.le_refl _) (.cells #[] 43)
    go_enter Tryz.func37, Tryz.ntmps37
    go_wp2_with (at_builtin; refine app_at encM_E Tryz.underlying30 hi hz0 hz1 hz2 rfl (by decide) _ _ _ ad _ [] l w.heap.size rfl rfl rfl rfl h0 (HC.out _ hb0) (by simp) (by omega) (by simp) ?_; intro v1 w1 hown1 hb1)
    go_ret
    exact ⟨_, rfl, by simpa using hown1, hb0.trans hb1⟩
/-- 'is it a deletion'. -/
theorem dels_any (m : Ms) (w : World) : Calls Tryz.prog 38 #[.agg (encM m).toArray] w fun e w' => e = .returned (.bool (m.kind == 3)) ∧ Below w.heap.size w w' := by
  obtain ⟨kd, id, who, tm, tx⟩ := m
  unfold encM
  dsimp only
  go_enter Tryz.func38, Tryz.ntmps38
  go_wp2
  go_ret
  exact ⟨rfl, (Below.refl _ _).alloc (Nat.le_refl _) _⟩
end Go.Proofs.YtklnakjmiljmhaaGreatDoor
