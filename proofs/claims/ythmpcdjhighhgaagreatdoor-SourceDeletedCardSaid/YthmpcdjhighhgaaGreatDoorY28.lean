/- Walk: the lines of messages, by the reference. Conditions: not absurdly many messages. -/
import Derived.Test.YthmpcdjhighhgaaGreatDoorY07
import Derived.Test.YthmpcdjhighhgaaGreatDoorY27
import Derived.Test.YthmpcdjhighhgaaGreatDoorY19
import Derived.Test.YthmpcdjhighhgaaGreatDoorY23
import Derived.Test.YthmpcdjhighhgaaGreatDoorY08
import Derived.Test.YthmpcdjhighhgaaGreatDoorY17
import Derived.Test.YthmpcdjhighhgaaGreatDoorY16
namespace Go.Proofs.YthmpcdjhighhgaaGreatDoor
set_option linter.unusedVariables false
set_option linter.unusedSimpArgs false
set_option maxRecDepth 100000
open Go.RowKit
/-- A line's head: all in front of its text. -/
def headM (m : Ms) : List UInt8 := wordM m.kind ++ 32 :: (numL m.id ++ 32 :: (numL m.time ++ 32 :: m.who))
theorem lineM_head (m : Ms) : lineM m = headM m ++ tailM m := by unfold lineM headM; simp
theorem bl_app2 (a b : ByteArray) : bl (a ++ b) = bl a ++ bl b := by simp [bl]
/-- What the region that writes a line's head has left. -/
def factH (p B : Nat) (m : Ms) (ws si st sw : ByteArray) (vo : Value) (o : List UInt8) : Nat → Value → World → Prop
  | 0, x, _ => x = vo
  | 1, x, _ => x = .pointer (some ⟨p, 0, none⟩)
  | 2, x, _ => x = .int .i64 m.kind
  | 3, x, _ => x = .string ws
  | 4, x, _ => x = .string (ws ++ ⟨#[32]⟩)
  | 5, x, _ => x = .pointer (some ⟨p, 1, none⟩)
  | 6, x, _ => x = .int .i64 m.id
  | 7, x, _ => x = .string si
  | 8, x, _ => x = .string (ws ++ ⟨#[32]⟩ ++ si)
  | 9, x, _ => x = .string (ws ++ ⟨#[32]⟩ ++ si ++ ⟨#[32]⟩)
  | 10, x, _ => x = .pointer (some ⟨p, 3, none⟩)
  | 11, x, _ => x = .int .i64 m.time
  | 12, x, _ => x = .string st
  | 13, x, _ => x = .string (ws ++ ⟨#[32]⟩ ++ si ++ ⟨#[32]⟩ ++ st)
  | 14, x, _ => x = .string (ws ++ ⟨#[32]⟩ ++ si ++ ⟨#[32]⟩ ++ st ++ ⟨#[32]⟩)
  | 15, x, _ => x = .pointer (some ⟨p, 2, none⟩)
  | 16, x, _ => x = .string sw
  | 17, x, _ => x = .string (ws ++ ⟨#[32]⟩ ++ si ++ ⟨#[32]⟩ ++ st ++ ⟨#[32]⟩ ++ sw)
  | 18, x, w => OB 5 B x (o ++ bl (ws ++ ⟨#[32]⟩ ++ si ++ ⟨#[32]⟩ ++ st ++ ⟨#[32]⟩ ++ sw)) w
  | 19, x, w => OB 5 B x (o ++ bl (ws ++ ⟨#[32]⟩ ++ si ++ ⟨#[32]⟩ ++ st ++ ⟨#[32]⟩ ++ sw)) w
  | _, _, _ => True
theorem factH_later {p B : Nat} {m : Ms} {ws si st sw : ByteArray} {vo : Value} {o : List UInt8} {w w' : World} (hb : Below w.heap.size w w') : ∀ (j : Nat) (x : Value), factH p B m ws si st sw vo o j x w → factH p B m ws si st sw vo o j x w' := by
  intro j x h
  match j with
  | 0 | 1 | 2 | 3 | 4 | 5 | 6 | 7 | 8 | 9 | 10 | 11 | 12 | 13 | 14 | 15 | 16 | 17 => exact h
  | 18 => exact OB.below h hb
  | 19 => exact OB.below h hb
  | _ + 20 => exact trivial
theorem factH_eq {p B : Nat} {m : Ms} {ws si st sw : ByteArray} {vo : Value} {o : List UInt8} {w w' : World} : ∀ (j : Nat) (x : Value), j ≠ 18 → j ≠ 19 → factH p B m ws si st sw vo o j x w → factH p B m ws si st sw vo o j x w' := by
  intro j x h1 h2 h
  match j with
  | 0 | 1 | 2 | 3 | 4 | 5 | 6 | 7 | 8 | 9 | 10 | 11 | 12 | 13 | 14 | 15 | 16 | 17 => exact h
  | 18 => exact absurd rfl h1
  | 19 => exact absurd rfl h2
  | _ + 20 => exact trivial
/-- The message's cells, the row that grows, and what lies below. -/
def StH (p B : Nat) (m : Ms) (vo : Value) (o : List UInt8) (W : World) (f : Nat → Bool) (w : World) : Prop :=
  Below B W w ∧ w.heap[p]? = some (.cells (encM m).toArray 28 (0, 0)) ∧ (f 18 = false → OB 5 B vo o w)
theorem StH.step {p B : Nat} {m : Ms} {vo : Value} {o : List UInt8} {W : World} {f : Nat → Bool} {w w' : World} (h : StH p B m vo o W f w) (i : Nat) (hi : i ≠ 18) (hb : Below w.heap.size w w') (hB : B ≤ W.heap.size) : StH p B m vo o W (upI f i) w' :=
  ⟨h.1.trans (hb.mono (Nat.le_trans hB h.1.size)), (hb.block p (Array.getElem?_eq_some_iff.1 h.2.1).1).trans h.2.1, fun h0 => OB.below (h.2.2 (by rw [← h0]; unfold upI; rw [if_neg (Ne.symm hi)])) hb⟩
theorem StH.cells {p B : Nat} {m : Ms} {vo : Value} {o : List UInt8} {W : World} {f : Nat → Bool} {w : World} (h : StH p B m vo o W f w) :
    w.cell? ⟨p, 0, none⟩ = some (.int .i64 m.kind) ∧ w.cell? ⟨p, 1, none⟩ = some (.int .i64 m.id) ∧ w.cell? ⟨p, 2, none⟩ = some (.string (bs m.who)) ∧ w.cell? ⟨p, 3, none⟩ = some (.int .i64 m.time) ∧ w.cell? ⟨p, 4, none⟩ = some (.string (bs m.text)) := by
  refine ⟨?_, ?_, ?_, ?_, ?_⟩ <;> (rw [cell_of_row _ _ _ _ _ _ h.2.1]; rfl)
/-- What the region that writes a message's text has left. -/
def factT (B : Nat) (W : World) (p : Nat) (vo : Value) (o tx : List UInt8) (f : Nat → Bool) : Nat → Value → World → Prop
  | 0, x, _ => x = vo
  | 1, x, w => ∃ g, x = .slice (some ⟨g, 0, none⟩) 1 1 ∧ W.heap.size ≤ g ∧ (f 2 = false → w.heap[g]? = some (.cells #[.int .u8 32] 5 (0, 0)))
  | 2, x, w => f 7 = false → OB 5 B x (o ++ [32]) w
  | 3, x, _ => x = .pointer (some ⟨p, 4, none⟩)
  | 4, x, _ => x = .string (bs tx)
  | 5, x, w => ∃ g c, x = .slice (some ⟨g, 0, none⟩) (bs tx).size c ∧ (bs tx).size ≤ c ∧ W.heap.size ≤ g ∧ (f 7 = false → RB 5 g tx w)
  | 6, x, w => f 7 = false → OB 5 W.heap.size x (encF escE tx) w
  | 7, x, w => OB 5 B x (o ++ [32] ++ encF escE tx) w
  | 8, x, w => OB 5 B x (o ++ [32] ++ encF escE tx) w
  | _, _, _ => True
/-- All blocks of the region's own stay, and those below. -/
theorem factT_later {B : Nat} {W : World} {p : Nat} {vo : Value} {o tx : List UInt8} {f : Nat → Bool} {i : Nat} {w w' : World} (hi : i ≠ 2) (hi7 : i ≠ 7) (hb : Below w.heap.size w w') : ∀ (j : Nat) (x : Value), factT B W p vo o tx f j x w → factT B W p vo o tx (upI f i) j x w' := by
  have h2 : upI f i 2 = f 2 := by unfold upI; rw [if_neg (Ne.symm hi)]
  have h7 : upI f i 7 = f 7 := by unfold upI; rw [if_neg (Ne.symm hi7)]
  intro j x h
  match j with
  | 0 | 3 | 4 => exact h
  | 1 =>
    obtain ⟨g, e, hg, hx⟩ := h
    exact ⟨g, e, hg, fun h0 => (hb.block g (Array.getElem?_eq_some_iff.1 (hx (h2 ▸ h0))).1).trans (hx (h2 ▸ h0))⟩
  | 2 => exact fun h0 => OB.below (h (h7 ▸ h0)) hb
  | 5 =>
    obtain ⟨g, c, e, hc, hg, hx⟩ := h
    exact ⟨g, c, e, hc, hg, fun h0 => (hx (h7 ▸ h0)).keep (hb.block g (hx (h7 ▸ h0)).lt)⟩
  | 6 => exact fun h0 => OB.below (h (h7 ▸ h0)) hb
  | 7 => exact OB.below h hb
  | 8 => exact OB.below h hb
  | _ + 9 => exact trivial
/-- The row that grows is another block than those of the region's own. -/
theorem factT_grown {B : Nat} {W : World} {p : Nat} {vo : Value} {o tx : List UInt8} {f : Nat → Bool} {w w' : World} (hk : ∀ k, vo.ownBlock = some k → k < W.heap.size) (hg : w.grownBy w' vo.ownBlock) : ∀ (j : Nat) (x : Value), j ≠ 2 → j ≠ 7 → j ≠ 8 → factT B W p vo o tx f j x w → factT B W p vo o tx (upI f 2) j x w' := by
  have h7 : upI f 2 7 = f 7 := rfl
  intro j x h2 h7' h8 h
  match j with
  | 0 | 3 | 4 => exact h
  | 1 =>
    obtain ⟨g, e, hg, hx⟩ := h
    exact ⟨g, e, hg, fun h0 => by rw [show upI f 2 2 = true from rfl] at h0; cases h0⟩
  | 2 => exact absurd rfl h2
  | 5 =>
    obtain ⟨g, c, e, hc, hgw, hx⟩ := h
    exact ⟨g, c, e, hc, hgw, fun h0 => (hx (h7 ▸ h0)).keep (hg.block g (hx (h7 ▸ h0)).lt (fun e => by have := hk g e.symm; omega))⟩
  | 6 =>
    intro h0
    refine OB.keep (h (h7 ▸ h0)) fun k hk' => ?_
    have h1 := World.ownsRow.lt (h (h7 ▸ h0)) k hk'
    exact hg.block k h1.2 (fun e => by have := hk k e.symm; omega)
  | 7 => exact absurd rfl h7'
  | 8 => exact absurd rfl h8
  | _ + 9 => exact trivial
theorem factT_end {B : Nat} {W : World} {p : Nat} {vo : Value} {o tx : List UInt8} {f : Nat → Bool} {w w' : World} (h2 : f 2 = true) : ∀ (j : Nat) (x : Value), j ≠ 7 → j ≠ 8 → factT B W p vo o tx f j x w → factT B W p vo o tx (upI f 7) j x w' := by
  have h72 : upI f 7 2 ≠ false := by rw [show upI f 7 2 = f 2 from rfl, h2]; decide
  have h77 : upI f 7 7 ≠ false := by intro h; cases h
  intro j x h7 h8 h
  match j with
  | 0 | 3 | 4 => exact h
  | 1 =>
    obtain ⟨g, e, hg, -⟩ := h
    exact ⟨g, e, hg, fun h0 => absurd h0 h72⟩
  | 2 => exact fun h0 => absurd h0 h77
  | 5 =>
    obtain ⟨g, c, e, hc, hgw, -⟩ := h
    exact ⟨g, c, e, hc, hgw, fun h0 => absurd h0 h77⟩
  | 6 => exact fun h0 => absurd h0 h77
  | 7 => exact absurd rfl h7
  | 8 => exact absurd rfl h8
  | _ + 9 => exact trivial
/-- The message's cells, the row that grows, and what lies below. -/
def StT (p B : Nat) (m : Ms) (vo : Value) (o : List UInt8) (W0 W : World) (f : Nat → Bool) (w : World) : Prop :=
  Below B W0 w ∧ W.heap.size ≤ w.heap.size ∧ w.heap[p]? = some (.cells (encM m).toArray 28 (0, 0)) ∧ (f 2 = false → OB 5 B vo o w)
theorem StT.step {p B : Nat} {m : Ms} {vo : Value} {o : List UInt8} {W0 W : World} {f : Nat → Bool} {w w' : World} (h : StT p B m vo o W0 W f w) (i : Nat) (hi : i ≠ 2) (hb : Below w.heap.size w w') (hB : B ≤ W0.heap.size) : StT p B m vo o W0 W (upI f i) w' :=
  ⟨h.1.trans (hb.mono (Nat.le_trans hB h.1.size)), Nat.le_trans h.2.1 hb.size, (hb.block p (Array.getElem?_eq_some_iff.1 h.2.2.1).1).trans h.2.2.1, fun h0 => OB.below (h.2.2.2 (by rw [← h0]; unfold upI; rw [if_neg (Ne.symm hi)])) hb⟩
theorem fmtM_len2 : ∀ {l : List Ms}, sizeF l ≤ 65536 → (∀ m ∈ l, wrongM m = false) → (∀ m ∈ l, lateM m = false) → l.length ≤ 300 → (fmtM l).length ≤ 90000000
  | l, h1, h2, h3, h4 => by
    have : ∀ (r : List Ms), (∀ m ∈ r, wrongM m = false) → (∀ m ∈ r, lateM m = false) → (∀ m ∈ r, m.text.length ≤ 65536) → (fmtM r).length ≤ 270000 * r.length := by
      intro r
      induction r with
      | nil => intro _ _ _; simp [fmtM]
      | cons m r ih =>
        intro q1 q2 q3
        have h := ih (fun x hx => q1 x (by simp [hx])) (fun x hx => q2 x (by simp [hx])) (fun x hx => q3 x (by simp [hx]))
        obtain ⟨k1, k3, i1, i2, -, -, hwl, -⟩ := wrongM_no (q1 m (by simp))
        obtain ⟨t1, t2⟩ := lateM_no (q2 m (by simp))
        have hx := q3 m (by simp)
        obtain ⟨kd, id, who, tm, tx⟩ := m
        dsimp only at *
        obtain ⟨ni, rfl⟩ := Int.eq_ofNat_of_zero_le (show 0 ≤ id by omega)
        obtain ⟨nt, rfl⟩ := Int.eq_ofNat_of_zero_le t1
        have hl := line_len kd ni nt who tx (by omega) (by omega) hwl hx
        rw [fmtM, List.length_append, List.length_cons, List.length_cons]
        omega
    have := this l h2 h3 (fun m hm => Nat.le_trans (sizeF_mem hm) h1)
    omega
set_option maxHeartbeats 4000000 in
theorem format_ref (v : Value) (l : List Ms) (w : World) (h : MC v l w) (hs : Small l) : Calls Tryz.prog 5 #[v] w (FmPost l w) := by
  obtain ⟨i0, hi, hz0, hz1, hz2⟩ := info_parts info_u8
  have V := Lib.hid (valid_ref17 v l w h hs)
  have hl := hs.1
  have H := Lib.hid h
  clear hs
  by_cases h0 : errM l = 0
  · rw [h0] at V
    obtain ⟨p1, p2, p3, p4, -, -⟩ := errM_ok.1 h0
    have HF := Lib.hid (show fmtO l = fmtM l by unfold fmtO; rw [if_pos h0])
    have HE0 := Lib.hid h0
    have HP := Lib.hid (And.intro p2 (And.intro p3 p4))
    have hlen := Lib.hid (fmtM_len2 (l := l) p2 p3 p4 p1)
    clear h0 p2 p3 p4
    obtain ⟨A, c, rfl, hc, -⟩ := h
    go_enter Tryz.func5, Tryz.ntmps5
    go_wp2_with fail
    refine V.out.mono ?_
    rintro e w0 ⟨rfl, hb0⟩
    obtain ⟨A', c', hv, -, hcell⟩ := H.out
    injection hv with hv1 hv2 hv3
    rw [← hv1] at hcell
    have HC := Lib.hid hcell
    clear hcell hv1 hv2 hv3 V H
    go_wp2_with fail
    go_loopw [5, 6] (fun v i wr => ∃ (k : Nat) (o : List UInt8), k ≤ l.length ∧ i = .int .i64 (k : Int) ∧ OB 5 w.heap.size v o wr ∧ Below w.heap.size w wr ∧ Hid (o ++ fmtM (l.drop k) = fmtM l)) (fun _ i _ => l.length - (intOf i).toNat)
    case atStart => exact ⟨0, [], by omega, rfl, OB.nil_ _ _ _, hb0, rfl⟩
    case round =>
      obtain ⟨k, o, hk, rfl, hown, hbel, HR⟩ := hrel
      have hol : o.length ≤ 100000000 := by have h1 := congrArg List.length HR.out; rw [List.length_append] at h1; have := hlen.out; omega
      by_cases hlt : k < l.length
      · have hd : decide ((k : Int) < (l.length : Int)) = true := decide_eq_true (by omega)
        have hdn : decide (k < l.length) = true := decide_eq_true hlt
        obtain ⟨g, ff, rfl, hg, hcs⟩ := HC.out.resolve_left (by intro e; rw [e] at hlt; simp at hlt)
        obtain ⟨a0, a1, a2, a3, a4⟩ := (hcs k hlt).later (hbel.block g hg)
        have hw := HP.out.2.1 l[k] (List.getElem_mem hlt)
        have hla := HP.out.2.2 l[k] (List.getElem_mem hlt)
        have hsz := sizeF_mem (List.getElem_mem hlt)
        have hp2 := HP.out.1
        have HDR := Lib.hid (List.drop_eq_getElem_cons hlt)
        clear hcs
        obtain ⟨m, hm⟩ : ∃ m, l[k] = m := ⟨_, rfl⟩
        rw [hm] at a0 a1 a2 a3 a4 hw hla hsz HDR
        obtain ⟨k1, k3, i1, i2, -, -, hwl, hx3⟩ := wrongM_no hw
        obtain ⟨t1, t2⟩ := lateM_no hla
        clear hm hw hla
        obtain ⟨kd, id, who, tm, tx⟩ := m
        dsimp only at a0 a1 a2 a3 a4 k1 k3 i1 i2 hwl hx3 t1 t2 hsz
        obtain ⟨ni, rfl⟩ := Int.eq_ofNat_of_zero_le (show 0 ≤ id by omega)
        obtain ⟨nt, rfl⟩ := Int.eq_ofNat_of_zero_le t1
        have HN := Lib.hid (show o ++ (headM ⟨kd, (ni : Int), who, (nt : Int), tx⟩ ++ (tailM ⟨kd, (ni : Int), who, (nt : Int), tx⟩ ++ 10 :: fmtM (l.drop (k + 1)))) = fmtM l by
          rw [← HR.out, HDR.out, fmtM, lineM_head]; simp)
        have HX := Lib.hid (And.intro hx3 (And.intro hsz hp2))
        clear HR HDR hx3 hsz hp2
        obtain ⟨ws, hws⟩ : ∃ s, s = bs (wordM kd) := ⟨_, rfl⟩
        obtain ⟨si, hsi⟩ : ∃ s, s = bs (Lib.decDigits ni) := ⟨_, rfl⟩
        obtain ⟨st, hst⟩ : ∃ s, s = bs (Lib.decDigits nt) := ⟨_, rfl⟩
        obtain ⟨sw, hsw⟩ : ∃ s, s = bs who := ⟨_, rfl⟩
        have HSZ : Hid (ws.size ≤ 6 ∧ si.size ≤ 11 ∧ st.size ≤ 14 ∧ sw.size ≤ 40) := by
          refine ⟨?_, ?_, ?_, ?_⟩
          · rw [hws, size_bs]; exact wordM_len kd
          · rw [hsi, size_bs]; exact dec_len2 ni 10 (by omega)
          · rw [hst, size_bs]; exact dec_len2 nt 13 (by omega)
          · rw [hsw, size_bs]; omega
        have HEQ : Hid (bl (ws ++ ⟨#[32]⟩ ++ si ++ ⟨#[32]⟩ ++ st ++ ⟨#[32]⟩ ++ sw) = headM ⟨kd, (ni : Int), who, (nt : Int), tx⟩) := by
          show bl _ = _
          rw [hws, hsi, hst, hsw]
          simp only [bl_app2, bl_bs]
          unfold headM numL
          simp [bl]
        have HW4 := Lib.hid (And.intro hws (And.intro hsi (And.intro hst hsw)))
        clear hws hsi hst hsw
        go_upto_region 9 with fail
        obtain ⟨W9, hW9⟩ : ∃ W9 : World, W9 = wr.alloc (.cells #[.int .i64 kd, .int .i64 (ni : Int), .string (bs who), .int .i64 (nt : Int), .string (bs tx)] 28) := ⟨_, rfl⟩
        have hrow : W9.heap[wr.heap.size]? = some (.cells (encM ⟨kd, (ni : Int), who, (nt : Int), tx⟩).toArray 28 (0, 0)) := by rw [hW9]; exact heap_alloc_new wr _
        have hb9 : Below wr.heap.size wr W9 := by rw [hW9]; exact (Below.refl _ _).alloc (Nat.le_refl _) _
        have hbW9 := hbel.trans (hb9.mono hbel.size)
        have hBW : w.heap.size ≤ w.heap.size := Nat.le_refl _
        have hown9 := OB.below hown hb9
        rw [← hW9]
        obtain ⟨vo, hvo⟩ : ∃ vo : Value, vo = u5 := ⟨_, rfl⟩
        rw [← hvo] at hown9 ⊢
        have HVO := Lib.hid hvo
        clear hvo
        have HC9 := Lib.hid hown
        clear hown hW9
        refine wp_region_facts (fun _ => factH wr.heap.size w.heap.size ⟨kd, (ni : Int), who, (nt : Int), tx⟩ ws si st sw vo o) (StH wr.heap.size w.heap.size ⟨kd, (ni : Int), who, (nt : Int), tx⟩ vo o w) (by kernel_rfl) (by kernel_rfl) (by kernel_rfl) ⟨below_drewN hbW9 1, hrow, fun _ => hown9.drewA⟩ ?_ ?_
        · refine FSteps.cons ?_ (FSteps.cons ?_ (FSteps.cons ?_ (FSteps.cons ?_ (FSteps.cons ?_ (FSteps.cons ?_ (FSteps.cons ?_ (FSteps.cons ?_ (FSteps.cons ?_ (FSteps.cons ?_ (FSteps.cons ?_ (FSteps.cons ?_ (FSteps.cons ?_ (FSteps.cons ?_ (FSteps.cons ?_ (FSteps.cons ?_ (FSteps.cons ?_ (FSteps.cons ?_ (FSteps.cons ?_ (FSteps.cons ?_ FSteps.nil)))))))))))))))))))
          all_goals (intro f v w0 h0 hpre hE hF hcl hU hS K hK; simp only [putAll, Act.put, List.setIfInBounds_toArray, List.set_cons_zero, List.set_cons_succ, Nat.zero_add, Nat.reduceAdd] at hK ⊢)
          · have e19 : v 19 = vo := hU 19 5 rfl (closed_not hcl 20 19 0 (by kernel_rfl) h0)
            rw [e19] at hK ⊢
            go_wp2_with fail
            exact hK.out _ _ (hS.step _ (by decide) (Below.refl _ _) hBW) (fun j _ _ h => factH_later (Below.refl _ _) j _ h) rfl
          · go_wp2_with fail
            exact hK.out _ _ (hS.step _ (by decide) (Below.refl _ _) hBW) (fun j _ _ h => factH_later (Below.refl _ _) j _ h) rfl
          · have e1 : v 1 = _ := hE.1 rfl
            rw [e1] at hK ⊢
            have c0 := hS.cells.1
            clear hU
            go_wp2_with fail
            exact hK.out _ _ (hS.step _ (by decide) (Below.refl _ _) hBW) (fun j _ _ h => factH_later (Below.refl _ _) j _ h) rfl
          · have e2 : v 2 = _ := hE.1 rfl
            rw [e2] at hK ⊢
            go_wp2_with fail
            refine (word_ref kd _).mono ?_
            rintro e w1 ⟨rfl, rfl⟩
            go_wp2_with fail
            exact hK.out _ _ (hS.step _ (by decide) (Below.refl _ _) hBW) (fun j _ _ h => factH_later (Below.refl _ _) j _ h) (by show Value.string _ = _; rw [HW4.out.1])
          · have e3 : v 3 = _ := hE.1 rfl
            rw [e3] at hK ⊢
            have hadd := run_string_add_sum (P := Tryz.prog) w0 (ws) (⟨#[32]⟩) (by (try simp only [ByteArray.size_append]); have := HSZ.out; have h32 : ByteArray.size ⟨#[32]⟩ = 1 := rfl; omega)
            go_wp2_with fail
            exact hK.out _ _ (hS.step _ (by decide) (Below.refl _ _) hBW) (fun j _ _ h => factH_later (Below.refl _ _) j _ h) rfl
          · go_wp2_with fail
            exact hK.out _ _ (hS.step _ (by decide) (Below.refl _ _) hBW) (fun j _ _ h => factH_later (Below.refl _ _) j _ h) rfl
          · have e5 : v 5 = _ := hE.1 rfl
            rw [e5] at hK ⊢
            have c1 := hS.cells.2.1
            clear hU
            go_wp2_with fail
            exact hK.out _ _ (hS.step _ (by decide) (Below.refl _ _) hBW) (fun j _ _ h => factH_later (Below.refl _ _) j _ h) rfl
          · have e6 : v 6 = _ := hE.1 rfl
            rw [e6] at hK ⊢
            go_wp2_with fail
            refine (number_ref 10 ni _ (by omega) (by omega) (by omega)).mono ?_
            rintro e w1 ⟨rfl, hb1⟩
            go_wp2_with fail
            exact hK.out _ _ (hS.step _ (by decide) hb1 hBW) (fun j _ _ h => factH_later hb1 j _ h) (by show Value.string _ = _; rw [HW4.out.2.1])
          · have e4 : v 4 = _ := hE.1 rfl
            have e7 : v 7 = _ := hE.2.1 rfl
            rw [e4, e7] at hK ⊢
            have hadd := run_string_add_sum (P := Tryz.prog) w0 (ws ++ ⟨#[32]⟩) (si) (by (try simp only [ByteArray.size_append]); have := HSZ.out; have h32 : ByteArray.size ⟨#[32]⟩ = 1 := rfl; omega)
            go_wp2_with fail
            exact hK.out _ _ (hS.step _ (by decide) (Below.refl _ _) hBW) (fun j _ _ h => factH_later (Below.refl _ _) j _ h) rfl
          · have e8 : v 8 = _ := hE.1 rfl
            rw [e8] at hK ⊢
            have hadd := run_string_add_sum (P := Tryz.prog) w0 (ws ++ ⟨#[32]⟩ ++ si) (⟨#[32]⟩) (by (try simp only [ByteArray.size_append]); have := HSZ.out; have h32 : ByteArray.size ⟨#[32]⟩ = 1 := rfl; omega)
            go_wp2_with fail
            exact hK.out _ _ (hS.step _ (by decide) (Below.refl _ _) hBW) (fun j _ _ h => factH_later (Below.refl _ _) j _ h) rfl
          · go_wp2_with fail
            exact hK.out _ _ (hS.step _ (by decide) (Below.refl _ _) hBW) (fun j _ _ h => factH_later (Below.refl _ _) j _ h) rfl
          · have e10 : v 10 = _ := hE.1 rfl
            rw [e10] at hK ⊢
            have c3 := hS.cells.2.2.2.1
            clear hU
            go_wp2_with fail
            exact hK.out _ _ (hS.step _ (by decide) (Below.refl _ _) hBW) (fun j _ _ h => factH_later (Below.refl _ _) j _ h) rfl
          · have e11 : v 11 = _ := hE.1 rfl
            rw [e11] at hK ⊢
            go_wp2_with fail
            refine (number_ref 13 nt _ (by omega) (by omega) (by omega)).mono ?_
            rintro e w1 ⟨rfl, hb1⟩
            go_wp2_with fail
            exact hK.out _ _ (hS.step _ (by decide) hb1 hBW) (fun j _ _ h => factH_later hb1 j _ h) (by show Value.string _ = _; rw [HW4.out.2.2.1])
          · have e9 : v 9 = _ := hE.1 rfl
            have e12 : v 12 = _ := hE.2.1 rfl
            rw [e9, e12] at hK ⊢
            have hadd := run_string_add_sum (P := Tryz.prog) w0 (ws ++ ⟨#[32]⟩ ++ si ++ ⟨#[32]⟩) (st) (by (try simp only [ByteArray.size_append]); have := HSZ.out; have h32 : ByteArray.size ⟨#[32]⟩ = 1 := rfl; omega)
            go_wp2_with fail
            exact hK.out _ _ (hS.step _ (by decide) (Below.refl _ _) hBW) (fun j _ _ h => factH_later (Below.refl _ _) j _ h) rfl
          · have e13 : v 13 = _ := hE.1 rfl
            rw [e13] at hK ⊢
            have hadd := run_string_add_sum (P := Tryz.prog) w0 (ws ++ ⟨#[32]⟩ ++ si ++ ⟨#[32]⟩ ++ st) (⟨#[32]⟩) (by (try simp only [ByteArray.size_append]); have := HSZ.out; have h32 : ByteArray.size ⟨#[32]⟩ = 1 := rfl; omega)
            go_wp2_with fail
            exact hK.out _ _ (hS.step _ (by decide) (Below.refl _ _) hBW) (fun j _ _ h => factH_later (Below.refl _ _) j _ h) rfl
          · go_wp2_with fail
            exact hK.out _ _ (hS.step _ (by decide) (Below.refl _ _) hBW) (fun j _ _ h => factH_later (Below.refl _ _) j _ h) rfl
          · have e15 : v 15 = _ := hE.1 rfl
            rw [e15] at hK ⊢
            have c2 := hS.cells.2.2.1
            clear hU
            go_wp2_with fail
            exact hK.out _ _ (hS.step _ (by decide) (Below.refl _ _) hBW) (fun j _ _ h => factH_later (Below.refl _ _) j _ h) (by show Value.string _ = _; rw [HW4.out.2.2.2])
          · have e14 : v 14 = _ := hE.1 rfl
            have e16 : v 16 = _ := hE.2.1 rfl
            rw [e14, e16] at hK ⊢
            have hadd := run_string_add_sum (P := Tryz.prog) w0 (ws ++ ⟨#[32]⟩ ++ si ++ ⟨#[32]⟩ ++ st ++ ⟨#[32]⟩) (sw) (by (try simp only [ByteArray.size_append]); have := HSZ.out; have h32 : ByteArray.size ⟨#[32]⟩ = 1 := rfl; omega)
            go_wp2_with fail
            exact hK.out _ _ (hS.step _ (by decide) (Below.refl _ _) hBW) (fun j _ _ h => factH_later (Below.refl _ _) j _ h) rfl
          · have e0 : v 0 = _ := hE.1 rfl
            have e17 : v 17 = _ := hE.2.1 rfl
            rw [e0, e17] at hK ⊢
            have hown := hS.2.2 h0
            go_wp2_with (at_builtin; refine app_textG Tryz.underlying30 Tryz.underlying9 hi hz0 hz1 hz2 _ _ vo o _ w.heap.size rfl rfl rfl rfl hown (by (try simp only [ByteArray.size_append]); have := HSZ.out; have h32 : ByteArray.size ⟨#[32]⟩ = 1 := rfl; omega) (Nat.le_trans hBW hS.1.size) ?_; intro v' w1 hown1 hg1)
            exact hK.out _ _ ⟨hS.1.trans (gb_below hown hg1 (Nat.le_trans hBW hS.1.size)), (hg1.block _ (Array.getElem?_eq_some_iff.1 hS.2.1).1 (own_ne hown hS.2.1 (by decide)).symm).trans hS.2.1, fun h => by rw [show upI f 18 18 = true from rfl] at h; cases h⟩ (fun j hj hfj h => factH_eq j _ hj (by rintro rfl; rw [closed_not hcl 20 19 18 (by kernel_rfl) h0] at hfj; cases hfj) h) hown1
          · have e18 := hE.1 rfl
            go_wp2_with fail
            exact hK.out _ _ (hS.step _ (by decide) (Below.refl _ _) hBW) (fun j _ _ h => factH_later (Below.refl _ _) j _ h) e18
        · intro f v w' hall hF hS
          have e19 := hF 19 (by decide)
          have e19' : OB 5 w.heap.size (v 19) (o ++ headM ⟨kd, (ni : Int), who, (nt : Int), tx⟩) w' := by rw [← HEQ.out]; exact e19
          simp only [putAll, Act.put, List.setIfInBounds_toArray, List.set_cons_zero, List.set_cons_succ, Nat.zero_add, Nat.reduceAdd]
          have HL10 : Hid ((o ++ headM ⟨kd, (ni : Int), who, (nt : Int), tx⟩).length ≤ 100000000 ∧ tx.length ≤ 65536) := by
            refine ⟨?_, by have := HX.out.2; omega⟩
            have h1 := congrArg List.length HN.out
            simp only [List.length_append] at h1 ⊢
            have := hlen.out
            omega
          have HS := Lib.hid hS
          obtain ⟨o2, ho2⟩ : ∃ o2, o2 = o ++ headM ⟨kd, (ni : Int), who, (nt : Int), tx⟩ := ⟨_, rfl⟩
          rw [← ho2] at e19' HL10
          have HO2 := Lib.hid ho2
          clear hF hall e19 hS hbW9 hb9 hrow hown9 ho2
          obtain ⟨W10, hW10⟩ : ∃ W10 : World, W10 = w' := ⟨_, rfl⟩
          rw [← hW10] at HS e19' ⊢
          clear hW10
          obtain ⟨vo2, hvo2⟩ : ∃ vo2 : Value, vo2 = v 19 := ⟨_, rfl⟩
          rw [← hvo2] at e19' ⊢
          clear hvo2
          have hE10 := e19'
          clear e19'
          have c0 := HS.out.cells.1
          apply_assumption
          by_cases e3 : kd = 3
          · have d3 : (kd != 3) = false := by simp [e3]
            have HE := Lib.hid (show (o2 ++ [10]) ++ fmtM (l.drop (k + 1)) = fmtM l by
              rw [← HN.out, HO2.out, show tailM ⟨kd, (ni : Int), who, (nt : Int), tx⟩ = [] from if_pos e3]; simp)
            have hb10 := HS.out.1
            clear e3
            go_wp2_with (at_builtin; refine app_u8 Tryz.underlying30 hi hz0 hz1 hz2 _ _ _ _ _ (10 : UInt8) w.heap.size rfl rfl rfl rfl hE10 rfl (by have := HL10.out; omega) (Nat.le_trans hBW hb10.size) ?_; intro v1 w3 hown3 hb3 _ _)
            go_roundw
            case rel => exact ⟨k + 1, _, by omega, by go_num, hown3, hb10.trans hb3, HE⟩
            case measure => simp [intOf]; omega
          · have d3 : (kd != 3) = true := by simpa using e3
            have HE := Lib.hid (show (o2 ++ [32] ++ encF escE tx ++ [10]) ++ fmtM (l.drop (k + 1)) = fmtM l by
              rw [← HN.out, HO2.out, show tailM ⟨kd, (ni : Int), who, (nt : Int), tx⟩ = 32 :: encF escE tx from if_neg e3]; simp)
            have hk10 : ∀ q, vo2.ownBlock = some q → q < W10.heap.size := fun q hq => (World.ownsRow.lt hE10 q hq).2
            have hel := encEsc_len tx
            clear e3
            go_upto_region 11 with fail
            clear c0
            refine wp_region_facts (factT w.heap.size W10 wr.heap.size vo2 o2 tx) (StT wr.heap.size w.heap.size ⟨kd, (ni : Int), who, (nt : Int), tx⟩ vo2 o2 w W10) (by kernel_rfl) (by kernel_rfl) (by kernel_rfl) ⟨below_drewN HS.out.1 1, Nat.le_refl _, HS.out.2.1, fun _ => hE10.drewA⟩ ?_ ?_
            · refine FSteps.cons ?_ (FSteps.cons ?_ (FSteps.cons ?_ (FSteps.cons ?_ (FSteps.cons ?_ (FSteps.cons ?_ (FSteps.cons ?_ (FSteps.cons ?_ (FSteps.cons ?_ FSteps.nil))))))))
              all_goals (intro f v w0 h0 hpre hE hF hcl hU hS K hK; simp only [putAll, Act.put, List.setIfInBounds_toArray, List.set_cons_zero, List.set_cons_succ, Nat.zero_add, Nat.reduceAdd] at hK ⊢)
              · have e8 : v 8 = vo2 := hU 8 5 rfl (closed_not hcl 20 8 0 (by kernel_rfl) h0)
                rw [e8] at hK ⊢
                clear hU
                go_wp2_with fail
                exact hK.out _ _ (hS.step _ (by decide) (Below.refl _ _) hBW) (fun j _ _ h => factT_later (by decide) (by decide) (Below.refl _ _) j _ h) rfl
              · go_wp2_with fail
                have hb1 : Below w0.heap.size w0 (w0.alloc (.cells #[.int .u8 32] 5)) := (Below.refl _ _).alloc (Nat.le_refl _) _
                exact hK.out _ _ (hS.step _ (by decide) hb1 hBW) (fun j _ _ h => factT_later (by decide) (by decide) hb1 j _ h) ⟨w0.heap.size, rfl, hS.2.1, fun _ => heap_alloc_new w0 _⟩
              · have e0 : v 0 = _ := hE.1 rfl
                obtain ⟨g1, e1, hg1, hr⟩ := hE.2.1 rfl
                have hr1 := hr h0
                rw [e0, e1] at hK ⊢
                have hown := hS.2.2.2 h0
                have hc1 : ∀ j (h : j < ([32] : List UInt8).length), w0.cell? ⟨g1, j, none⟩ = some (.int .u8 (([32] : List UInt8)[j]).toNat) := by
                  intro j hj
                  obtain rfl : j = 0 := by simp at hj; omega
                  rw [cell_of_row _ _ _ _ _ _ hr1]; rfl
                have hl1 : o2.length + ([32] : List UInt8).length < 1000000000 := by have := HL10.out; simp; omega
                have hbs1 : w.heap.size ≤ w0.heap.size := Nat.le_trans hBW hS.1.size
                have hr' := hr
                clear hr
                go_wp2_with (at_builtin; refine app_rowG Tryz.underlying30 hi hz0 hz1 hz2 _ _ vo2 o2 [32] g1 1 1 w.heap.size rfl rfl rfl rfl rfl hown hc1 hl1 hbs1 ?_; intro v' w1 hown1 hgr)
                exact hK.out _ _ ⟨hS.1.trans (gb_below hown hgr (Nat.le_trans hBW hS.1.size)), Nat.le_trans hS.2.1 hgr.size, (hgr.block _ (Array.getElem?_eq_some_iff.1 hS.2.2.1).1 (own_ne hown hS.2.2.1 (by decide)).symm).trans hS.2.2.1, fun h => by rw [show upI f 2 2 = true from rfl] at h; cases h⟩ (fun j hj hfj h => factT_grown hk10 hgr j _ hj (by rintro rfl; rw [closed_not hcl 20 7 2 (by kernel_rfl) h0] at hfj; cases hfj) (by rintro rfl; rw [closed_not hcl 20 8 2 (by kernel_rfl) h0] at hfj; cases hfj) h) (fun _ => hown1)
              · go_wp2_with fail
                exact hK.out _ _ (hS.step _ (by decide) (Below.refl _ _) hBW) (fun j _ _ h => factT_later (by decide) (by decide) (Below.refl _ _) j _ h) rfl
              · have e3 : v 3 = _ := hE.1 rfl
                rw [e3] at hK ⊢
                have c4 : w0.cell? ⟨wr.heap.size, 4, none⟩ = some (.string (bs tx)) := by rw [cell_of_row _ _ _ _ _ _ hS.2.2.1]; rfl
                clear hU
                go_wp2_with fail
                exact hK.out _ _ (hS.step _ (by decide) (Below.refl _ _) hBW) (fun j _ _ h => factT_later (by decide) (by decide) (Below.refl _ _) j _ h) rfl
              · have e4 : v 4 = _ := hE.1 rfl
                rw [e4] at hK ⊢
                have hcv := fun w => Lib.run_convert_string_bytes (P := Tryz.prog) w 9 30 5 (bs tx) Tryz.underlying9 Tryz.underlying30 Tryz.underlying5
                obtain ⟨W4, C4, B4, hW4, hC4, hB4, hrb, hbb4, hsz4⟩ := RB.names w0 5 (bs tx)
                rw [bl_bs] at hrb
                go_wp2_with fail
                rw [← hW4, ← hC4, ← hB4]
                have hbb5 : Below w0.heap.size w0 W4 := by rw [← hB4]; exact hbb4
                exact hK.out _ _ (hS.step _ (by decide) hbb5 hBW) (fun j _ _ h => factT_later (by decide) (by decide) hbb5 j _ h) ⟨B4, C4, rfl, by rw [hC4]; exact grownCap_ge _ _ _ _, by rw [hB4]; exact hS.2.1, fun _ => hrb⟩
              · obtain ⟨g5, c5, e5, hc5, hg5, hrb5⟩ := hE.1 rfl
                have hbin := BIn.of_RB (hrb5 (closed_not hcl 20 7 6 (by kernel_rfl) h0)) (size_bs _) hc5
                rw [e5] at hK ⊢
                go_wp2_with fail
                refine (Encoded_ref 4 (by decide) _ tx w0 (by have := HL10.out; omega) hbin).mono ?_
                rintro e w1 ⟨v1, rfl, hv1, hb1⟩
                go_wp2_with fail
                exact hK.out _ _ (hS.step _ (by decide) hb1 hBW) (fun j _ _ h => factT_later (by decide) (by decide) hb1 j _ h) (fun _ => OB.mono hv1 hS.2.1)
              · have hown := hE.1 rfl h0
                have hy := hE.2.1 rfl h0
                have hf2 : f 2 = true := hpre.1 rfl
                go_wp2_with (at_builtin; refine app_OBG Tryz.underlying30 hi hz0 hz1 hz2 _ _ (v 2) (v 6) _ _ w.heap.size W10.heap.size rfl rfl rfl rfl hown hy (by have := HL10.out; simp; omega) (Nat.le_trans hBW hS.1.size) ?_; intro v' w1 hown1 hgr)
                exact hK.out _ _ ⟨hS.1.trans (gb_below hown hgr (Nat.le_trans hBW hS.1.size)), Nat.le_trans hS.2.1 hgr.size, (hgr.block _ (Array.getElem?_eq_some_iff.1 hS.2.2.1).1 (own_ne hown hS.2.2.1 (by decide)).symm).trans hS.2.2.1, fun h => by rw [show upI f 7 2 = f 2 from rfl, hf2] at h; cases h⟩ (fun j hj hfj h => factT_end hf2 j _ hj (by rintro rfl; rw [closed_not hcl 20 8 7 (by kernel_rfl) h0] at hfj; cases hfj) h) hown1
              · have e7 := hE.1 rfl
                go_wp2_with fail
                exact hK.out _ _ (hS.step _ (by decide) (Below.refl _ _) hBW) (fun j _ _ h => factT_later (by decide) (by decide) (Below.refl _ _) j _ h) e7
            · intro f v w' hall hF hS
              have e8 := hF 8 (by decide)
              have e8' : OB 5 w.heap.size (v 8) (o2 ++ [32] ++ encF escE tx) w' := e8
              simp only [putAll, Act.put, List.setIfInBounds_toArray, List.set_cons_zero, List.set_cons_succ, Nat.zero_add, Nat.reduceAdd]
              have hb11 := hS.1
              clear hF hall e8 hS hE10 HS
              obtain ⟨W11, hW11⟩ : ∃ W11 : World, W11 = w' := ⟨_, rfl⟩
              rw [← hW11] at hb11 e8' ⊢
              clear hW11
              apply_assumption
              go_wp2_with (at_builtin; refine app_u8 Tryz.underlying30 hi hz0 hz1 hz2 _ _ _ _ _ (10 : UInt8) w.heap.size rfl rfl rfl rfl e8' rfl (by have := HL10.out; simp; omega) (Nat.le_trans hBW hb11.size) ?_; intro v1 w3 hown3 hb3 _ _)
              go_roundw
              case rel => exact ⟨k + 1, _, by omega, by go_num, hown3, hb11.trans hb3, HE⟩
              case measure => simp [intOf]; omega
      · obtain rfl : k = l.length := by omega
        have hd : decide ((l.length : Int) < (l.length : Int)) = false := decide_eq_false (by omega)
        have hdn : decide (l.length < l.length) = false := decide_eq_false (by omega)
        have HO := Lib.hid (show o = fmtO l by rw [HF.out, ← HR.out, List.drop_length]; simp [fmtM])
        clear HR
        go_wp2_with fail
        go_ret2
        exact ⟨_, by rw [HE0.out]; rfl, HO.out ▸ hown, hbel⟩
  · have HF := Lib.hid (show fmtO l = [] by unfold fmtO; rw [if_neg h0])
    have d0 : (errM l != 0) = true := by simpa using h0
    have HE0 := Lib.hid h0
    clear h0
    obtain ⟨A, c, rfl, hc, -⟩ := h
    go_enter Tryz.func5, Tryz.ntmps5
    go_wp2_with fail
    refine V.out.mono ?_
    rintro e w0 ⟨rfl, hb0⟩
    go_wp2_with fail
    go_ret2
    exact ⟨_, rfl, by rw [HF.out]; exact OB.nil_ _ _ _, hb0⟩
end Go.Proofs.YthmpcdjhighhgaaGreatDoor
