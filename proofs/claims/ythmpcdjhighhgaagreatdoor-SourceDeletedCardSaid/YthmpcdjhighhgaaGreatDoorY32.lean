/- Walks: what is deleted in a row of the call's own. · Walks: all texts, by the code; what both texts share. · Sources: the contents of an export. · Walk: the contents of an export. · Walks: is a source valid; its contents with a number. · Archives: names, numbers, rows of equal bytes. -/
import Derived.Laws.OwnMore
import Derived.Test.YthmpcdjhighhgaaGreatDoorY31
import Derived.Test.YthmpcdjhighhgaaGreatDoorY20
import Derived.Test.YthmpcdjhighhgaaGreatDoorY30
import Derived.Test.YthmpcdjhighhgaaGreatDoorY07
import Derived.Test.YthmpcdjhighhgaaGreatDoorY24
import Derived.Test.YthmpcdjhighhgaaGreatDoorY17
import Derived.Test.YthmpcdjhighhgaaGreatDoorY18
namespace Go.Proofs.YthmpcdjhighhgaaGreatDoor
set_option linter.unusedVariables false
set_option linter.unusedSimpArgs false
set_option maxRecDepth 100000
open Go.RowKit
theorem rowM_set (r : List Ms) (i : Nat) (m : Ms) (hi : i < r.length) :
    (((((rowF encM r).set (i * 5) (.int .i64 m.kind)).set (i * 5 + 1) (.int .i64 m.id)).set (i * 5 + 2) (.string (bs m.who))).set (i * 5 + 3) (.int .i64 m.time)).set (i * 5 + 4) (.string (bs m.text)) = rowF encM (r.set i m) := by
  have hl : (rowF encM r).length = r.length * 5 := rowF_len encM_E r
  have hl2 : (rowF encM (r.set i m)).length = r.length * 5 := by rw [rowF_len encM_E, List.length_set]
  apply List.ext_getElem?
  intro p
  rcases Nat.lt_or_ge p (r.length * 5) with hp | hp
  · have hq : p / 5 < r.length := by omega
    have hs : p % 5 < 5 := by omega
    have e : p = p / 5 * 5 + p % 5 := by omega
    have h1 := rowF_get encM_E r (p / 5) (p % 5) hq hs
    have h2 := rowF_get encM_E (r.set i m) (p / 5) (p % 5) (by simpa using hq) hs
    rw [← e] at h1 h2
    rw [h2, List.getElem_set]
    by_cases hqi : i = p / 5
    · rw [if_pos hqi]
      have hc : p % 5 = 0 ∨ p % 5 = 1 ∨ p % 5 = 2 ∨ p % 5 = 3 ∨ p % 5 = 4 := by omega
      have hlen : p < (rowF encM r).length := by omega
      rcases hc with h | h | h | h | h <;>
        (simp only [List.getElem?_set, List.length_set, h, encM]
         repeat (first | rw [if_neg (by omega)] | rw [if_pos (by omega)])
         try rfl)
      all_goals simp [hlen]
    · rw [if_neg hqi, ← h1]
      simp only [List.getElem?_set]
      repeat rw [if_neg (by omega)]
  · rw [List.getElem?_eq_none (by simp only [List.length_set]; omega), List.getElem?_eq_none (by omega)]
/-- A message stored into a row of one's own. -/
theorem OM.set {B g n c : Nat} {r : List Ms} {w : World} (h : OM B (.slice (some ⟨g, 0, none⟩) n c) r w) (i : Nat) (hi : i < r.length) (m : Ms) :
    OM B (.slice (some ⟨g, 0, none⟩) n c) (r.set i m) (((((w.setCell ⟨g, i * 5, none⟩ (.int .i64 m.kind)).setCell ⟨g, i * 5 + 1, none⟩ (.int .i64 m.id)).setCell ⟨g, i * 5 + 2, none⟩ (.string (bs m.who))).setCell ⟨g, i * 5 + 3, none⟩ (.int .i64 m.time)).setCell ⟨g, i * 5 + 4, none⟩ (.string (bs m.text))) := by
  have hn : n = r.length := by
    rcases h.2 with ⟨h1, -⟩ | ⟨g', cap, cur, h1, -⟩
    · cases h1
    · injection h1
  subst hn
  have h5 := ((((h.stored (i * 5) (.int .i64 m.kind)).1.stored (i * 5 + 1) (.int .i64 m.id)).1.stored (i * 5 + 2) (.string (bs m.who))).1.stored (i * 5 + 3) (.int .i64 m.time)).1.stored (i * 5 + 4) (.string (bs m.text))
  have h6 := h5.1
  rw [rowM_set r i m hi] at h6
  show World.ownsRow _ _ _ _ _ (r.set i m).length _
  rw [List.length_set]; exact h6
def isDel (m : Ms) : Bool := m.kind == 3
theorem keepM_none {l : List Ms} (h : anyM isDel l = false) : keepM l = l := by
  unfold keepM
  rw [List.filter_eq_self]
  intro m hm
  have := anyM_no.1 h m hm
  unfold isDel at this
  rw [this]; rfl
theorem keepM_idx : ∀ {l : List Ms}, anyM isDel l = true → keepM (l.take (idxM isDel l + 1)) = l.take (idxM isDel l) ∧ idxM isDel l < l.length
  | [], h => by simp [anyM] at h
  | m :: r, h => by
    rw [idxM]
    by_cases hp : isDel m = true
    · rw [if_pos hp]
      refine ⟨?_, by simp⟩
      show keepM [m] = []
      unfold keepM isDel at *
      simp [hp]
    · rw [if_neg hp]
      rw [anyM] at h
      obtain ⟨h1, h2⟩ := keepM_idx (l := r) (by simpa [hp] using h)
      refine ⟨?_, by simpa using h2⟩
      rw [List.take_succ_cons, List.take_succ_cons]
      unfold keepM at *
      rw [List.filter_cons_of_pos (by unfold isDel at hp; simpa using hp), h1]
theorem Below.setCell5 {B : Nat} {a w : World} {g p0 p1 p2 p3 p4 : Nat} {v0 v1 v2 v3 v4 : Value} (h : Below B a w) (hg : B ≤ g) :
    Below B a (((((w.setCell ⟨g, p0, none⟩ v0).setCell ⟨g, p1, none⟩ v1).setCell ⟨g, p2, none⟩ v2).setCell ⟨g, p3, none⟩ v3).setCell ⟨g, p4, none⟩ v4) :=
  ((((h.setCell (p := ⟨g, p0, none⟩) hg _).setCell (p := ⟨g, p1, none⟩) hg _).setCell (p := ⟨g, p2, none⟩) hg _).setCell (p := ⟨g, p3, none⟩) hg _).setCell (p := ⟨g, p4, none⟩) hg _
set_option maxHeartbeats 4000000 in
theorem delete_any (o : List Ms) (v : Value) (B : Nat) (W : World) (hown : OM B v o W) (hB : B ≤ W.heap.size) (hl : o.length ≤ 100000) :
    Calls Tryz.prog 47 #[v, .func (.func 49) #[] #[]] W fun e w' => ∃ v', e = .returned v' ∧ OM B v' (keepM o) w' ∧ Below B W w' := by
  have ei := enters_of Tryz.func49 (by kernel_rfl) rfl
  have IX := Lib.hid (index_any 49 isDel v o W (MC.of_own hown) ⟨ei, fun m _ w => dels_any m w⟩ (by omega))
  have HO := Lib.hid hown
  obtain ⟨A, c, rfl, hc, hcell⟩ := OR.cells encM_E hown
  clear hown
  cases ha : anyM isDel o with
  | false =>
    have HE := Lib.hid (show ixI isDel o = -1 by unfold ixI; rw [ha]; rfl)
    have HK := Lib.hid (keepM_none ha)
    rw [HE.out] at IX
    clear ha hcell
    go_enter Tryz.func47, Tryz.ntmps47
    go_wp2_with fail
    refine IX.out.mono ?_
    rintro e w1 ⟨rfl, hb1⟩
    go_wp2_with fail
    go_ret
    exact ⟨_, rfl, by rw [HK.out]; exact HO.out.later hb1, hb1.mono hB⟩
  | true =>
    obtain ⟨hk1, hk2⟩ := keepM_idx ha
    obtain ⟨i0, hi0⟩ : ∃ i, idxM isDel o = i := ⟨_, rfl⟩
    rw [hi0] at hk1 hk2
    have HE := Lib.hid (show ixI isDel o = (i0 : Int) by unfold ixI; rw [ha, if_pos rfl, hi0])
    rw [HE.out] at IX
    have HK := Lib.hid hk1
    obtain ⟨g, rfl, hBg, hg, hcs⟩ := hcell.resolve_left (by rintro rfl; simp at hk2)
    clear ha hi0 hk1 hcs hcell
    have hne : ((i0 : Int) == -1) = false := by simp
    go_enter Tryz.func47, Tryz.ntmps47
    go_wp2_with fail
    refine IX.out.mono ?_
    rintro e w1 ⟨rfl, hb1⟩
    have HO1 := Lib.hid (HO.out.later hb1)
    have HB1 := Lib.hid (hb1.mono hB)
    clear hb1
    go_wp2_with fail
    go_loopw [5, 6] (fun vi vj wr => ∃ (i j : Nat) (r : List Ms), i < j ∧ j ≤ o.length ∧ vi = .int .i64 (i : Int) ∧ vj = .int .i64 (j : Int) ∧ OM B (.slice (some ⟨g, 0, none⟩) o.length c) r wr ∧ r.length = o.length ∧ Below B W wr ∧ Hid (r.take i = keepM (o.take j)) ∧ Hid (r.drop j = o.drop j)) (fun _ vj _ => o.length - (intOf vj).toNat)
    case atStart => exact ⟨i0, i0 + 1, o, by omega, by omega, rfl, by first | rfl | go_num, HO1.out, rfl, HB1.out, HK.out.symm, rfl⟩
    case round =>
      obtain ⟨i, j, r, hij, hj, rfl, rfl, hr, hrl, hbel, HT, HD⟩ := hrel
      by_cases hlt : j < o.length
      · have hd : decide ((j : Int) < (o.length : Int)) = true := decide_eq_true (by omega)
        have hdn : decide (j < o.length) = true := decide_eq_true hlt
        obtain ⟨A', c', hv, -, hcell⟩ := OR.cells encM_E hr
        injection hv with hv1 hv2 hv3
        obtain ⟨g', hg1, hBg', hg', hcs⟩ := hcell.resolve_left (by rintro rfl; simp at hrl; omega)
        rw [← hv1] at hg1
        injection hg1 with hg1
        injection hg1 with hg1
        subst hg1
        have q := hcs j (by omega)
        have q0 := (q 0 (by decide)).1
        have q1 := (q 1 (by decide)).1
        have q2 := (q 2 (by decide)).1
        have q3 := (q 3 (by decide)).1
        have q4 := (q 4 (by decide)).1
        have HR := Lib.hid hr
        obtain ⟨m, hm⟩ : ∃ m, r[j]'(by omega) = m := ⟨_, rfl⟩
        rw [hm] at q0 q1 q2 q3 q4
        have HM := Lib.hid hm
        clear hm q hcs hcell hv1 hv2 hv3 hr
        obtain ⟨kd, id, who, tm, tx⟩ := m
        replace q0 : wr.cell? ⟨g, j * 5, none⟩ = some (.int .i64 kd) := q0
        replace q1 : wr.cell? ⟨g, j * 5 + 1, none⟩ = some (.int .i64 id) := q1
        replace q2 : wr.cell? ⟨g, j * 5 + 2, none⟩ = some (.string (bs who)) := q2
        replace q3 : wr.cell? ⟨g, j * 5 + 3, none⟩ = some (.int .i64 tm) := q3
        replace q4 : wr.cell? ⟨g, j * 5 + 4, none⟩ = some (.string (bs tx)) := q4
        have hoj : o[j] = ⟨kd, id, who, tm, tx⟩ := by
          have h1 := HD.out
          rw [List.drop_eq_getElem_cons (show j < r.length by omega), List.drop_eq_getElem_cons hlt] at h1
          injection h1 with h1 h2
          rw [← h1, HM.out]
        have HD2 := Lib.hid (show r.drop (j + 1) = o.drop (j + 1) by rw [← List.drop_drop, HD.out, List.drop_drop])
        have hkt : keepM (o.take (j + 1)) = keepM (o.take j) ++ (if kd = 3 then [] else [⟨kd, id, who, tm, tx⟩]) := by
          rw [List.take_succ_eq_append_getElem hlt, hoj]
          unfold keepM
          rw [List.filter_append]
          congr 1
          by_cases h : kd = 3
          · rw [if_pos h]; simp [h]
          · rw [if_neg h]; simp [h]
        have HT2 := Lib.hid (show kd = 3 → r.take i = keepM (o.take (j + 1)) from fun h => by rw [hkt, if_pos h, List.append_nil]; exact HT.out)
        have HT3 := Lib.hid (show ¬ kd = 3 → (r.set i ⟨kd, id, who, tm, tx⟩).take (i + 1) = keepM (o.take (j + 1)) from fun h => by
          rw [hkt, if_neg h, ← HT.out, List.take_succ_eq_append_getElem (by rw [List.length_set]; omega), List.getElem_set_self, List.take_set_of_le (Nat.le_refl _)])
        have HD3 := Lib.hid (show (r.set i ⟨kd, id, who, tm, tx⟩).drop (j + 1) = o.drop (j + 1) by rw [List.drop_set_of_lt (by omega)]; exact HD2.out)
        clear hoj hkt
        have D := Lib.hid (fun w => dels_any ⟨kd, id, who, tm, tx⟩ w)
        have S := Lib.hid (show ∀ w2, Below (wr.heap.size + 1) (wr.alloc (Obj.cells #[.int .i64 kd, .int .i64 id, .string (bs who), .int .i64 tm, .string (bs tx)] 28)) w2 → MCell w2 wr.heap.size 0 ⟨kd, id, who, tm, tx⟩ from fun w2 hb => by
          have hm : MCell (wr.alloc (Obj.cells #[.int .i64 kd, .int .i64 id, .string (bs who), .int .i64 tm, .string (bs tx)] 28)) wr.heap.size 0 ⟨kd, id, who, tm, tx⟩ := by
            refine ⟨?_, ?_, ?_, ?_, ?_⟩ <;> (rw [World.cell?_alloc_mark]; rfl)
          exact hm.later (hb.block wr.heap.size (by omega)))
        have hz1 : (wr.alloc (Obj.cells #[.int .i64 kd, .int .i64 id, .string (bs who), .int .i64 tm, .string (bs tx)] 28)).heap.size = wr.heap.size + 1 := by simp
        have HZ1 := Lib.hid hz1
        have HBW := Lib.hid (show Below wr.heap.size wr (wr.alloc (Obj.cells #[.int .i64 kd, .int .i64 id, .string (bs who), .int .i64 tm, .string (bs tx)] 28)) from (Below.refl _ _).alloc (Nat.le_refl _) _)
        clear hz1
        by_cases h3 : kd = 3
        · have d3 : (kd == 3) = true := by simpa using h3
          have H3 := Lib.hid h3
          clear h3
          go_wp2_with fail
          refine (D.out _).mono ?_
          rintro e w2 ⟨rfl, hb2⟩
          have hbw := HBW.out.trans (hb2.mono HBW.out.size)
          clear hb2
          go_wp2_with fail
          go_roundw
          case rel => exact ⟨i, j + 1, r, by omega, by omega, rfl, by go_num, HR.out.later hbw, hrl, hbel.trans (hbw.mono (Nat.le_trans hB hbel.size)), HT2.out H3.out, HD2⟩
          case measure => simp [intOf]; omega
        · have d3 : (kd == 3) = false := by simpa using h3
          have H3 := Lib.hid h3
          clear h3
          go_wp2_with fail
          refine (D.out _).mono ?_
          rintro e w2 ⟨rfl, hb2⟩
          obtain ⟨s0, s1, s2, s3, s4⟩ := S.out w2 (by rw [← HZ1.out]; exact hb2)
          have hbw := HBW.out.trans (hb2.mono HBW.out.size)
          have HR2 := Lib.hid (HR.out.later hbw)
          have hfz : ∀ i' (h : i' < r.length), ∀ j' < 5, w2.frozen? ⟨g, i' * 5 + j', none⟩ = false := fun i' hi' j' hj' => by
            obtain ⟨A', c', hv, -, hcell⟩ := OR.cells encM_E HR2.out
            injection hv with hv1 hv2 hv3
            obtain ⟨g', hg1, -, -, hcs⟩ := hcell.resolve_left (by rintro rfl; simp at hi')
            rw [← hv1] at hg1
            injection hg1 with hg1
            injection hg1 with hg1
            subst hg1
            exact (hcs i' hi' j' hj').2
          have hil : i < r.length := by omega
          have z0 : w2.frozen? ⟨g, i * 5, none⟩ = false := hfz i hil 0 (by decide)
          have z1 := hfz i hil 1 (by decide)
          have z2 := hfz i hil 2 (by decide)
          have z3 := hfz i hil 3 (by decide)
          have z4 := hfz i hil 4 (by decide)
          have hold : (∃ v, w2.cell? ⟨g, i * 5, none⟩ = some v) ∧ (∃ v, w2.cell? ⟨g, i * 5 + 1, none⟩ = some v) ∧ (∃ v, w2.cell? ⟨g, i * 5 + 2, none⟩ = some v) ∧ (∃ v, w2.cell? ⟨g, i * 5 + 3, none⟩ = some v) ∧ (∃ v, w2.cell? ⟨g, i * 5 + 4, none⟩ = some v) := by
            obtain ⟨A', c', hv, -, hcell⟩ := OR.cells encM_E HR2.out
            injection hv with hv1 hv2 hv3
            obtain ⟨g', hg1, -, -, hcs⟩ := hcell.resolve_left (by rintro rfl; simp at hil)
            rw [← hv1] at hg1
            injection hg1 with hg1
            injection hg1 with hg1
            subst hg1
            exact ⟨⟨_, (hcs i hil 0 (by decide)).1⟩, ⟨_, (hcs i hil 1 (by decide)).1⟩, ⟨_, (hcs i hil 2 (by decide)).1⟩, ⟨_, (hcs i hil 3 (by decide)).1⟩, ⟨_, (hcs i hil 4 (by decide)).1⟩⟩
          clear hfz hb2
          obtain ⟨⟨y0, e0⟩, ⟨y1, e1⟩, ⟨y2, e2⟩, ⟨y3, e3⟩, ⟨y4, e4⟩⟩ := hold
          go_wp2_with fail
          go_roundw
          case rel => exact ⟨i + 1, j + 1, r.set i ⟨kd, id, who, tm, tx⟩, by omega, by omega, by go_num, by go_num, OM.set HR2.out i hil ⟨kd, id, who, tm, tx⟩, by rw [List.length_set]; exact hrl, Below.setCell5 (hbel.trans (hbw.mono (Nat.le_trans hB hbel.size))) hBg, HT3.out H3.out, HD3⟩
          case measure => simp [intOf]; omega
      · obtain rfl : j = o.length := by omega
        have hd : decide ((o.length : Int) < (o.length : Int)) = false := decide_eq_false (by omega)
        have hdn : decide (o.length < o.length) = false := decide_eq_false (by omega)
        have hr2 : OM B (.slice (some ⟨g, 0, none⟩) r.length c) r wr := by rw [hrl]; exact hr
        obtain ⟨w', hrun, hown', hb'⟩ := OR.clear encM_E hr2 i (by omega) (c - i) (.agg #[.int .i64 0, .int .i64 0, .string ⟨#[]⟩, .int .i64 0, .string ⟨#[]⟩]) Tryz.underlying29 (fun _ => by kernel_rfl) rfl (by decide)
        rw [hrl] at hrun
        have HW := Lib.hid (show r.take i = keepM o by rw [HT.out, List.take_length])
        have hne2 : ¬ c = i := by omega
        have hic : i ≤ c := by omega
        have hio : i ≤ o.length := by omega
        clear hr2 hr HD HT
        go_wp2_with fail
        go_ret
        exact ⟨_, rfl, HW.out ▸ hown', hbel.trans hb'⟩
end Go.Proofs.YthmpcdjhighhgaaGreatDoor
namespace Go.Proofs.YthmpcdjhighhgaaGreatDoor
set_option linter.unusedVariables false
set_option linter.unusedSimpArgs false
set_option maxRecDepth 100000
open Go.RowKit
set_option maxHeartbeats 1000000 in
theorem texts_any (v : Value) (l : List Ms) (w : World) (h : MC v l w) (hs : Small l) : Calls Tryz.prog 26 #[v] w (MsPost (textsM l) w) := by
  have V := Lib.hid (valid_any v l w h hs)
  have hl := hs.1
  have H := Lib.hid h
  clear hs h
  by_cases h0 : errM l = 0
  · rw [h0] at V
    have HT := Lib.hid (show textsM l = keepM l by unfold textsM; rw [if_pos h0])
    clear h0
    go_enter Tryz.func26, Tryz.ntmps26
    go_wp2_with fail
    refine V.out.mono ?_
    rintro e w0 ⟨rfl, hb0⟩
    have H0 := Lib.hid (H.out.later hb0 (Nat.le_refl _))
    go_wp2_with fail
    refine (clone_any _ l _ H0.out hl).mono ?_
    rintro e w1 ⟨v1, rfl, hv1, hb1⟩
    go_wp2_with fail
    refine (delete_any l _ w0.heap.size w1 hv1 hb1.size hl).mono ?_
    rintro e w2 ⟨v2, rfl, hv2, hb2⟩
    go_wp2_with fail
    go_ret
    exact ⟨_, rfl, HT.out ▸ hv2.mono hb0.size, (hb0.trans (hb1.mono hb0.size)).trans (hb2.mono hb0.size)⟩
  · have hne : (errM l != 0) = true := by simpa using h0
    have HT := Lib.hid (show textsM l = [] by unfold textsM; rw [if_neg h0])
    clear h0
    generalize errM l = x at *
    go_enter Tryz.func26, Tryz.ntmps26
    go_wp2_with fail
    refine V.out.mono ?_
    rintro e w0 ⟨rfl, hb0⟩
    go_wp2_with fail
    go_ret
    exact ⟨_, rfl, by rw [HT.out]; exact OR.nil_ _ _ _, hb0⟩
end Go.Proofs.YthmpcdjhighhgaaGreatDoor
namespace Go.Proofs.YthmpcdjhighhgaaGreatDoor
set_option linter.unusedVariables false
set_option linter.unusedSimpArgs false
set_option maxRecDepth 100000
open Go.RowKit
/-- A content in memory: its data, and its one place. -/
structure CtV where
  A : Option Addr
  n : Nat
  c : Nat
  g : Nat
def encCt (x : CtV) : List Value := [.slice x.A x.n x.c, .slice (some ⟨x.g, 0, none⟩) 1 1]
theorem encCt_E : EncS encCt 2 := ⟨by decide, fun _ => rfl, fun x u hu => by
  unfold encCt at hu
  simp at hu
  rcases hu with rfl | rfl <;> rfl⟩
theorem info_ct : (Tryz.prog.info? 43).map (fun i => (i.zero, i.size, i.bytes)) = some (some (.agg #[.slice none 0 0, .slice none 0 0]), 2, 48) := by kernel_rfl
/-- What a content reads as. -/
structure Ct where
  data : List UInt8
  src : Int
  path : ByteArray
  time : Int
def CtIn (B : Nat) (w : World) (x : CtV) (d : Ct) : Prop := OB 5 B (.slice x.A x.n x.c) d.data w ∧ B ≤ x.g ∧ PlIn w x.g d.src d.path d.time
theorem CtIn.keep {B : Nat} {w w' : World} {x : CtV} {d : Ct} (h : CtIn B w x d) (hk : ∀ k, B ≤ k → k < w.heap.size → (∀ cs z, w.heap[k]? ≠ some (.cells cs 43 z)) → w'.heap[k]? = w.heap[k]?) : CtIn B w' x d := by
  obtain ⟨h1, h2, h3⟩ := h
  refine ⟨h1.keep fun k hk' => ?_, h2, (hk x.g h2 (Array.getElem?_eq_some_iff.1 h3).1 (fun cs z e => ?_)).trans h3⟩
  · have hlt := World.ownsRow.lt h1 k hk'
    refine hk k hlt.1 hlt.2 fun cs z e => ?_
    rcases h1.2 with ⟨e1, -⟩ | ⟨g', cap, cur, e1, -, hg, -⟩
    · rw [e1] at hk'; cases hk'
    · rw [e1] at hk'
      injection hk' with hk'
      rw [← hk', hg] at e
      injection e with e
      injection e with e2 e3
      exact absurd e3 (by decide)
  · rw [show w.heap[x.g]? = _ from h3] at e
    injection e with e
    injection e with e2 e3
    exact absurd e3 (by decide)
theorem CtIn.later {B : Nat} {w w' : World} {x : CtV} {d : Ct} (h : CtIn B w x d) (hb : Below w.heap.size w w') : CtIn B w' x d := h.keep fun k _ hk _ => hb.block k hk
theorem CtIn.grown {B B2 : Nat} {w w' : World} {x : CtV} {d : Ct} {v : Value} {o : List CtV} (h : CtIn B w x d) (hv : OR 43 2 encCt B2 v o w) (hg : w.grownBy w' v.ownBlock) : CtIn B w' x d := h.keep fun k _ hk hne => hg.block k hk fun e => by
  rcases hv.2 with ⟨e1, -⟩ | ⟨g', cap, cur, e1, -, hg', -⟩
  · rw [e1] at e; cases e
  · rw [e1] at e
    injection e with e
    exact hne cur (0, 0) (by rw [e]; exact hg')
/-- 'out = append(out, x)' of one struct, and all that stays. -/
theorem app_oneG {α : Type} {enc : α → List Value} {n : Nat} (E : EncS enc n) {P : Program} {T e : TypeId} {i0 : TypeInfo} {z : Value} {by_ : Nat} (ht : P.underlying T = some (.slice e)) (hi : P.info? e = some i0) (hz0 : i0.zero = some z) (hz1 : i0.size = n) (hz2 : i0.bytes = by_) (hzs : z.cells.size = n) (hby : by_ ≤ 1000)
    {w : World} {ops : Array Oper} {rest : List Oper} {op : Oper} {a : Act} {Q : Exit → Act → World → Prop} (s x : Operand) (v : Value) (g c : Nat) (o : List α) (r : α) (B : Nat)
    (hgd : op.guard = none) (ho : op.op = .call { callee := .builtin .append, args := #[s, x], argTypes := #[T, T] })
    (hs : a.eval s = v) (hx : a.eval x = .slice (some ⟨g, 0, none⟩) 1 c) (hc : ∀ j, j < n → w.cell? ⟨g, j, none⟩ = (enc r)[j]?) (hown : OR e n enc B v o w) (hl : o.length ≤ 1000000) (hB : B ≤ w.heap.size)
    (h : ∀ v' w1, OR e n enc B v' (o ++ [r]) w1 → w.grownBy w1 v.ownBlock → wpList P ops Q rest (a.put op.dst v') w1) :
    wpList P ops Q (op :: rest) a w := by
  refine wpList_append_own _ hgd s x T ho B e i0 z n by_ ht hi hz0 hz1 hz2 hzs E.pos v o.length _ hs hown ⟨g, 0, none⟩ 1 c (enc r) hx (by rw [E.len]; omega) ?_ (E.one r) (by unfold maxLen; omega) ?_ hB ?_
  · intro j u hj
    have hjn : j < n := by have := (List.getElem?_eq_some_iff.1 hj).1; rw [E.len] at this; exact this
    rw [Addr.add_lit, Nat.zero_add, hc j hjn]
    exact hj
  · have : (o.length + 1) * by_ ≤ (o.length + 1) * 1000 := Nat.mul_le_mul_left _ hby
    omega
  · intro v' w1 hown1 hg _
    refine h v' w1 ?_ hg
    show w1.ownsRow B e n v' (o ++ [r]).length (rowF enc (o ++ [r]))
    rw [rowF_app, rowF_single, List.length_append]; exact hown1
/-- The content of a message. -/
def ctM (m : Ms) : Ct := ⟨m.text, 0, bs (Lib.decDigits m.id.toNat), m.time⟩
/-- What the region that adds a content has left. -/
def factC (p : Nat) (B : Nat) (m : Ms) (vo : Value) (o : List CtV) (f : Nat → Bool) : Nat → Value → World → Prop
  | 0, x, _ => x = vo
  | 1, x, _ => x = .pointer (some ⟨p, 4, none⟩)
  | 2, x, _ => x = .string (bs m.text)
  | 3, x, w => ∃ A n c, x = .slice A n c ∧ (f 11 = false → BIn w.heap.size w x m.text)
  | 4, x, _ => x = .pointer (some ⟨p, 1, none⟩)
  | 5, x, _ => x = .int .i64 m.id
  | 6, x, _ => x = .string (bs (Lib.decDigits m.id.toNat))
  | 7, x, _ => x = .pointer (some ⟨p, 3, none⟩)
  | 8, x, _ => x = .int .i64 m.time
  | 9, x, w => ∃ q : CtV, x = .agg #[.slice q.A q.n q.c, .slice (some ⟨q.g, 0, none⟩) 1 1] ∧ (∀ y ∈ o, y.g ≠ q.g) ∧ (f 11 = false → CtIn B w q (ctM m))
  | 10, x, w => ∃ (q : CtV) (g c : Nat), x = .slice (some ⟨g, 0, none⟩) 1 c ∧ (∀ y ∈ o, y.g ≠ q.g) ∧ (f 11 = false → CtIn B w q (ctM m) ∧ g < w.heap.size ∧ ∀ j, j < 2 → w.cell? ⟨g, j, none⟩ = (encCt q)[j]?)
  | 11, x, w => ∃ q : CtV, OR 43 2 encCt B x (o ++ [q]) w ∧ (∀ y ∈ o, y.g ≠ q.g) ∧ CtIn B w q (ctM m)
  | 12, x, w => ∃ q : CtV, OR 43 2 encCt B x (o ++ [q]) w ∧ (∀ y ∈ o, y.g ≠ q.g) ∧ CtIn B w q (ctM m)
  | _, _, _ => True
theorem upI_neC (f : Nat → Bool) {i j : Nat} (h : j ≠ i) : upI f i j = f j := by unfold upI; rw [if_neg h]
theorem factC_later {p B : Nat} {m : Ms} {vo : Value} {o : List CtV} {f : Nat → Bool} {i : Nat} {w w' : World} (hi : i ≠ 11) (hb : Below w.heap.size w w') : ∀ (j : Nat) (x : Value), factC p B m vo o f j x w → factC p B m vo o (upI f i) j x w' := by
  have h11 : upI f i 11 = f 11 := upI_neC f (Ne.symm hi)
  intro j x h
  match j with
  | 0 | 1 | 2 | 4 | 5 | 6 | 7 | 8 => exact h
  | 3 =>
    obtain ⟨A, n, c, e, hq⟩ := h
    exact ⟨A, n, c, e, fun h0 => (hq (h11 ▸ h0)).later hb⟩
  | 9 =>
    obtain ⟨q, e, hd, hq⟩ := h
    exact ⟨q, e, hd, fun h0 => (hq (h11 ▸ h0)).later hb⟩
  | 10 =>
    obtain ⟨q, g, c, e, hd, hq⟩ := h
    refine ⟨q, g, c, e, hd, fun h0 => ?_⟩
    obtain ⟨h1, h2, h3⟩ := hq (h11 ▸ h0)
    exact ⟨h1.later hb, Nat.lt_of_lt_of_le h2 hb.size, fun j hj => (hb.cell (p := ⟨g, j, none⟩) h2).trans (h3 j hj)⟩
  | 11 | 12 =>
    obtain ⟨q, h1, hd, h2⟩ := h
    exact ⟨q, h1.later hb, hd, h2.later hb⟩
  | _ + 13 => exact trivial
theorem factC_end {p B : Nat} {m : Ms} {vo : Value} {o : List CtV} {f : Nat → Bool} {w w' : World} : ∀ (j : Nat) (x : Value), j ≠ 11 → j ≠ 12 → factC p B m vo o f j x w → factC p B m vo o (upI f 11) j x w' := by
  have h11 : upI f 11 11 ≠ false := by intro h; cases h
  intro j x hj hj2 h
  match j with
  | 0 | 1 | 2 | 4 | 5 | 6 | 7 | 8 => exact h
  | 3 =>
    obtain ⟨A, n, c, e, -⟩ := h
    exact ⟨A, n, c, e, fun h0 => absurd h0 h11⟩
  | 9 =>
    obtain ⟨q, e, hd, -⟩ := h
    exact ⟨q, e, hd, fun h0 => absurd h0 h11⟩
  | 10 =>
    obtain ⟨q, g, c, e, hd, -⟩ := h
    exact ⟨q, g, c, e, hd, fun h0 => absurd h0 h11⟩
  | 11 => exact absurd rfl hj
  | 12 => exact absurd rfl hj2
  | _ + 13 => exact trivial
/-- The world in that region: the row that grows, the message's box, the elder contents. -/
def StC (p B : Nat) (m : Ms) (vo : Value) (o : List CtV) (ds : List Ct) (W : World) (f : Nat → Bool) (w : World) : Prop :=
  Below B W w ∧ w.heap[p]? = some (.cells (encM m).toArray 28 (0, 0)) ∧ (f 11 = false → OR 43 2 encCt B vo o w) ∧ (∀ i (h : i < o.length) (h2 : i < ds.length), CtIn B w o[i] ds[i])
theorem StC.step {p B : Nat} {m : Ms} {vo : Value} {o : List CtV} {ds : List Ct} {W : World} {f : Nat → Bool} {w w' : World} (h : StC p B m vo o ds W f w) (i : Nat) (hi : i ≠ 11) (hb : Below w.heap.size w w') (hB : B ≤ W.heap.size) : StC p B m vo o ds W (upI f i) w' :=
  ⟨h.1.trans (hb.mono (Nat.le_trans hB h.1.size)), (hb.block p (Array.getElem?_eq_some_iff.1 h.2.1).1).trans h.2.1, fun h0 => OR.later (h.2.2.1 (by rw [← h0]; unfold upI; rw [if_neg (Ne.symm hi)])) hb, fun j h1 h2 => (h.2.2.2 j h1 h2).later hb⟩
end Go.Proofs.YthmpcdjhighhgaaGreatDoor
namespace Go.Proofs.YthmpcdjhighhgaaGreatDoor
set_option linter.unusedVariables false
set_option linter.unusedSimpArgs false
set_option maxRecDepth 100000
open Go.RowKit
def srcA (nm : ByteArray) (k : Int) (A : Option Addr) (n c : Nat) : Value := .agg #[.string nm, .int .i64 k, .slice none 0 0, .slice none 0 0, .slice A n c]
/-- What hands back contents, and no error. -/
def CtPost (ds : List Ct) (w : World) (e : Ending) (w' : World) : Prop := ∃ v o, e = .returned (.tuple #[v, .int .i64 0]) ∧ OR 43 2 encCt w.heap.size v o w' ∧ o.length = ds.length ∧ o.Pairwise (fun a b => a.g ≠ b.g) ∧ (∀ i (h : i < o.length) (h2 : i < ds.length), CtIn w.heap.size w' o[i] ds[i]) ∧ Below w.heap.size w w'
set_option maxHeartbeats 8000000 in
theorem contents3_any (nm : ByteArray) (A : Option Addr) (n c : Nat) (b : List UInt8) (w : World) (hb : BIn w.heap.size w (.slice A n c) b) (hl : b.length ≤ 1000000000) (hE : parseE b = 0) (hV : VrOK w) (hs : Small (parseO b)) (hok : errM (parseO b) = 0) :
    Calls Tryz.prog 13 #[.agg #[.string nm, .int .i64 3, .slice none 0 0, .slice none 0 0, .slice A n c]] w (CtPost ((keepM (parseO b)).map ctM) w) := by
  obtain ⟨i0, hi, hz0, hz1, hz2⟩ := info_parts info_ct
  have HBI := Lib.hid hb
  have HV := Lib.hid hV
  have hb0 : Below w.heap.size w (w.alloc (.cells #[.string nm, .int .i64 3, .slice none 0 0, .slice none 0 0, .slice A n c] 40)) := (Below.refl _ _).alloc (Nat.le_refl _) _
  have HP := Lib.hid (fun (w' : World) (h : Below w.heap.size w w') => parse_any _ b w' (HBI.out.later h) hl (HV.out.later h))
  have HTX := Lib.hid (show textsM (parseO b) = keepM (parseO b) from if_pos hok)
  have HT := Lib.hid (fun (v : Value) (w' : World) (h : MC v (parseO b) w') => texts_any v (parseO b) w' h hs)
  have hks : (keepM (parseO b)).length ≤ 100000 := by unfold keepM; have := List.length_filter_le (fun m : Ms => !(m.kind == 3)) (parseO b); have := hs.1; omega
  have HGD := Lib.hid (show ∀ m ∈ keepM (parseO b), 1 ≤ m.id ∧ m.id ≤ 1073741824 ∧ m.text.length ≤ 1000000 from fun m hm => by
    unfold keepM at hm
    have hm1 := (List.mem_filter.1 hm).1
    obtain ⟨-, -, h1, h2, -, -, -, -⟩ := wrongM_no ((errM_ok.1 hok).2.2.1 m hm1)
    exact ⟨h1, h2, (hs.2 m hm1).2⟩)
  have HEE := Lib.hid hE
  clear hb hV hs hok hE
  go_enter Tryz.func13, Tryz.ntmps13
  go_wp2_with fail
  refine (HP.out _ hb0).mono ?_
  rintro e w1 ⟨v, rfl, hv, hb1⟩
  rw [HEE.out]
  have hb01 := hb0.trans (hb1.mono hb0.size)
  have hmc := Lib.hid (MC.of_own hv)
  clear hv hb1 hb0
  go_wp2_with fail
  refine (HT.out v w1 hmc.out).mono ?_
  rintro e w2 ⟨v2, rfl, hv2, hb2⟩
  rw [HTX.out] at hv2
  obtain ⟨ks, hk⟩ : ∃ ks, keepM (parseO b) = ks := ⟨_, rfl⟩
  rw [hk] at hv2 HGD hks ⊢
  have HKS := Lib.hid hk
  have HMK := Lib.hid (MC.of_own hv2)
  obtain ⟨A2, c2, rfl, -, -⟩ := MC.of_own hv2
  have hb02 := hb01.trans (hb2.mono hb01.size)
  clear hv2 hb01 hb2 hmc hk HT HP HTX
  have hz := hb02.size
  go_wp2_with fail
  have HW := Lib.hid (fun (w' : World) (h : Below w2.heap.size w2 w') => hb02.trans (h.mono hz))
  clear hb02
  go_loopw [4, 78] (fun ov iv wr => ∃ (k : Nat) (o : List CtV), k ≤ ks.length ∧ iv = .int .i64 (k : Int) ∧ o.length = k ∧ Hid (o.Pairwise (fun a b => a.g ≠ b.g)) ∧ OR 43 2 encCt w2.heap.size ov o wr ∧ Hid (∀ i (h : i < o.length) (h2 : i < (ks.map ctM).length), CtIn w2.heap.size wr o[i] (ks.map ctM)[i]) ∧ Below w2.heap.size w2 wr) (fun _ iv _ => ks.length - (intOf iv).toNat)
  case atStart => exact ⟨0, [], by omega, rfl, rfl, List.Pairwise.nil, OR.nil_ _ _ _, fun i h => by simp at h, Below.refl _ _⟩
  case round =>
    obtain ⟨k, o, hk, rfl, ho, HPW, hown, hcs, hbel⟩ := hrel
    by_cases hlt : k < ks.length
    · have hd : decide ((k : Int) < (ks.length : Int)) = true := decide_eq_true (by omega)
      have hdn : decide (k < ks.length) = true := decide_eq_true hlt
      obtain ⟨A', c', hv', -, hcell⟩ := HMK.out
      injection hv' with e1 e2 e3
      obtain ⟨g, ff, hA, hg, hm⟩ := hcell.resolve_left (by rintro e; rw [e] at hlt; simp at hlt)
      rw [← e1] at hA
      subst hA
      obtain ⟨a0, a1, a2, a3, a4⟩ := (hm k hlt).later (hbel.block g hg)
      have HG := Lib.hid (HGD.out _ (List.getElem_mem hlt))
      obtain ⟨m, hmk⟩ : ∃ m, ks[k] = m := ⟨_, rfl⟩
      rw [hmk] at a0 a1 a2 a3 a4 HG
      have HMKK := Lib.hid hmk
      have H0 := Lib.hid (And.intro hown (And.intro hcs.out ho))
      have hb1 : Below w2.heap.size w2 (wr.alloc (.cells (encM m).toArray 28)) := hbel.alloc hbel.size _
      have hown1 : OR 43 2 encCt w2.heap.size u4 o (wr.alloc (.cells (encM m).toArray 28)) := OR.later hown ((Below.refl _ _).alloc (Nat.le_refl _) _)
      have hcs1 : ∀ i (h : i < o.length) (h2 : i < (ks.map ctM).length), CtIn w2.heap.size (wr.alloc (.cells (encM m).toArray 28)) o[i] (ks.map ctM)[i] := fun i h h2 => (hcs.out i h h2).later ((Below.refl _ _).alloc (Nat.le_refl _) _)
      have hrow : (wr.alloc (.cells (encM m).toArray 28)).heap[wr.heap.size]? = some (.cells (encM m).toArray 28 (0, 0)) := heap_alloc_new wr _
      have hS0 := Lib.hid (show StC wr.heap.size w2.heap.size m u4 o (ks.map ctM) w2 (fun _ => false) (wr.alloc (.cells (encM m).toArray 28)).drew from ⟨hb1.drew, hrow, fun _ => OR.later hown1 (Below.refl _ _).drew, fun i h h2 => (hcs1 i h h2).later (Below.refl _ _).drew⟩)
      clear hmk hcell hm hown hcs hb1 hown1 hcs1 hrow e1 e2 e3 HMK
      go_upto_region 21 with fail
      obtain ⟨W, hWe⟩ : ∃ W : World, W = wr.alloc (.cells #[.int .i64 m.kind, .int .i64 m.id, .string (bs m.who), .int .i64 m.time, .string (bs m.text)] 28) := ⟨_, rfl⟩
      replace hS0 : Hid (StC wr.heap.size w2.heap.size m u4 o (ks.map ctM) w2 (fun _ => false) W.drew) := by rw [hWe]; exact hS0
      rw [← hWe]
      clear hWe
      obtain ⟨p, hp⟩ : ∃ p, p = wr.heap.size := ⟨_, rfl⟩
      rw [← hp] at hS0 ⊢
      have hol : o.length ≤ 100000 := by have := H0.out.2.2; omega
      have HP := Lib.hid hp
      clear hp a0 a1 a2 a3 a4
      refine wp_region_facts (factC p w2.heap.size m u4 o) (StC p w2.heap.size m u4 o (ks.map ctM) w2) (by kernel_rfl) (by kernel_rfl) (by kernel_rfl) hS0.out ?_ ?_
      · refine FSteps.cons ?_ (FSteps.cons ?_ (FSteps.cons ?_ (FSteps.cons ?_ (FSteps.cons ?_ (FSteps.cons ?_ (FSteps.cons ?_ (FSteps.cons ?_ (FSteps.cons ?_ (FSteps.cons ?_ (FSteps.cons ?_ (FSteps.cons ?_ (FSteps.cons ?_ FSteps.nil))))))))))))
        all_goals (intro f v w0 h0 hpre hE hF hcl hU hS K hK; simp only [putAll, Act.put, List.setIfInBounds_toArray, List.set_cons_zero, List.set_cons_succ, Nat.zero_add, Nat.reduceAdd] at hK ⊢)
        · have h12 := closed_not hcl 13 12 0 (by kernel_rfl) h0
          have e12 : v 12 = u4 := hU 12 4 rfl h12
          rw [e12] at hK ⊢
          go_wp2_with fail
          exact hK.out _ _ (hS.step 0 (by decide) (Below.refl _ _) (Nat.le_refl _)) (fun j _ _ h => factC_later (by decide) (Below.refl _ _) j _ h) rfl
        · go_wp2_with fail
          exact hK.out _ _ (hS.step 1 (by decide) (Below.refl _ _) (Nat.le_refl _)) (fun j _ _ h => factC_later (by decide) (Below.refl _ _) j _ h) rfl
        · have e1 : v 1 = _ := hE.1 rfl
          rw [e1] at hK ⊢
          have c4 : w0.cell? ⟨p, 4, none⟩ = some (.string (bs m.text)) := by rw [cell_of_row _ _ _ _ _ _ hS.2.1]; rfl
          have HX := Lib.hid hS
          clear hS hE hF
          go_wp2_with fail
          exact hK.out _ _ (HX.out.step 2 (by decide) (Below.refl _ _) (Nat.le_refl _)) (fun j _ _ h => factC_later (by decide) (Below.refl _ _) j _ h) rfl
        · have e2 : v 2 = _ := hE.1 rfl
          rw [e2] at hK ⊢
          have hcv := fun w => Lib.run_convert_string_bytes (P := Tryz.prog) w 9 30 5 (bs m.text) Tryz.underlying9 Tryz.underlying30 Tryz.underlying5
          have HX := Lib.hid hS
          clear hS hE hF
          go_wp2_with fail
          have hbb := bw_below w0 5 (bs m.text)
          have hrb := RB.new w0 5 (bs m.text)
          rw [bl_bs] at hrb
          exact hK.out _ _ (HX.out.step 3 (by decide) hbb (Nat.le_refl _)) (fun j _ _ h => factC_later (by decide) hbb j _ h) ⟨_, _, _, rfl, fun _ => BIn.of_RB hrb (by rw [size_bs]) (grownCap_ge _ _ _ _)⟩
        · go_wp2_with fail
          exact hK.out _ _ (hS.step 4 (by decide) (Below.refl _ _) (Nat.le_refl _)) (fun j _ _ h => factC_later (by decide) (Below.refl _ _) j _ h) rfl
        · have e4 : v 4 = _ := hE.1 rfl
          rw [e4] at hK ⊢
          have c1 : w0.cell? ⟨p, 1, none⟩ = some (.int .i64 m.id) := by rw [cell_of_row _ _ _ _ _ _ hS.2.1]; rfl
          have HX := Lib.hid hS
          clear hS hE hF
          go_wp2_with fail
          exact hK.out _ _ (HX.out.step 5 (by decide) (Below.refl _ _) (Nat.le_refl _)) (fun j _ _ h => factC_later (by decide) (Below.refl _ _) j _ h) rfl
        · have e5 : v 5 = _ := hE.1 rfl
          rw [e5] at hK ⊢
          obtain ⟨ni, hni⟩ := Int.eq_ofNat_of_zero_le (show 0 ≤ m.id by have := HG.out.1; omega)
          have hit := itoa_any ni (by have := HG.out.2.1; omega) w0 (HV.out.later (HW.out _ hS.1))
          rw [← hni] at hit
          have HX := Lib.hid hS
          have HN := Lib.hid hni
          clear hS hE hF hni
          go_wp2_with fail
          refine hit.mono ?_
          rintro e w1' ⟨rfl, hbb⟩
          clear hit
          go_wp2_with fail
          exact hK.out _ _ (HX.out.step 6 (by decide) hbb (Nat.le_refl _)) (fun j _ _ h => factC_later (by decide) hbb j _ h) (by show _ = Value.string (bs (Lib.decDigits m.id.toNat)); rw [HN.out]; rfl)
        · go_wp2_with fail
          exact hK.out _ _ (hS.step 7 (by decide) (Below.refl _ _) (Nat.le_refl _)) (fun j _ _ h => factC_later (by decide) (Below.refl _ _) j _ h) rfl
        · have e7 : v 7 = _ := hE.1 rfl
          rw [e7] at hK ⊢
          have c3 : w0.cell? ⟨p, 3, none⟩ = some (.int .i64 m.time) := by rw [cell_of_row _ _ _ _ _ _ hS.2.1]; rfl
          have HX := Lib.hid hS
          clear hS hE hF
          go_wp2_with fail
          exact hK.out _ _ (HX.out.step 8 (by decide) (Below.refl _ _) (Nat.le_refl _)) (fun j _ _ h => factC_later (by decide) (Below.refl _ _) j _ h) rfl
        · have h11 := closed_not hcl 13 11 9 (by kernel_rfl) h0
          obtain ⟨A3, n3, c3, e3, hb3⟩ := hE.1 rfl
          have e6 : v 6 = _ := hE.2.1 rfl
          have e8 : v 8 = _ := hE.2.2.1 rfl
          rw [e3, e6, e8] at hK ⊢
          have hb3' := hb3 h11
          rw [e3] at hb3'
          have hsg := single_any _ m.text (bs (Lib.decDigits m.id.toNat)) m.time w0 hb3' (by have := HG.out.2.2; omega)
          have hnew : ∀ y ∈ o, y.g < w0.heap.size := fun y hy => by
            obtain ⟨i, hi', rfl⟩ := List.getElem_of_mem hy
            have := (hS.2.2.2 i hi' (by rw [List.length_map]; have := H0.out.2.2; omega)).2.2
            exact (Array.getElem?_eq_some_iff.1 this).1
          have HNW := Lib.hid hnew
          have HX := Lib.hid hS
          clear hS hE hF hb3 hb3' hU hnew
          go_wp2_with fail
          refine hsg.mono ?_
          rintro e w1' ⟨A9, n9, c9, g9, rfl, q1, q2, q3, hbb⟩
          clear hsg
          go_wp2_with fail
          have hz0 : w2.heap.size ≤ w0.heap.size := HX.out.1.size
          exact hK.out _ _ (HX.out.step 9 (by decide) hbb (Nat.le_refl _)) (fun j _ _ h => factC_later (by decide) hbb j _ h) ⟨⟨A9, n9, c9, g9⟩, rfl, fun y hy => by have := HNW.out y hy; show y.g ≠ g9; omega, fun _ => ⟨OB.mono q1 hz0, Nat.le_trans hz0 q2, q3⟩⟩
        · have h11 := closed_not hcl 13 11 10 (by kernel_rfl) h0
          obtain ⟨q, e9, hdq, hq⟩ := hE.1 rfl
          have HDQ := Lib.hid hdq
          clear hdq
          have hq' := hq h11
          rw [e9] at hK ⊢
          have HX := Lib.hid hS
          clear hS hE hF hq hU
          go_wp2_with fail
          have hbb := (Below.refl w0.heap.size w0).alloc (Nat.le_refl _) (.cells #[.slice q.A q.n q.c, .slice (some ⟨q.g, 0, none⟩) 1 1] 43)
          refine hK.out _ _ (HX.out.step 10 (by decide) hbb (Nat.le_refl _)) (fun j _ _ h => factC_later (by decide) hbb j _ h) ⟨q, w0.heap.size, 1, rfl, HDQ.out, fun _ => ⟨hq'.later hbb, by simp, fun j hj => ?_⟩⟩
          rcases (show j = 0 ∨ j = 1 by omega) with rfl | rfl <;> (rw [World.cell?_alloc_mark]; rfl)
        · have e0 : v 0 = _ := hE.1 rfl
          obtain ⟨q, g, cg, e10, hdq, hq⟩ := hE.2.1 rfl
          have HDQ := Lib.hid hdq
          clear hdq
          obtain ⟨q1, q2, q3⟩ := hq h0
          rw [e0, e10] at hK ⊢
          have hown := hS.2.2.1 h0
          have hsz := hS.1.size
          have HX := Lib.hid hS
          have HQ := Lib.hid q1
          clear hS hE hF hq q1 hU
          go_wp2_with (at_builtin; refine app_oneG encCt_E Tryz.underlying34 hi hz0 hz1 hz2 rfl (by omega) _ _ _ g cg o q _ rfl rfl rfl rfl q3 hown (by omega) hsz ?_; intro v' w1' hown' hgr)
          have hbB : Below w2.heap.size w2 w1' := HX.out.1.grown hgr hsz (fun k hk => (World.ownsRow.lt hown k hk).1)
          have hpl := (Array.getElem?_eq_some_iff.1 HX.out.2.1).1
          have hnp : some p ≠ u4.ownBlock := fun e => by
            rcases hown.2 with ⟨e1, -⟩ | ⟨g', cap, cur, e1, -, hg', -⟩
            · rw [e1] at e; cases e
            · rw [e1] at e
              injection e with e
              have h5 := HX.out.2.1
              rw [e, hg'] at h5
              injection h5 with h5
              injection h5 with h6 h7
              exact absurd h7 (by decide)
          refine hK.out _ _ ⟨hbB, (hgr.block p hpl hnp).trans HX.out.2.1, fun h => absurd h (by intro h; cases h), fun i h1 h2 => (HX.out.2.2.2 i h1 h2).grown hown hgr⟩ (fun j hj hfj h => factC_end j _ hj ?_ h) ⟨q, hown', HDQ.out, HQ.out.grown hown hgr⟩
          rintro rfl
          have := closed_reach hcl 13 12 11 (by kernel_rfl) hfj
          rw [h0] at this
          cases this
        · have h11 : f 11 = true := hpre.1 rfl
          obtain ⟨q, r1, rd, r2⟩ := hE.1 rfl
          have HX := Lib.hid hS
          have HQ := Lib.hid (And.intro r1 (And.intro rd r2))
          clear hS hE hF r1 r2 rd
          go_wp2_with fail
          exact hK.out _ _ (HX.out.step 12 (by decide) (Below.refl _ _) (Nat.le_refl _)) (fun j _ _ h => factC_later (by decide) (Below.refl _ _) j _ h) ⟨q, HQ.out.1, HQ.out.2.1, HQ.out.2.2⟩
      · intro f v w' hall hF hS
        obtain ⟨q, r1, rd, r2⟩ := hF 12 (by decide)
        have HRD := Lib.hid rd
        clear rd
        simp only [putAll, Act.put, List.setIfInBounds_toArray, List.set_cons_zero, List.set_cons_succ, Nat.zero_add, Nat.reduceAdd]
        have HX := Lib.hid (And.intro r1 (And.intro r2 hS))
        clear hF hall hS r1 r2
        obtain ⟨W', hW'⟩ : ∃ W' : World, W' = w' := ⟨_, rfl⟩
        rw [← hW'] at HX ⊢
        clear hW'
        have hx := HX.out
        obtain ⟨r1, r2, r3⟩ := hx
        go_wp2
        go_roundw
        case rel =>
          refine ⟨k + 1, o ++ [q], by omega, by go_num, by simp; exact H0.out.2.2, List.pairwise_append.2 ⟨HPW.out, by simp, fun a ha b hb => by rw [List.mem_singleton.1 hb]; exact HRD.out a ha⟩, r1, fun i h h2 => ?_, r3.1⟩
          by_cases hik : i < o.length
          · rw [List.getElem_append_left hik]
            exact r3.2.2.2 i hik h2
          · have hie : i = o.length := by simp at h; omega
            have hok : o.length = k := H0.out.2.2
            rw [List.getElem_append_right (by omega)]
            simp only [hie, Nat.sub_self, List.getElem_cons_zero, List.getElem_map]
            have : ks[o.length]'(by rw [hok]; exact hlt) = m := by rw [← HMKK.out]; congr 1
            rw [this]
            exact r2
        case measure => simp [intOf]; omega
    · have hd : decide ((k : Int) < (ks.length : Int)) = false := decide_eq_false (by omega)
      have hdn : decide (k < ks.length) = false := decide_eq_false hlt
      have hke : k = ks.length := by omega
      have H0 := Lib.hid (show OR 43 2 encCt w2.heap.size u4 o wr ∧ o.length = (ks.map ctM).length ∧ (∀ i (h : i < o.length) (h2 : i < (ks.map ctM).length), CtIn w2.heap.size wr o[i] (ks.map ctM)[i]) ∧ Below w.heap.size w wr from ⟨hown, by rw [List.length_map]; omega, hcs.out, HW.out _ hbel⟩)
      clear hlt hke hown hcs ho
      go_wp2
      go_ret2
      obtain ⟨h1, h2, h3, h4⟩ := H0.out
      show CtPost _ _ _ _
      rw [HKS.out]
      exact ⟨u4, o, rfl, OR.mono h1 hz, h2, HPW.out, fun i a b => ⟨OB.mono (h3 i a b).1 hz, Nat.le_trans hz (h3 i a b).2.1, (h3 i a b).2.2⟩, h4⟩
end Go.Proofs.YthmpcdjhighhgaaGreatDoor
namespace Go.Proofs.YthmpcdjhighhgaaGreatDoor
set_option linter.unusedVariables false
set_option linter.unusedSimpArgs false
set_option maxRecDepth 100000
open Go.RowKit
set_option maxHeartbeats 2000000 in
theorem srcValid3_any (nm : ByteArray) (A : Option Addr) (n c : Nat) (b : List UInt8) (w : World) (hnm : srcOK (bl nm) = true) (hns : nm.size ≤ 1000000) (hb : BIn w.heap.size w (.slice A n c) b) (hl : b.length ≤ 1000000000) (hV : VrOK w) :
    Calls Tryz.prog 12 #[.agg #[.string nm, .int .i64 3, .slice none 0 0, .slice none 0 0, .slice A n c]] w fun e w' => e = .returned (.int .i64 (parseE b)) ∧ Below w.heap.size w w' := by
  have HBI := Lib.hid hb
  have HV := Lib.hid hV
  have hb0 : Below w.heap.size w (w.alloc (.cells #[.string nm, .int .i64 3, .slice none 0 0, .slice none 0 0, .slice A n c] 40)) := (Below.refl _ _).alloc (Nat.le_refl _) _
  have HP := Lib.hid (fun (w' : World) (h : Below w.heap.size w w') => parse_any _ b w' (HBI.out.later h) hl (HV.out.later h))
  have HN := Lib.hid hnm
  have hrow : (w.alloc (.cells #[.string nm, .int .i64 3, .slice none 0 0, .slice none 0 0, .slice A n c] 40)).heap[w.heap.size]? = some (.cells #[.string nm, .int .i64 3, .slice none 0 0, .slice none 0 0, .slice A n c] 40 (0, 0)) := heap_alloc_new w _
  have HR := Lib.hid hrow
  have HB0 := Lib.hid hb0
  have hsz0 : (w.alloc (.cells #[.string nm, .int .i64 3, .slice none 0 0, .slice none 0 0, .slice A n c] 40)).heap.size = w.heap.size + 1 := by simp
  have HS0 := Lib.hid hsz0
  clear hb hV hnm hrow hb0 hsz0
  go_enter Tryz.func12, Tryz.ntmps12
  go_wp2_with fail
  refine (srcNamed_any nm _ hns).mono ?_
  rintro e w1 ⟨rfl, hb1⟩
  rw [HN.out]
  have hr1 := (hb1.block w.heap.size (by have := HS0.out; omega)).trans HR.out
  have c0 : w1.cell? ⟨w.heap.size, 0, none⟩ = some (.string nm) := by rw [cell_of_row _ _ _ _ _ _ hr1]; rfl
  have c1 : w1.cell? ⟨w.heap.size, 1, none⟩ = some (.int .i64 3) := by rw [cell_of_row _ _ _ _ _ _ hr1]; rfl
  have c2 : w1.cell? ⟨w.heap.size, 2, none⟩ = some (.slice none 0 0) := by rw [cell_of_row _ _ _ _ _ _ hr1]; rfl
  have c3 : w1.cell? ⟨w.heap.size, 3, none⟩ = some (.slice none 0 0) := by rw [cell_of_row _ _ _ _ _ _ hr1]; rfl
  have c4 : w1.cell? ⟨w.heap.size, 4, none⟩ = some (.slice A n c) := by rw [cell_of_row _ _ _ _ _ _ hr1]; rfl
  have HR1 := Lib.hid hr1
  have HB1 := Lib.hid (HB0.out.trans (hb1.mono HB0.out.size))
  clear hb1 hr1
  go_wp2_with fail
  refine (srcRight_any nm 3 A n c w1 (by decide) (by decide)).mono ?_
  rintro e w2 ⟨rfl, hb2⟩
  have hr2 := (hb2.block w.heap.size (Array.getElem?_eq_some_iff.1 HR1.out).1).trans HR1.out
  clear c0 c1 c2 c3 c4
  have c1 : w2.cell? ⟨w.heap.size, 1, none⟩ = some (.int .i64 3) := by rw [cell_of_row _ _ _ _ _ _ hr2]; rfl
  have c4 : w2.cell? ⟨w.heap.size, 4, none⟩ = some (.slice A n c) := by rw [cell_of_row _ _ _ _ _ _ hr2]; rfl
  have HB2 := Lib.hid (HB1.out.trans (hb2.mono HB1.out.size))
  clear hb2 hr2
  go_wp2_with fail
  refine (HP.out _ HB2.out).mono ?_
  rintro e w3 ⟨v, rfl, -, hb3⟩
  clear c1 c4
  go_wp2_with fail
  go_ret
  exact ⟨rfl, HB2.out.trans (hb3.mono HB2.out.size)⟩
def Ct.num (d : Ct) (x : Int) : Ct := { d with src := x }
theorem CtIn.set_other {B : Nat} {w : World} {x : CtV} {d : Ct} {g : Nat} {s t : Int} {p : ByteArray} (h : CtIn B w x d) (hg : PlIn w g s p t) (hne : x.g ≠ g) (j : Nat) (v : Value) : CtIn B (w.setCell ⟨g, j, none⟩ v) x d := by
  obtain ⟨h1, h2, h3⟩ := h
  refine ⟨h1.keep fun k hk => Below.heap_setCell _ _ _ _ (fun e => ?_), h2, (Below.heap_setCell _ _ _ _ hne).trans h3⟩
  rcases h1.2 with ⟨e1, -⟩ | ⟨g', cap, cur, e1, -, hg', -⟩
  · rw [e1] at hk; cases hk
  · rw [e1] at hk
    injection hk with hk
    have hk2 : g' = k := hk
    have e' : k = g := e
    rw [hk2, e'] at hg'
    rw [show w.heap[g]? = _ from hg] at hg'
    injection hg' with hg'
    injection hg' with e2 e3
    exact absurd e3 (by decide)
theorem CtIn.set_own {B : Nat} {w : World} {x : CtV} {d : Ct} (h : CtIn B w x d) (num : Int) : CtIn B (w.setCell ⟨x.g, 0, none⟩ (.int .i64 num)) x (d.num num) := by
  obtain ⟨h1, h2, h3⟩ := h
  refine ⟨h1.keep fun k hk => Below.heap_setCell _ _ _ _ (fun e => ?_), h2, set_rowS h3 0 _⟩
  rcases h1.2 with ⟨e1, -⟩ | ⟨g', cap, cur, e1, -, hg', -⟩
  · rw [e1] at hk; cases hk
  · rw [e1] at hk
    injection hk with hk
    have hk2 : g' = k := hk
    have e' : k = x.g := e
    rw [hk2, e'] at hg'
    rw [show w.heap[x.g]? = _ from h3] at hg'
    injection hg' with hg'
    injection hg' with e2 e3
    exact absurd e3 (by decide)
theorem OR_set_other {B : Nat} {w : World} {v : Value} {o : List CtV} {g : Nat} {s t : Int} {p : ByteArray} (h : OR 43 2 encCt B v o w) (hg : PlIn w g s p t) (j : Nat) (u : Value) : OR 43 2 encCt B v o (w.setCell ⟨g, j, none⟩ u) := by
  refine OR.keep h fun k hk => Below.heap_setCell _ _ _ _ (fun e => ?_)
  rcases h.2 with ⟨e1, -⟩ | ⟨g', cap, cur, e1, -, hg', -⟩
  · rw [e1] at hk; cases hk
  · rw [e1] at hk
    injection hk with hk
    have hk2 : g' = k := hk
    have e' : k = g := e
    rw [hk2, e'] at hg'
    rw [show w.heap[g]? = _ from hg] at hg'
    injection hg' with hg'
    injection hg' with e2 e3
    exact absurd e3 (by decide)
/-- What holds behind k contents. -/
def NumI (B : Nat) (num : Int) (ds : List Ct) (o : List CtV) (k : Nat) (w : World) : Prop := ∀ i (h : i < o.length) (h2 : i < ds.length), CtIn B w o[i] (if i < k then ds[i].num num else ds[i])
theorem NumI.later {B : Nat} {num : Int} {ds : List Ct} {o : List CtV} {k : Nat} {w w' : World} (h : NumI B num ds o k w) (hb : Below w.heap.size w w') : NumI B num ds o k w' := fun i h1 h2 => (h i h1 h2).later hb
theorem NumI.step {B : Nat} {num : Int} {ds : List Ct} {o : List CtV} {k : Nat} {w : World} (h : NumI B num ds o k w) (hp : o.Pairwise (fun a b => a.g ≠ b.g)) (hk : k < o.length) (hk2 : k < ds.length) : NumI B num ds o (k + 1) (w.setCell ⟨(o[k]).g, 0, none⟩ (.int .i64 num)) := by
  intro i h1 h2
  have hkk := h k hk hk2
  rw [if_neg (by omega)] at hkk
  by_cases e : i = k
  · subst e
    rw [if_pos (by omega)]
    exact hkk.set_own num
  · have hne : (o[i]).g ≠ (o[k]).g := by
      rw [List.pairwise_iff_getElem] at hp
      rcases Nat.lt_or_gt_of_ne e with g | g
      · exact hp i k h1 hk g
      · exact (hp k i hk h1 g).symm
    have := (h i h1 h2).set_other hkk.2.2 hne 0 (.int .i64 num)
    by_cases hik : i < k
    · rw [if_pos hik] at this; rw [if_pos (by omega)]; exact this
    · rw [if_neg hik] at this; rw [if_neg (by omega)]; exact this
set_option maxHeartbeats 4000000 in
theorem Contents_any (nm : ByteArray) (kd : Int) (A : Option Addr) (n c : Nat) (num : Int) (h0 : 0 ≤ num) (h1 : num < 32) (ds : List Ct) (w : World) (hds : ds.length ≤ 100000)
    (hvl : ∀ w', Below w.heap.size w w' → Calls Tryz.prog 12 #[.agg #[.string nm, .int .i64 kd, .slice none 0 0, .slice none 0 0, .slice A n c]] w' fun e w'' => e = .returned (.int .i64 0) ∧ Below w'.heap.size w' w'')
    (hct : ∀ w', Below w.heap.size w w' → Calls Tryz.prog 13 #[.agg #[.string nm, .int .i64 kd, .slice none 0 0, .slice none 0 0, .slice A n c]] w' (CtPost ds w')) :
    Calls Tryz.prog 6 #[.agg #[.string nm, .int .i64 kd, .slice none 0 0, .slice none 0 0, .slice A n c], .int .i64 num] w (CtPost (ds.map fun d => d.num num) w) := by
  have d0 : decide (num < 0) = false := decide_eq_false (by omega)
  have d1 : decide (32 ≤ num) = false := decide_eq_false (by omega)
  have hb0 : Below w.heap.size w (w.alloc (.cells #[.string nm, .int .i64 kd, .slice none 0 0, .slice none 0 0, .slice A n c] 40)) := (Below.refl _ _).alloc (Nat.le_refl _) _
  have hrow : (w.alloc (.cells #[.string nm, .int .i64 kd, .slice none 0 0, .slice none 0 0, .slice A n c] 40)).heap[w.heap.size]? = some (.cells #[.string nm, .int .i64 kd, .slice none 0 0, .slice none 0 0, .slice A n c] 40 (0, 0)) := heap_alloc_new w _
  have HR := Lib.hid hrow
  have HB0 := Lib.hid hb0
  have HVL := Lib.hid hvl
  have HCT := Lib.hid hct
  clear hb0 hrow hvl hct
  go_enter Tryz.func6, Tryz.ntmps6
  go_wp2_with fail
  refine (HVL.out _ HB0.out).mono ?_
  rintro e w1 ⟨rfl, hb1⟩
  have hr1 := (hb1.block w.heap.size (Array.getElem?_eq_some_iff.1 HR.out).1).trans HR.out
  have c0 : w1.cell? ⟨w.heap.size, 0, none⟩ = some (.string nm) := by rw [cell_of_row _ _ _ _ _ _ hr1]; rfl
  have c1 : w1.cell? ⟨w.heap.size, 1, none⟩ = some (.int .i64 kd) := by rw [cell_of_row _ _ _ _ _ _ hr1]; rfl
  have c2 : w1.cell? ⟨w.heap.size, 2, none⟩ = some (.slice none 0 0) := by rw [cell_of_row _ _ _ _ _ _ hr1]; rfl
  have c3 : w1.cell? ⟨w.heap.size, 3, none⟩ = some (.slice none 0 0) := by rw [cell_of_row _ _ _ _ _ _ hr1]; rfl
  have c4 : w1.cell? ⟨w.heap.size, 4, none⟩ = some (.slice A n c) := by rw [cell_of_row _ _ _ _ _ _ hr1]; rfl
  have HB1 := Lib.hid (HB0.out.trans (hb1.mono HB0.out.size))
  clear hb1 hr1 HR HB0 HVL
  go_wp2_with fail
  refine (HCT.out _ HB1.out).mono ?_
  rintro e w2 ⟨v, o, rfl, hown, hol, hpw, hcs, hb2⟩
  have hz1 := HB1.out.size
  have hB2 := HB1.out.trans (hb2.mono HB1.out.size)
  have hown2 := OR.mono hown hz1
  obtain ⟨Ao, co, rfl, hco, -⟩ := OR.cells encCt_E hown2
  have HO := Lib.hid hown2
  have HPW := Lib.hid hpw
  have HN0 := Lib.hid (show NumI w.heap.size num ds o 0 w2 from fun i a b => by rw [if_neg (by omega)]; exact ⟨OB.mono (hcs i a b).1 hz1, Nat.le_trans hz1 (hcs i a b).2.1, (hcs i a b).2.2⟩)
  have HB2 := Lib.hid hB2
  have hol' : o.length ≤ 100000 := by omega
  have HOL := Lib.hid hol
  clear c0 c1 c2 c3 c4 hown hown2 hpw hcs hb2 hB2 hol HB1 HCT
  go_wp2_with fail
  go_loopw [33] (fun iv wr => ∃ k : Nat, k ≤ o.length ∧ iv = .int .i64 (k : Int) ∧ Hid (OR 43 2 encCt w.heap.size (.slice Ao o.length co) o wr ∧ NumI w.heap.size num ds o k wr ∧ Below w.heap.size w wr)) (fun iv _ => o.length - (intOf iv).toNat)
  case atStart => exact ⟨0, by omega, rfl, HO.out, HN0.out, HB2.out⟩
  case round =>
    obtain ⟨k, hk, rfl, HI⟩ := hrel
    by_cases hlt : k < o.length
    · have hd : decide ((k : Int) < (o.length : Int)) = true := decide_eq_true (by omega)
      have hdn : decide (k < o.length) = true := decide_eq_true hlt
      obtain ⟨A', c', hv', -, hcell⟩ := OR.cells encCt_E HI.out.1
      injection hv' with e1 e2 e3
      obtain ⟨g, hA, hBg, hg, hm⟩ := hcell.resolve_left (by rintro e; rw [e] at hlt; simp at hlt)
      rw [← e1] at hA
      subst hA
      have q0 := (hm k hlt 0 (by decide)).1
      have q1 := (hm k hlt 1 (by decide)).1
      have hkd : k < ds.length := by have := HOL.out; omega
      have hpl := (HI.out.2.1 k hlt hkd)
      rw [if_neg (by omega)] at hpl
      obtain ⟨x, hx⟩ : ∃ x, o[k] = x := ⟨_, rfl⟩
      rw [hx] at q0 q1 hpl
      replace q0 : wr.cell? ⟨g, k * 2, none⟩ = some (.slice x.A x.n x.c) := q0
      replace q1 : wr.cell? ⟨g, k * 2 + 1, none⟩ = some (.slice (some ⟨x.g, 0, none⟩) 1 1) := q1
      have HX := Lib.hid hx
      have hpl0 := hpl
      have hW1 : (wr.alloc (.cells #[.slice x.A x.n x.c, .slice (some ⟨x.g, 0, none⟩) 1 1] 43)).heap[wr.heap.size]? = some (.cells #[.slice x.A x.n x.c, .slice (some ⟨x.g, 0, none⟩) 1 1] 43 (0, 0)) := heap_alloc_new wr _
      have hbb := (Below.refl wr.heap.size wr).alloc (Nat.le_refl _) (.cells #[.slice x.A x.n x.c, .slice (some ⟨x.g, 0, none⟩) 1 1] 43)
      have HP1 := Lib.hid (hpl.later hbb)
      have HI1 := Lib.hid (show OR 43 2 encCt w.heap.size (.slice (some ⟨g, 0, none⟩) o.length co) o _ ∧ NumI w.heap.size num ds o k _ ∧ Below w.heap.size w _ from ⟨OR.later HI.out.1 hbb, HI.out.2.1.later hbb, HI.out.2.2.trans (hbb.mono HI.out.2.2.size)⟩)
      have HW1 := Lib.hid hW1
      clear hcell hm hpl hx e1 e2 e3 HI hW1 hbb
      obtain ⟨⟨p0, p1, p2⟩, pf⟩ := HP1.out.2.2.cells
      have HXG := Lib.hid (show x.g < wr.heap.size from by have := Array.getElem?_eq_some_iff.1 hpl0.2.2; exact this.1)
      clear hpl0
      go_wp2_with fail
      go_loopw [40] (fun jv wi => (jv = .int .i64 0 ∧ wi = wr.alloc (.cells #[.slice x.A x.n x.c, .slice (some ⟨x.g, 0, none⟩) 1 1] 43)) ∨ (jv = .int .i64 1 ∧ wi = (wr.alloc (.cells #[.slice x.A x.n x.c, .slice (some ⟨x.g, 0, none⟩) 1 1] 43)).setCell ⟨x.g, 0, none⟩ (.int .i64 num))) (fun jv _ => 1 - (intOf jv).toNat)
      case atStart => exact .inl ⟨rfl, rfl⟩
      case round =>
        rcases hrel with ⟨rfl, rfl⟩ | ⟨rfl, rfl⟩
        · go_wp2_with fail
          go_roundw
          case rel => exact .inr (by simp)
          case measure => simp [intOf]
        · go_wp2_with fail
          go_roundw
          case rel =>
            obtain ⟨h1, h2, h3⟩ := HI1.out
            have hst := h2.step HPW.out hlt hkd
            rw [HX.out] at hst
            refine ⟨k + 1, hlt, by go_num, ⟨OR_set_other h1 HP1.out.2.2 0 _, hst, h3.setCell (p := ⟨x.g, 0, none⟩) HP1.out.2.1 _⟩⟩
          case measure => simp [intOf]; omega
    · obtain rfl : k = o.length := by omega
      go_wp2_with fail
      go_ret2
      obtain ⟨h1, h2, h3⟩ := HI.out
      have hl := HOL.out
      exact ⟨_, o, rfl, h1, by simp; exact hl, HPW.out, fun i a b => by
        have := h2 i a (by simpa using b)
        rw [if_pos a] at this
        simpa using this, h3⟩
end Go.Proofs.YthmpcdjhighhgaaGreatDoor
namespace Go.Proofs.YthmpcdjhighhgaaGreatDoor
set_option linter.unusedVariables false
set_option linter.unusedSimpArgs false
set_option maxRecDepth 100000
open Go.RowKit
/-- A byte of an entry's name. -/
def arcC (c : Int) : Bool := decide (34 ≤ c) && decide (c ≤ 126)
def arcF : List UInt8 → Bool
  | [] => true
  | c :: r => arcC (c.toNat : Int) && arcF r
def arcOK (l : List UInt8) : Bool := arcF l && (decide (1 ≤ l.length) && decide (l.length ≤ 40))
theorem arcF_cons {u : UInt8} {c : Int} {r : List UInt8} (hc : c = u.toNat) : arcF (u :: r) = (arcC c && arcF r) := by subst hc; rfl
theorem arc_eq (s : ByteArray) (h : arcF (bl s) = true) (b c : Bool) (hb : b = decide (1 ≤ s.size)) (hc : c = decide (s.size ≤ 40)) : (b && c) = arcOK (bl s) := by unfold arcOK; rw [h, hb, hc, size_list]; rfl
theorem arc_no (s : ByteArray) (h : arcF (bl s) = false) : false = arcOK (bl s) := by unfold arcOK; rw [h]; rfl
set_option maxHeartbeats 1000000 in
theorem arcNamed_any (s : ByteArray) (w : World) (hs : s.size ≤ 1000000) : Calls Tryz.prog 51 #[.string s] w fun e w' => e = .returned (.bool (arcOK (bl s))) ∧ Below w.heap.size w w' := by
  have hcv := fun w => Lib.run_convert_string_bytes (P := Tryz.prog) w 9 30 5 s Tryz.underlying9 Tryz.underlying30 Tryz.underlying5
  obtain ⟨W, C, B, hW, hC, hB, hcell, hbel, -⟩ := conv_names w 5 s
  go_enter Tryz.func51, Tryz.ntmps51
  go_wp2
  rw [← hW, ← hC, ← hB]
  clear hcv hW hC
  have hBw := Lib.hid hB; clear hB
  go_loop [4, 8] (fun _ i => ∃ k : Nat, k ≤ s.size ∧ i = .int .i64 (k : Int) ∧ Hid (arcF ((bl s).drop k) = arcF (bl s))) (fun _ i => s.size - (intOf i).toNat)
  case atStart => exact ⟨0, Nat.zero_le _, rfl, rfl⟩
  case round =>
    obtain ⟨k, hk, rfl, HR⟩ := hrel
    by_cases hlt : k < s.size
    · obtain ⟨u, c, hcu, hc0, hc1, hc, hdr⟩ := byte_of hcell k hlt
      have HD := Lib.hid (show arcF (bl s) = (arcC c && arcF ((bl s).drop (k + 1))) by rw [← HR.out, hdr.out, arcF_cons hcu.out])
      cases hn : arcC c with
      | true =>
        have HN := Lib.hid (show arcF ((bl s).drop (k + 1)) = arcF (bl s) by rw [HD.out, hn]; rfl)
        have hcase : 34 ≤ c ∧ c ≤ 126 := by unfold arcC at hn; simp at hn; omega
        have d1 : decide (c < 33) = false := decide_eq_false (by omega)
        have d2 : decide (126 < c) = false := decide_eq_false (by omega)
        have d3 : (c == 33) = false := by simp; omega
        have d4 : (c != 33) = true := by simp; omega
        clear hn HD
        go_wp2
        go_round
        case rel => exact ⟨k + 1, by omega, by go_num, HN⟩
        case measure => simp [intOf]; omega
      | false =>
        have HN := Lib.hid (show arcF (bl s) = false by rw [HD.out, hn]; rfl)
        have hcase : c < 33 ∨ (¬ c < 33 ∧ 126 < c) ∨ c = 33 := by unfold arcC at hn; simp at hn; omega
        clear hn HD
        rcases hcase with h1 | ⟨h1, h2⟩ | rfl
        · have d1 : decide (c < 33) = true := decide_eq_true h1
          go_wp2
          go_ret
          exact ⟨ret_bool (arc_no s HN.out), hBw.out ▸ hbel⟩
        · have d1 : decide (c < 33) = false := decide_eq_false h1
          have d2 : decide (126 < c) = true := decide_eq_true h2
          go_wp2
          go_ret
          exact ⟨ret_bool (arc_no s HN.out), hBw.out ▸ hbel⟩
        · go_wp2
          go_ret
          exact ⟨ret_bool (arc_no s HN.out), hBw.out ▸ hbel⟩
    · obtain rfl : k = s.size := by omega
      have HN := Lib.hid (show arcF (bl s) = true by rw [← HR.out, List.drop_eq_nil_of_le (by rw [size_list]; exact Nat.le_refl _)]; rfl)
      by_cases h1 : 1 ≤ s.size
      · have e1 : decide ((s.size : Int) < 1) = false := decide_eq_false (by omega)
        have e2 : decide (1 ≤ (s.size : Int)) = true := decide_eq_true (by omega)
        by_cases h2 : s.size ≤ 40
        · have e3 : decide ((s.size : Int) ≤ 40) = true := decide_eq_true (by omega)
          go_wp2
          go_ret
          exact ⟨ret_bool (arc_eq s HN.out true true (decide_eq_true h1).symm (decide_eq_true h2).symm), hBw.out ▸ hbel⟩
        · have e3 : decide ((s.size : Int) ≤ 40) = false := decide_eq_false (by omega)
          go_wp2
          go_ret
          exact ⟨ret_bool (arc_eq s HN.out true false (decide_eq_true h1).symm (decide_eq_false h2).symm), hBw.out ▸ hbel⟩
      · have e2 : decide (1 ≤ (s.size : Int)) = false := decide_eq_false (by omega)
        go_wp2
        go_ret
        exact ⟨ret_bool (arc_eq s HN.out false (decide (s.size ≤ 40)) (decide_eq_false h1).symm rfl), hBw.out ▸ hbel⟩
theorem three1_any (w : World) : Calls Tryz.prog 29 #[.int .i64 1] w fun e w' => ∃ u, e = .returned u ∧ OB 5 w.heap.size u [0, 0, 1] w' ∧ Below w.heap.size w w' := by
  go_enter Tryz.func29, Tryz.ntmps29
  go_wp2
  go_ret
  exact ⟨_, rfl, ⟨rfl, .inr ⟨_, 3, _, rfl, Nat.le_refl _, heap_alloc_new w _, by decide, by decide, rfl, rfl⟩⟩, (Below.refl _ _).alloc (Nat.le_refl _) _⟩
theorem row1_any (ad : Addr) (c : Nat) (w : World) (h0 : w.cell? ad = some (.int .u8 120)) : Calls Tryz.prog 54 #[.slice (some ad) 1 c] w fun e w' => e = .returned (.int .i64 1) ∧ Below w.heap.size w w' := by
  go_enter Tryz.func54, Tryz.ntmps54
  go_wp2
  go_loopw [3] (fun i wr => i = .int .i64 1 ∧ Below w.heap.size w wr) (fun _ _ => 0)
  case atStart => exact ⟨rfl, Below.refl _ _⟩
  case round =>
    obtain ⟨rfl, hb⟩ := hrel
    go_wp2
    go_region
    all_goals
      go_wp2
      go_ret
      exact ⟨rfl, hb.drew⟩
end Go.Proofs.YthmpcdjhighhgaaGreatDoor
