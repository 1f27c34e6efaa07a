/- Walks: what is deleted in a row of the call's own. · Walks: all texts, by the code; what both texts share. -/
import Derived.Laws.OwnMore
import Derived.Test.YtklnakjmiljmhaaGreatDoorY34
import Derived.Test.YtklnakjmiljmhaaGreatDoorY28
namespace Go.Proofs.YtklnakjmiljmhaaGreatDoor
set_option linter.unusedVariables false
set_option linter.unusedSimpArgs false
set_option maxRecDepth 100000
open Go.RowKit
theorem rowM_set (r : List Ms) (i : Nat) (m : Ms) (hi : i < r.length) :
    (((((rowF encM r).set (i * 5) (.int .i64 m.kind)).set (i * 5 + 1) (.int .i64 m.id)).set (i * 5 + 2) (.string (bs m.who))).set (i * 5 + 3) (.int .i64 m.time)).set (i * 5 + 4) (.string (bs m.text)) = rowF encM (r.set i m) := by
  have hl : (rowF encM r).length = r.length * 5 := rowF_len encM_E r
  have hl2 : (rowF encM (r.set i m)).length = r.length * 5 := by rw [rowF_len encM_E, List.length_set]
  apply List.ext_getElem?
  intro p
  rcases Nat.lt_or_ge p (r.length * 5) with hp | hp
  · have hq : p / 5 < r.length := by omega
    have hs : p % 5 < 5 := by omega
    have e : p = p / 5 * 5 + p % 5 := by omega
    have h1 := rowF_get encM_E r (p / 5) (p % 5) hq hs
    have h2 := rowF_get encM_E (r.set i m) (p / 5) (p % 5) (by simpa using hq) hs
    rw [← e] at h1 h2
    rw [h2, List.getElem_set]
    by_cases hqi : i = p / 5
    · rw [if_pos hqi]
      have hc : p % 5 = 0 ∨ p % 5 = 1 ∨ p % 5 = 2 ∨ p % 5 = 3 ∨ p % 5 = 4 := by omega
      have hlen : p < (rowF encM r).length := by omega
      rcases hc with h | h | h | h | h <;>
        (simp only [List.getElem?_set, List.length_set, h, encM]
         repeat (first | rw [if_neg (by omega)] | rw [if_pos (by omega)])
         try rfl)
      all_goals simp [hlen]
    · rw [if_neg hqi, ← h1]
      simp only [List.getElem?_set]
      repeat rw [if_neg (by omega)]
  · rw [List.getElem?_eq_none (by simp only [List.length_set]; omega), List.getElem?_eq_none (by omega)]
/-- A message stored into a row of one's own. -/
theorem OM.set {B g n c : Nat} {r : List Ms} {w : World} (h : OM B (.slice (some ⟨g, 0, none⟩) n c) r w) (i : Nat) (hi : i < r.length) (m : Ms) :
    OM B (.slice (some ⟨g, 0, none⟩) n c) (r.set i m) (((((w.setCell ⟨g, i * 5, none⟩ (.int .i64 m.kind)).setCell ⟨g, i * 5 + 1, none⟩ (.int .i64 m.id)).setCell ⟨g, i * 5 + 2, none⟩ (.string (bs m.who))).setCell ⟨g, i * 5 + 3, none⟩ (.int .i64 m.time)).setCell ⟨g, i * 5 + 4, none⟩ (.string (bs m.text))) := by
  have hn : n = r.length := by
    rcases h.2 with ⟨h1, -⟩ | ⟨g', cap, cur, h1, -⟩
    · cases h1
    · injection h1
  subst hn
  have h5 := ((((h.stored (i * 5) (.int .i64 m.kind)).1.stored (i * 5 + 1) (.int .i64 m.id)).1.stored (i * 5 + 2) (.string (bs m.who))).1.stored (i * 5 + 3) (.int .i64 m.time)).1.stored (i * 5 + 4) (.string (bs m.text))
  have h6 := h5.1
  rw [rowM_set r i m hi] at h6
  show World.ownsRow _ _ _ _ _ (r.set i m).length _
  rw [List.length_set]; exact h6
def isDel (m : Ms) : Bool := m.kind == 3
theorem keepM_none {l : List Ms} (h : anyM isDel l = false) : keepM l = l := by
  unfold keepM
  rw [List.filter_eq_self]
  intro m hm
  have := anyM_no.1 h m hm
  unfold isDel at this
  rw [this]; rfl
theorem keepM_idx : ∀ {l : List Ms}, anyM isDel l = true → keepM (l.take (idxM isDel l + 1)) = l.take (idxM isDel l) ∧ idxM isDel l < l.length
  | [], h => by simp [anyM] at h
  | m :: r, h => by
    rw [idxM]
    by_cases hp : isDel m = true
    · rw [if_pos hp]
      refine ⟨?_, by simp⟩
      show keepM [m] = []
      unfold keepM isDel at *
      simp [hp]
    · rw [if_neg hp]
      rw [anyM] at h
      obtain ⟨h1, h2⟩ := keepM_idx (l := r) (by simpa [hp] using h)
      refine ⟨?_, by simpa using h2⟩
      rw [List.take_succ_cons, List.take_succ_cons]
      unfold keepM at *
      rw [List.filter_cons_of_pos (by unfold isDel at hp; simpa using hp), h1]
theorem Below.setCell5 {B : Nat} {a w : World} {g p0 p1 p2 p3 p4 : Nat} {v0 v1 v2 v3 v4 : Value} (h : Below B a w) (hg : B ≤ g) :
    Below B a (((((w.setCell ⟨g, p0, none⟩ v0).setCell ⟨g, p1, none⟩ v1).setCell ⟨g, p2, none⟩ v2).setCell ⟨g, p3, none⟩ v3).setCell ⟨g, p4, none⟩ v4) :=
  ((((h.setCell (p := ⟨g, p0, none⟩) hg _).setCell (p := ⟨g, p1, none⟩) hg _).setCell (p := ⟨g, p2, none⟩) hg _).setCell (p := ⟨g, p3, none⟩) hg _).setCell (p := ⟨g, p4, none⟩) hg _
set_option maxHeartbeats 4000000 in
theorem delete_any (o : List Ms) (v : Value) (B : Nat) (W : World) (hown : OM B v o W) (hB : B ≤ W.heap.size) (hl : o.length ≤ 100000) :
    Calls Tryz.prog 36 #[v, .func (.func 38) #[] #[]] W fun e w' => ∃ v', e = .returned v' ∧ OM B v' (keepM o) w' ∧ Below B W w' := by
  have ei := enters_of Tryz.func38 (by kernel_rfl) rfl
  have IX := Lib.hid (index_any 38 isDel v o W (MC.of_own hown) ⟨ei, fun m _ w => dels_any m w⟩ (by omega))
  have HO := Lib.hid hown
  obtain ⟨A, c, rfl, hc, hcell⟩ := OR.cells encM_E hown
  clear hown
  cases ha : anyM isDel o with
  | false =>
    have HE := Lib.hid (show ixI isDel o = -1 by unfold ixI; rw [ha]; rfl)
    have HK := Lib.hid (keepM_none ha)
    rw [HE.out] at IX
    clear ha hcell
    go_enter Tryz.func36, Tryz.ntmps36
    go_wp2_with fail
    refine IX.out.mono ?_
    rintro e w1 ⟨rfl, hb1⟩
    go_wp2_with fail
    go_ret
    exact ⟨_, rfl, by rw [HK.out]; exact HO.out.later hb1, hb1.mono hB⟩
  | true =>
    obtain ⟨hk1, hk2⟩ := keepM_idx ha
    obtain ⟨i0, hi0⟩ : ∃ i, idxM isDel o = i := ⟨_, rfl⟩
    rw [hi0] at hk1 hk2
    have HE := Lib.hid (show ixI isDel o = (i0 : Int) by unfold ixI; rw [ha, if_pos rfl, hi0])
    rw [HE.out] at IX
    have HK := Lib.hid hk1
    obtain ⟨g, rfl, hBg, hg, hcs⟩ := hcell.resolve_left (by rintro rfl; simp at hk2)
    clear ha hi0 hk1 hcs hcell
    have hne : ((i0 : Int) == -1) = false := by simp
    go_enter Tryz.func36, Tryz.ntmps36
    go_wp2_with fail
    refine IX.out.mono ?_
    rintro e w1 ⟨rfl, hb1⟩
    have HO1 := Lib.hid (HO.out.later hb1)
    have HB1 := Lib.hid (hb1.mono hB)
    clear hb1
    go_wp2_with fail
    go_loopw [5, 6] (fun vi vj wr => ∃ (i j : Nat) (r : List Ms), i < j ∧ j ≤ o.length ∧ vi = .int .i64 (i : Int) ∧ vj = .int .i64 (j : Int) ∧ OM B (.slice (some ⟨g, 0, none⟩) o.length c) r wr ∧ r.length = o.length ∧ Below B W wr ∧ Hid (r.take i = keepM (o.take j)) ∧ Hid (r.drop j = o.drop j)) (fun _ vj _ => o.length - (intOf vj).toNat)
    case atStart => exact ⟨i0, i0 + 1, o, by omega, by omega, rfl, by first | rfl | go_num, HO1.out, rfl, HB1.out, HK.out.symm, rfl⟩
    case round =>
      obtain ⟨i, j, r, hij, hj, rfl, rfl, hr, hrl, hbel, HT, HD⟩ := hrel
      by_cases hlt : j < o.length
      · have hd : decide ((j : Int) < (o.length : Int)) = true := decide_eq_true (by omega)
        have hdn : decide (j < o.length) = true := decide_eq_true hlt
        obtain ⟨A', c', hv, -, hcell⟩ := OR.cells encM_E hr
        injection hv with hv1 hv2 hv3
        obtain ⟨g', hg1, hBg', hg', hcs⟩ := hcell.resolve_left (by rintro rfl; simp at hrl; omega)
        rw [← hv1] at hg1
        injection hg1 with hg1
        injection hg1 with hg1
        subst hg1
        have q := hcs j (by omega)
        have q0 := (q 0 (by decide)).1
        have q1 := (q 1 (by decide)).1
        have q2 := (q 2 (by decide)).1
        have q3 := (q 3 (by decide)).1
        have q4 := (q 4 (by decide)).1
        have HR := Lib.hid hr
        obtain ⟨m, hm⟩ : ∃ m, r[j]'(by omega) = m := ⟨_, rfl⟩
        rw [hm] at q0 q1 q2 q3 q4
        have HM := Lib.hid hm
        clear hm q hcs hcell hv1 hv2 hv3 hr
        obtain ⟨kd, id, who, tm, tx⟩ := m
        replace q0 : wr.cell? ⟨g, j * 5, none⟩ = some (.int .i64 kd) := q0
        replace q1 : wr.cell? ⟨g, j * 5 + 1, none⟩ = some (.int .i64 id) := q1
        replace q2 : wr.cell? ⟨g, j * 5 + 2, none⟩ = some (.string (bs who)) := q2
        replace q3 : wr.cell? ⟨g, j * 5 + 3, none⟩ = some (.int .i64 tm) := q3
        replace q4 : wr.cell? ⟨g, j * 5 + 4, none⟩ = some (.string (bs tx)) := q4
        have hoj : o[j] = ⟨kd, id, who, tm, tx⟩ := by
          have h1 := HD.out
          rw [List.drop_eq_getElem_cons (show j < r.length by omega), List.drop_eq_getElem_cons hlt] at h1
          injection h1 with h1 h2
          rw [← h1, HM.out]
        have HD2 := Lib.hid (show r.drop (j + 1) = o.drop (j + 1) by rw [← List.drop_drop, HD.out, List.drop_drop])
        have hkt : keepM (o.take (j + 1)) = keepM (o.take j) ++ (if kd = 3 then [] else [⟨kd, id, who, tm, tx⟩]) := by
          rw [List.take_succ_eq_append_getElem hlt, hoj]
          unfold keepM
          rw [List.filter_append]
          congr 1
          by_cases h : kd = 3
          · rw [if_pos h]; simp [h]
          · rw [if_neg h]; simp [h]
        have HT2 := Lib.hid (show kd = 3 → r.take i = keepM (o.take (j + 1)) from fun h => by rw [hkt, if_pos h, List.append_nil]; exact HT.out)
        have HT3 := Lib.hid (show ¬ kd = 3 → (r.set i ⟨kd, id, who, tm, tx⟩).take (i + 1) = keepM (o.take (j + 1)) from fun h => by
          rw [hkt, if_neg h, ← HT.out, List.take_succ_eq_append_getElem (by rw [List.length_set]; omega), List.getElem_set_self, List.take_set_of_le (Nat.le_refl _)])
        have HD3 := Lib.hid (show (r.set i ⟨kd, id, who, tm, tx⟩).drop (j + 1) = o.drop (j + 1) by rw [List.drop_set_of_lt (by omega)]; exact HD2.out)
        clear hoj hkt
        have D := Lib.hid (fun w => dels_any ⟨kd, id, who, tm, tx⟩ w)
        have S := Lib.hid (show ∀ w2, Below (wr.heap.size + 1) (wr.alloc (Obj.cells #[.int .i64 kd, .int .i64 id, .string (bs who), .int .i64 tm, .string (bs tx)] 43)) w2 → MCell w2 wr.heap.size 0 ⟨kd, id, who, tm, tx⟩ from fun w2 hb => by
          have hm : MCell (wr.alloc (Obj.cells #[.int .i64 kd, .int .i64 id, .string (bs who), .int .i64 tm, .string (bs tx)] 43)) wr.heap.size 0 ⟨kd, id, who, tm, tx⟩ := by
            refine ⟨?_, ?_, ?_, ?_, ?_⟩ <;> (rw [World.cell?_alloc_mark]; rfl)
          exact hm.later (hb.block wr.heap.size (by omega)))
        have hz1 : (wr.alloc (Obj.cells #[.int .i64 kd, .int .i64 id, .string (bs who), .int .i64 tm, .string (bs tx)] 43)).heap.size = wr.heap.size + 1 := by simp
        have HZ1 := Lib.hid hz1
        have HBW := Lib.hid (show Below wr.heap.size wr (wr.alloc (Obj.cells #[.int .i64 kd, .int .i64 id, .string (bs who), .int .i64 tm, .string (bs tx)] 43)) from (Below.refl _ _).alloc (Nat.le_refl _) _)
        clear hz1
        by_cases h3 : kd = 3
        · have d3 : (kd == 3) = true := by simpa using h3
          have H3 := Lib.hid h3
          clear h3
          go_wp2_with fail
          refine (D.out _).mono ?_
          rintro e w2 ⟨rfl, hb2⟩
          have hbw := HBW.out.trans (hb2.mono HBW.out.size)
          clear hb2
          go_wp2_with fail
          go_roundw
          case rel => exact ⟨i, j + 1, r, by omega, by omega, rfl, by go_num, HR.out.later hbw, hrl, hbel.trans (hbw.mono (Nat.le_trans hB hbel.size)), HT2.out H3.out, HD2⟩
          case measure => simp [intOf]; omega
        · have d3 : (kd == 3) = false := by simpa using h3
          have H3 := Lib.hid h3
          clear h3
          go_wp2_with fail
          refine (D.out _).mono ?_
          rintro e w2 ⟨rfl, hb2⟩
          obtain ⟨s0, s1, s2, s3, s4⟩ := S.out w2 (by rw [← HZ1.out]; exact hb2)
          have hbw := HBW.out.trans (hb2.mono HBW.out.size)
          have HR2 := Lib.hid (HR.out.later hbw)
          have hfz : ∀ i' (h : i' < r.length), ∀ j' < 5, w2.frozen? ⟨g, i' * 5 + j', none⟩ = false := fun i' hi' j' hj' => by
            obtain ⟨A', c', hv, -, hcell⟩ := OR.cells encM_E HR2.out
            injection hv with hv1 hv2 hv3
            obtain ⟨g', hg1, -, -, hcs⟩ := hcell.resolve_left (by rintro rfl; simp at hi')
            rw [← hv1] at hg1
            injection hg1 with hg1
            injection hg1 with hg1
            subst hg1
            exact (hcs i' hi' j' hj').2
          have hil : i < r.length := by omega
          have z0 : w2.frozen? ⟨g, i * 5, none⟩ = false := hfz i hil 0 (by decide)
          have z1 := hfz i hil 1 (by decide)
          have z2 := hfz i hil 2 (by decide)
          have z3 := hfz i hil 3 (by decide)
          have z4 := hfz i hil 4 (by decide)
          have hold : (∃ v, w2.cell? ⟨g, i * 5, none⟩ = some v) ∧ (∃ v, w2.cell? ⟨g, i * 5 + 1, none⟩ = some v) ∧ (∃ v, w2.cell? ⟨g, i * 5 + 2, none⟩ = some v) ∧ (∃ v, w2.cell? ⟨g, i * 5 + 3, none⟩ = some v) ∧ (∃ v, w2.cell? ⟨g, i * 5 + 4, none⟩ = some v) := by
            obtain ⟨A', c', hv, -, hcell⟩ := OR.cells encM_E HR2.out
            injection hv with hv1 hv2 hv3
            obtain ⟨g', hg1, -, -, hcs⟩ := hcell.resolve_left (by rintro rfl; simp at hil)
            rw [← hv1] at hg1
            injection hg1 with hg1
            injection hg1 with hg1
            subst hg1
            exact ⟨⟨_, (hcs i hil 0 (by decide)).1⟩, ⟨_, (hcs i hil 1 (by decide)).1⟩, ⟨_, (hcs i hil 2 (by decide)).1⟩, ⟨_, (hcs i hil 3 (by decide)).1⟩, ⟨_, (hcs i hil 4 (by decide)).1⟩⟩
          clear hfz hb2
          obtain ⟨⟨y0, e0⟩, ⟨y1, e1⟩, ⟨y2, e2⟩, ⟨y3, e3⟩, ⟨y4, e4⟩⟩ := hold
          go_wp2_with fail
          go_roundw
          case rel => exact ⟨i + 1, j + 1, r.set i ⟨kd, id, who, tm, tx⟩, by omega, by omega, by go_num, by go_num, OM.set HR2.out i hil ⟨kd, id, who, tm, tx⟩, by rw [List.length_set]; exact hrl, Below.setCell5 (hbel.trans (hbw.mono (Nat.le_trans hB hbel.size))) hBg, HT3.out H3.out, HD3⟩
          case measure => simp [intOf]; omega
      · obtain rfl : j = o.length := by omega
        have hd : decide ((o.length : Int) < (o.length : Int)) = false := decide_eq_false (by omega)
        have hdn : decide (o.length < o.length) = false := decide_eq_false (by omega)
        have hr2 : OM B (.slice (some ⟨g, 0, none⟩) r.length c) r wr := by rw [hrl]; exact hr
        obtain ⟨w', hrun, hown', hb'⟩ := OR.clear encM_E hr2 i (by omega) (c - i) (.agg #[.int .i64 0, .int .i64 0, .string ⟨#[]⟩, .int .i64 0, .string ⟨#[]⟩]) Tryz.underlying30 (fun _ => by kernel_rfl) rfl (by decide)
        rw [hrl] at hrun
        have HW := Lib.hid (show r.take i = keepM o by rw [HT.out, List.take_length])
        have hne2 : ¬ c = i := by omega
        have hic : i ≤ c := by omega
        have hio : i ≤ o.length := by omega
        clear hr2 hr HD HT
        go_wp2_with fail
        go_ret
        exact ⟨_, rfl, HW.out ▸ hown', hbel.trans hb'⟩
end Go.Proofs.YtklnakjmiljmhaaGreatDoor
namespace Go.Proofs.YtklnakjmiljmhaaGreatDoor
set_option linter.unusedVariables false
set_option linter.unusedSimpArgs false
set_option maxRecDepth 100000
open Go.RowKit
set_option maxHeartbeats 1000000 in
theorem texts_any (v : Value) (l : List Ms) (w : World) (h : MC v l w) (hs : Small l) : Calls Tryz.prog 15 #[v] w (MsPost (textsM l) w) := by
  have V := Lib.hid (valid_any v l w h hs)
  have hl := hs.1
  have H := Lib.hid h
  clear hs h
  by_cases h0 : errM l = 0
  · rw [h0] at V
    have HT := Lib.hid (show textsM l = keepM l by unfold textsM; rw [if_pos h0])
    clear h0
    go_enter Tryz.func15, Tryz.ntmps15
    go_wp2_with fail
    refine V.out.mono ?_
    rintro e w0 ⟨rfl, hb0⟩
    have H0 := Lib.hid (H.out.later hb0 (Nat.le_refl _))
    go_wp2_with fail
    refine (clone_any _ l _ H0.out hl).mono ?_
    rintro e w1 ⟨v1, rfl, hv1, hb1⟩
    go_wp2_with fail
    refine (delete_any l _ w0.heap.size w1 hv1 hb1.size hl).mono ?_
    rintro e w2 ⟨v2, rfl, hv2, hb2⟩
    go_wp2_with fail
    go_ret
    exact ⟨_, rfl, HT.out ▸ hv2.mono hb0.size, (hb0.trans (hb1.mono hb0.size)).trans (hb2.mono hb0.size)⟩
  · have hne : (errM l != 0) = true := by simpa using h0
    have HT := Lib.hid (show textsM l = [] by unfold textsM; rw [if_neg h0])
    clear h0
    generalize errM l = x at *
    go_enter Tryz.func15, Tryz.ntmps15
    go_wp2_with fail
    refine V.out.mono ?_
    rintro e w0 ⟨rfl, hb0⟩
    go_wp2_with fail
    go_ret
    exact ⟨_, rfl, by rw [HT.out]; exact OR.nil_ _ _ _, hb0⟩
end Go.Proofs.YtklnakjmiljmhaaGreatDoor
