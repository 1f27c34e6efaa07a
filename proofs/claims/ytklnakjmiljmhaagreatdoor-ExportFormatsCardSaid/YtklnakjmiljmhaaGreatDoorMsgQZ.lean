/- Walks: what stands at a time, by the reference. -/
import Derived.ArgAppend
import Derived.Deep.CutRange
import Derived.Test.YtklnakjmiljmhaaGreatDoorY35
namespace Go.Proofs.YtklnakjmiljmhaaGreatDoor
set_option linter.unusedVariables false
set_option linter.unusedSimpArgs false
set_option maxRecDepth 100000
open Go.RowKit
/-- A slice value that reads as messages: nil, or at a place. -/
def MX (v : Value) (o : List Ms) (w : World) : Prop := (v = .slice none 0 0 ∧ o = []) ∨ ∃ g f c, v = .slice (some ⟨g, f, none⟩) o.length c ∧ o.length ≤ c ∧ g < w.heap.size ∧ ∀ i (h : i < o.length), MCell w g (f + i * 5) o[i]
theorem MX.mc {v : Value} {o : List Ms} {w : World} (h : MX v o w) : MC v o w := by
  rcases h with ⟨rfl, rfl⟩ | ⟨g, f, c, rfl, hc, hg, hm⟩
  · exact ⟨none, 0, rfl, by simp, .inl rfl⟩
  · exact ⟨_, _, rfl, hc, .inr ⟨g, f, rfl, hg, hm⟩⟩
theorem MX.later {v : Value} {o : List Ms} {w w' : World} (h : MX v o w) (hb : Below w.heap.size w w') : MX v o w' := by
  rcases h with h | ⟨g, f, c, rfl, hc, hg, hm⟩
  · exact .inl h
  · exact .inr ⟨g, f, c, rfl, hc, Nat.lt_of_lt_of_le hg hb.size, fun i hi => (hm i hi).later (hb.block g hg)⟩
theorem MX.of_own {B : Nat} {v : Value} {o : List Ms} {w : World} (h : OM B v o w) : MX v o w := by
  have hh := h
  rcases h.2 with ⟨rfl, h0⟩ | ⟨g, cap, cur, rfl, hB, hg, hle, -⟩
  · exact .inl ⟨rfl, List.length_eq_zero_iff.1 h0⟩
  · obtain ⟨A, c, hv, hc, hm⟩ := MC.of_own hh
    injection hv with h1 h2 h3
    refine .inr ⟨g, 0, cap, rfl, hle, (Array.getElem?_eq_some_iff.1 hg).1, fun i hi => ?_⟩
    obtain ⟨g', f', e, _, hm⟩ := hm.resolve_left (by rintro rfl; simp at hi)
    rw [← h1] at e
    injection e with e
    injection e with e1 e2
    subst e1 e2
    exact hm i hi
theorem putM_lt {m : Ms} {o : List Ms} {a : Nat} (ha : a < o.length) (h : (o[a]).id < m.id) : o.take a ++ putM m (o.drop a) = o.take (a + 1) ++ putM m (o.drop (a + 1)) := by
  rw [List.drop_eq_getElem_cons ha, putM, if_pos h, List.take_succ_eq_append_getElem ha, List.append_assoc]; rfl
/-- 'append(s, row...)' where there is no room: a new row. -/
theorem app_grow {α : Type} {enc : α → List Value} {n : Nat} (E : EncS enc n) {P : Program} {T e : TypeId} {i0 : TypeInfo} {z : Value} {by_ : Nat} (ht : P.underlying T = some (.slice e)) (hi : P.info? e = some i0) (hz0 : i0.zero = some z) (hz1 : i0.size = n) (hz2 : i0.bytes = by_) (hzs : z.cells.size = n) (hby : by_ ≤ 1000)
    {w : World} {ops : Array Oper} {rest : List Oper} {op : Oper} {a : Act} {Q : Exit → Act → World → Prop} (s x : Operand) (ao : Option Addr) (len cap : Nat) (ad : Addr) (m c : Nat) (o p : List α)
    (hgd : op.guard = none) (ho : op.op = .call { callee := .builtin .append, args := #[s, x], argTypes := #[T, T] })
    (hs : a.eval s = .slice ao len cap) (hlen : len = o.length) (hnone : ao = none → len = 0 ∧ cap = 0) (hco : ∀ b, ao = some b → ∀ i (hi : i < o.length), ∀ j < n, w.cell? (b.add (i * n + j)) = (enc o[i])[j]?)
    (hx : a.eval x = .slice (some ad) m c) (hm : m = p.length) (hc : ∀ i (hi : i < p.length), ∀ j < n, w.cell? (ad.add (i * n + j)) = (enc p[i])[j]?) (hfull : cap < len + m) (hl : o.length ≤ 1000000) (hl2 : p.length ≤ 1000000)
    (h : ∀ v' w1, OR e n enc w.heap.size v' (o ++ p) w1 → Below w.heap.size w w1 → wpList P ops Q rest (a.put op.dst v') w1) :
    wpList P ops Q (op :: rest) a w := by
  subst hlen hm
  have look : ∀ (q : List α) (b : Addr), (∀ i (hi : i < q.length), ∀ j < n, w.cell? (b.add (i * n + j)) = (enc q[i])[j]?) → ∀ j u, (rowF enc q)[j]? = some u → w.cell? (b.add j) = some u := by
    intro q b hq j u hj
    have hjl : j < q.length * n := by rw [← rowF_len E q]; exact (List.getElem?_eq_some_iff.1 hj).1
    have hn := E.pos
    have hqq : j / n < q.length := Nat.div_lt_of_lt_mul (by rw [Nat.mul_comm]; exact hjl)
    have hr := Nat.mod_lt j hn
    have hjj : j = j / n * n + j % n := by rw [Nat.mul_comm]; exact (Nat.div_add_mod j n).symm
    rw [hjj, hq _ hqq _ hr, ← rowF_get E q _ _ hqq hr, ← hjj]
    exact hj
  refine wpList_append_grows w hgd s x T ho e i0 z n by_ ht hi hz0 hz1 hz2 hzs E.pos ao o.length cap (rowF enc o) hs hnone (rowF_len E o) (fun b hb => look o b (hco b hb)) ad p.length c (rowF enc p) hx (rowF_len E p) (look p ad hc) (rowF_one E p) hfull (by unfold maxLen; omega) ?_ ?_
  · have : (o.length + p.length) * by_ ≤ (o.length + p.length) * 1000 := Nat.mul_le_mul_left _ hby
    omega
  · intro v' w1 hown1 hg
    refine h v' w1 ?_ ((Below.refl _ w).grown hg (Nat.le_refl _) (fun k hk => by cases hk))
    show w1.ownsRow _ e n v' (o ++ p).length (rowF enc (o ++ p))
    rw [rowF_app, List.length_append]; exact hown1
theorem MCell.get {w : World} {g f : Nat} {m : Ms} (h : MCell w g f m) : ∀ j < 5, w.cell? (Addr.add ⟨g, f, none⟩ (0 * 5 + j)) = (encM m)[j]? := fun j hj => by
  rw [Addr.add_lit, Nat.zero_mul, Nat.zero_add]; exact encM_get _ _ _ _ h j hj
theorem cells_at {w : World} {g f : Nat} {o : List Ms} (h : ∀ i (h : i < o.length), MCell w g (f + i * 5) o[i]) : ∀ i (hi : i < o.length), ∀ j < 5, w.cell? (Addr.add ⟨g, f, none⟩ (i * 5 + j)) = (encM o[i])[j]? := fun i hi j hj => by
  rw [Addr.add_lit, ← Nat.add_assoc]; exact encM_get _ _ _ _ (h i hi) j hj
theorem cells_drop {w : World} {g f a : Nat} {o : List Ms} (h : ∀ i (h : i < o.length), MCell w g (f + i * 5) o[i]) : ∀ i (hi : i < (o.drop a).length), MCell w g (f + a * 5 + i * 5) (o.drop a)[i] := fun i hi => by
  have hl : a + i < o.length := by rw [List.length_drop] at hi; omega
  have := h (a + i) hl
  rw [List.getElem_drop, show f + a * 5 + i * 5 = f + (a + i) * 5 by omega]
  exact this
theorem cells_take {w : World} {g f a : Nat} {o : List Ms} (h : ∀ i (h : i < o.length), MCell w g (f + i * 5) o[i]) : ∀ i (hi : i < (o.take a).length), MCell w g (f + i * 5) (o.take a)[i] := fun i hi => by
  have hl : i < o.length := by rw [List.length_take] at hi; omega
  rw [List.getElem_take]; exact h i hl
theorem MX.tail {g n c : Nat} {x : Ms} {r : List Ms} {w : World} (h : MX (.slice (some ⟨g, 0, none⟩) n c) (x :: r) w) : MX (.slice (some ⟨g, 5, none⟩) (n - 1) (c - 1)) r w := by
  rcases h with ⟨h, -⟩ | ⟨g', f', c', hv, hc, hg, hm⟩
  · cases h
  · injection hv with h1 h2 h3
    injection h1 with h1
    injection h1 with h4 h5
    subst h4 h5 h2 h3
    refine .inr ⟨g, 5, c - 1, by simp, by simp at hc; omega, hg, fun i hi => ?_⟩
    have := hm (i + 1) (by simpa using hi)
    rw [Nat.zero_add, Nat.succ_mul] at this
    rw [Nat.add_comm 5 (i * 5)]
    exact this
/-- What is left of the list behind the place. -/
def restM (m : Ms) (o : List Ms) (a : Nat) (is : Bool) : List Ms := o.take a ++ ((if m.kind = 3 then [] else [m]) ++ (if is then o.drop (a + 1) else o.drop a))
theorem putM_end {m : Ms} {o : List Ms} {a : Nat} (ha : o.length ≤ a) : o.take a ++ putM m (o.drop a) = restM m o a false := by
  unfold restM; rw [List.drop_eq_nil_of_le ha]; simp [putM]
theorem putM_is {m : Ms} {o : List Ms} {a : Nat} (ha : a < o.length) (h : ¬ (o[a]).id < m.id) (is : Bool) (hi : is = ((o[a]).id == m.id)) : o.take a ++ putM m (o.drop a) = restM m o a is := by
  unfold restM
  rw [List.drop_eq_getElem_cons ha, putM, if_neg h]
  by_cases e : (o[a]).id = m.id
  · rw [if_pos e, hi, show ((o[a]).id == m.id) = true by simpa using e, if_pos rfl]
    by_cases h3 : m.kind = 3
    · rw [if_pos h3, if_pos h3]; rfl
    · rw [if_neg h3, if_neg h3]; rfl
  · rw [if_neg e, hi, show ((o[a]).id == m.id) = false by simpa using e]
    by_cases h3 : m.kind = 3 <;> simp [h3]
/-- What hands back messages at a place that nobody else knows of. -/
def MxPost (o : List Ms) (w : World) (e : Ending) (w' : World) : Prop := ∃ v, e = .returned v ∧ MX v o w' ∧ Below w.heap.size w w'
theorem atF_stop {t : Int} {l o : List Ms} {k : Nat} (hp : l.Pairwise (fun a b => a.time ≤ b.time)) (hk : k < l.length) (h : t < (l[k]).time) : atF t (l.drop k) o = o := by
  apply atF_late
  intro m hm
  rw [List.drop_eq_getElem_cons hk] at hm
  rcases List.mem_cons.1 hm with rfl | hm
  · exact h
  · have e : l = l.take k ++ (l[k] :: l.drop (k + 1)) := by rw [← List.drop_eq_getElem_cons hk, List.take_append_drop]
    rw [e] at hp
    have := (List.pairwise_cons.1 (List.pairwise_append.1 hp).2.1).1 m hm
    omega
set_option maxRecDepth 100000 in
set_option maxHeartbeats 8000000 in
theorem at_ref (v : Value) (l : List Ms) (t : Int) (w : World) (h : MC v l w) (hs : Small l) : Calls Tryz.prog 24 #[v, .int .i64 t] w (MxPost (atM l t) w) := by
  obtain ⟨i0, hi, hz0, hz1, hz2⟩ := info_parts info_msg
  have V := Lib.hid (valid_ref17 v l w h hs)
  have hl := hs.1
  have H := Lib.hid h
  clear hs
  by_cases h0 : errM l = 0
  · rw [h0] at V
    have HT := Lib.hid (show atM l t = atF t l [] by unfold atM; rw [if_pos h0])
    have HP := Lib.hid (errM_ok.1 h0).2.2.2.2.1
    clear h0
    obtain ⟨A, c, rfl, hc, -⟩ := h
    go_enter Tryz.func24, Tryz.ntmps24
    go_wp2_with fail
    refine V.out.mono ?_
    rintro e w0 ⟨rfl, hb0⟩
    obtain ⟨A', c', hv, -, hcell⟩ := H.out
    injection hv with hv1 hv2 hv3
    rw [← hv1] at hcell
    have HC := Lib.hid hcell
    clear hcell hv1 hv2 hv3 V H
    go_wp2_with fail
    go_loopw [5, 6] (fun v i wr => ∃ (k : Nat) (o : List Ms), k ≤ l.length ∧ i = .int .i64 (k : Int) ∧ MX v o wr ∧ o.length ≤ k ∧ Below w.heap.size w wr ∧ Hid (atF t (l.drop k) o = atF t l [])) (fun _ i _ => l.length - (intOf i).toNat)
    case atStart => exact ⟨0, [], by omega, rfl, .inl ⟨rfl, rfl⟩, by simp, hb0, rfl⟩
    case round =>
      obtain ⟨k, o, hk, rfl, hout, ho, hbel, HR⟩ := hrel
      by_cases hlt : k < l.length
      · have hd : decide ((k : Int) < (l.length : Int)) = true := decide_eq_true (by omega)
        have hdn : decide (k < l.length) = true := decide_eq_true hlt
        obtain ⟨g, ff, rfl, hg, hcs⟩ := HC.out.resolve_left (by intro e; rw [e] at hlt; simp at hlt)
        have HMC := Lib.hid (show ∀ w1, Below wr.heap.size wr w1 → MCell w1 g (ff + k * 5) l[k] from fun w1 hb => ((hcs k hlt).later (hbel.block g hg)).later (hb.block g (Nat.lt_of_lt_of_le hg hbel.size)))
        have HST := Lib.hid (fun h => atF_stop (t := t) (o := o) HP.out hlt h)
        have HSP := Lib.hid (show atF t (l[k] :: l.drop (k + 1)) o = atF t l [] by rw [← List.drop_eq_getElem_cons hlt]; exact HR.out)
        clear hcs
        obtain ⟨m, hm⟩ : ∃ m, l[k] = m := ⟨_, rfl⟩
        rw [hm] at HMC HST HSP
        clear hm
        obtain ⟨a0, a1, a2, a3, a4⟩ := HMC.out wr (Below.refl _ _)
        by_cases hti : m.time ≤ t
        · have d1 : decide (m.time ≤ t) = true := decide_eq_true hti
          have HN := Lib.hid (show atF t (l.drop (k + 1)) (putM m o) = atF t l [] by rw [← HSP.out, atF, if_pos hti])
          clear hti
          have HO := Lib.hid hout
          go_wp2_with fail
          obtain ⟨W2, rfl⟩ : ∃ W2 : World, W2 = wr := ⟨_, rfl⟩
          go_loopw [7] (fun v wi => ∃ a : Nat, a ≤ o.length ∧ v = .int .i64 (a : Int) ∧ Below W2.heap.size W2 wi ∧ Hid (putM m o = o.take a ++ putM m (o.drop a))) (fun v _ => o.length - (intOf v).toNat)
          case atStart => exact ⟨0, by omega, rfl, Below.refl _ _, by show _ = _; simp⟩
          case round =>
            obtain ⟨a, ha, rfl, hbw, HA⟩ := hrel
            have HMw := HMC.out _ hbw
            obtain ⟨b0, b1, b2, b3, b4⟩ := HMw
            have HOw := HO.out.later hbw
            by_cases hal : a < o.length
            · have e1 : decide ((a : Int) < (o.length : Int)) = true := decide_eq_true (by omega)
              have e1n : decide (a < o.length) = true := decide_eq_true hal
              obtain ⟨g2, f2, c2, hv5, hc2, hg2, hm2⟩ := HOw.resolve_left (by rintro ⟨-, rfl⟩; simp at hal)
              obtain ⟨y0, y1, y2, y3, y4⟩ := hm2 a hal
              have HM2 := Lib.hid hm2
              subst hv5
              obtain ⟨x, hx⟩ : ∃ x, o[a] = x := ⟨_, rfl⟩
              have HX := Lib.hid hx
              rw [hx] at y0 y1 y2 y3 y4
              clear hx hm2 HOw
              by_cases hid : x.id < m.id
              · have e2 : decide (x.id < m.id) = true := decide_eq_true hid
                have HA2 := Lib.hid (show putM m o = o.take (a + 1) ++ putM m (o.drop (a + 1)) by rw [HA.out]; exact putM_lt hal (by rw [HX.out]; exact hid))
                clear hid
                go_wp2_with fail
                go_quiet (fail)
                go_wp2_with fail
                go_roundw
                case rel => exact ⟨a + 1, by omega, by go_num, below_drewN hbw _, HA2⟩
                case measure => simp [intOf]; omega
              · have e2 : decide (x.id < m.id) = false := decide_eq_false hid
                have HI := Lib.hid (fun is hi => putM_is (m := m) hal (by rw [HX.out]; exact hid) is hi)
                clear hid
                by_cases heq : x.id = m.id
                · have e3 : (x.id == m.id) = true := by simpa using heq
                  have HF := Lib.hid (show putM m o = restM m o a true by rw [HA.out]; exact HI.out true (by rw [HX.out, e3]))
                  clear heq
                  go_wp2_with fail
                  go_quiet (fail)
                  go_wp2_with fail
                  go_quiet (fail)
                  generalize hwq : World.drewN _ _ = wq
                  have hbq : Below W2.heap.size W2 wq := by rw [← hwq]; first | exact below_drewN (below_drewN hbw _) _ | exact below_drewN hbw _
                  have HMq := Lib.hid (show ∀ i (h : i < o.length), MCell wq g2 (f2 + i * 5) o[i] from fun i hi => (HM2.out i hi).later (by rw [← hwq]; rfl))
                  have hgq : g2 < wq.heap.size := by rw [← hwq]; exact hg2
                  clear hwq HM2 hg2 hbw
                  go_upto_region 11 with fail
                  go_cut [9] from 13 to 91 (fun s wx => OM wq.heap.size s (o.drop a) wx ∧ Below wq.heap.size wq wx)
                  case first =>
                    have h0 := OR.empty (enc := encM) (n := 5) 43 wq
                    have hbe := (Below.refl wq.heap.size wq).alloc (Nat.le_refl _) (.cells #[] 43)
                    have HP1 := Lib.hid (cells_at (cells_drop (a := a) (fun i hi => (HMq.out i hi).later (hbe.block g2 hgq))))
                    have hca2 : ¬ c2 = a := by omega
                    go_wp2_with (at_builtin; refine app_at encM_E Tryz.underlying30 hi hz0 hz1 hz2 rfl (by decide) (.tmp 64) (.tmp 67) _ ⟨g2, f2 + a * 5, none⟩ _ [] (o.drop a) wq.heap.size rfl rfl rfl (by rw [List.length_drop]; rfl) h0 HP1.out (by simp) (by rw [List.length_drop]; omega) (by simp) ?_; intro v9 w9 hown9 hb9)
                    go_meet
                    exact ⟨by simpa using hown9, hbe.trans hb9⟩
                  case rest =>
                    obtain ⟨hown9, hb9⟩ := hcut
                    obtain ⟨w9, rfl⟩ : ∃ w9 : World, w9 = wc := ⟨_, rfl⟩
                    have hb29 : Below W2.heap.size W2 w9 := hbq.trans (hb9.mono hbq.size)
                    obtain ⟨A9, c9, rfl, hc9, hr9⟩ := OR.cells encM_E hown9
                    have hdl : (o.drop a).length = o.length - a := List.length_drop
                    obtain ⟨g9, rfl, -, hg9q, -⟩ := hr9.resolve_left (fun h => by rw [h] at hdl; simp at hdl; omega)
                    have HS := Lib.hid (MX.of_own hown9)
                    rw [hdl] at hc9 ⊢
                    clear hr9
                    go_upto_region 13 with fail
                    go_cut [9] from 13 to 91 (fun s wx => MX s (o.drop (a + 1)) wx ∧ wx = w9)
                    case first =>
                      by_cases hc1 : c9 = 1
                      · subst hc1
                        have hl1 : o.length - a = 1 := by omega
                        go_wp2_with fail
                        go_meet
                        refine ⟨.inr ⟨g9, 0, 0, ?_, ?_, hg9q, fun i hi => ?_⟩, rfl⟩
                        · simp only [List.length_drop]; congr 1; omega
                        · rw [List.length_drop]; omega
                        · rw [List.length_drop] at hi; omega
                      · have hc1n : ¬ c9 = 1 := hc1
                        have hl1 : 1 ≤ o.length - a := by omega
                        have hl2 : 1 ≤ c9 := by omega
                        have HSS := HS.out
                        rw [hdl, List.drop_eq_getElem_cons hal] at HSS
                        have HTT := Lib.hid (MX.tail HSS)
                        clear HSS
                        go_wp2_with fail
                        go_meet
                        exact ⟨HTT.out, rfl⟩
                    case rest =>
                      obtain ⟨hs, hwc⟩ := hcut
                      rw [hwc] at hs ⊢
                      clear hown9 HS hwc
                      obtain ⟨c0, c1q, c2q, c3q, c4q⟩ := HMC.out w9 hb29
                      have HMs := Lib.hid (show ∀ i (h : i < o.length), MCell w9 g2 (f2 + i * 5) o[i] from fun i hi => (HMq.out i hi).later (hb9.block g2 hgq))
                      have HTK := Lib.hid (show ∀ w1, Below w9.heap.size w9 w1 → ∀ i (hi : i < (o.take a).length), ∀ j < 5, w1.cell? (Addr.add ⟨g2, f2, none⟩ (i * 5 + j)) = (encM (o.take a)[i])[j]? from fun w1 hb => cells_at (cells_take (a := a) (fun i hi => (HMs.out i hi).later (hb.block g2 (Nat.lt_of_lt_of_le hgq hb9.size)))))
                      have htl : (o.take a).length = a := by rw [List.length_take]; omega
                      have HTL := Lib.hid htl
                      have hg9 : g2 < w9.heap.size := Nat.lt_of_lt_of_le hgq hb9.size
                      have hbl9 : Below w.heap.size w w9 := hbel.trans (hb29.mono hbel.size)
                      have hRl : (o.drop (a + 1)).length ≤ 100000 := by simp only [List.length_drop]; omega
                      have HRl := Lib.hid hRl
                      have HRm := Lib.hid (show (o.drop (a + 1)).length + a ≤ o.length by simp only [List.length_drop]; omega)
                      have HFF := Lib.hid (show putM m o = o.take a ++ ((if m.kind = 3 then [] else [m]) ++ (o.drop (a + 1))) by rw [HF.out]; rfl)
                      clear HMs HF htl hRl
                      obtain ⟨R, hR⟩ : ∃ R, (o.drop (a + 1)) = R := ⟨_, rfl⟩
                      rw [hR] at hs HRl HRm HFF
                      clear hR
                      by_cases h3 : m.kind = 3
                      · have d3 : (m.kind != 3) = false := by simpa using h3
                        have HL := Lib.hid (show putM m o = o.take a ++ R by rw [HFF.out, if_pos h3]; rfl)
                        clear h3
                        have HN2 := Lib.hid (show atF t (l.drop (k + 1)) (o.take a ++ R) = atF t l [] by rw [← HL.out]; exact HN.out)
                        have HTX := Lib.hid (show ∀ w1, Below w9.heap.size w9 w1 → MX (.slice (some ⟨g2, f2, none⟩) a a) (o.take a) w1 from fun w1 hb => .inr ⟨g2, f2, a, by rw [HTL.out], by rw [HTL.out]; exact Nat.le_refl _, Nat.lt_of_lt_of_le hg9 hb.size, fun i hi => by
                          have hh := HTK.out w1 hb i hi
                          simp only [Addr.add_lit] at hh
                          refine ⟨?_, ?_, ?_, ?_, ?_⟩
                          · have := hh 0 (by decide); rw [Nat.add_zero] at this; exact this
                          · have := hh 1 (by decide); rw [← Nat.add_assoc] at this; exact this
                          · have := hh 2 (by decide); rw [← Nat.add_assoc] at this; exact this
                          · have := hh 3 (by decide); rw [← Nat.add_assoc] at this; exact this
                          · have := hh 4 (by decide); rw [← Nat.add_assoc] at this; exact this⟩)
                        rcases hs with ⟨rfl, rfl⟩ | ⟨g3, f3, c3, rfl, hc3, hg3, hm3⟩
                        · go_wp2_with fail
                          go_roundw
                          case rel => exact ⟨k + 1, o.take a ++ [], by omega, by go_num, by rw [List.append_nil]; exact HTX.out _ (Below.refl _ _), by rw [List.append_nil, HTL.out]; omega, hbl9, HN2⟩
                          case measure => simp [intOf]; omega
                        · have HM3 := Lib.hid (cells_at hm3)
                          clear hm3
                          by_cases hR0 : R = []
                          · subst hR0
                            simp only [List.length_nil] at hc3 ⊢
                            go_wp2_with fail
                            go_roundw
                            case rel => exact ⟨k + 1, o.take a ++ [], by omega, by go_num, by rw [List.append_nil]; exact HTX.out _ (Below.refl _ _), by rw [List.append_nil, HTL.out]; omega, hbl9, HN2⟩
                            case measure => simp [intOf]; omega
                          · have hRp : 0 < R.length := List.length_pos_iff.2 hR0
                            clear hR0
                            have hrl := HRl.out
                            have hrm := HRm.out
                            go_wp2_with (at_builtin; refine app_grow encM_E Tryz.underlying30 hi hz0 hz1 hz2 rfl (by decide) (.tmp 89) (.tmp 90) (some ⟨g2, f2, none⟩) a a ⟨g3, f3, none⟩ R.length c3 (o.take a) R rfl rfl rfl HTL.out.symm (fun h => by cases h) (fun b hb => by cases hb; exact HTK.out _ (Below.refl _ _)) rfl rfl HM3.out (by omega) (by rw [HTL.out]; omega) (by omega) ?_; intro v11 w11 hown11 hb11)
                            go_roundw
                            case rel => exact ⟨k + 1, o.take a ++ R, by omega, by go_num, MX.of_own hown11, by rw [List.length_append, HTL.out]; omega, hbl9.trans (hb11.mono hbl9.size), HN2⟩
                            case measure => simp [intOf]; omega
                      · have d3 : (m.kind != 3) = true := by simpa using h3
                        have HL := Lib.hid (show putM m o = (o.take a ++ [m]) ++ R by rw [HFF.out, if_neg h3, List.append_assoc])
                        clear h3
                        have HN2 := Lib.hid (show atF t (l.drop (k + 1)) ((o.take a ++ [m]) ++ R) = atF t l [] by rw [← HL.out]; exact HN.out)
                        have hrl := HRl.out
                        have hrm := HRm.out
                        have HNEW := Lib.hid (show ∀ i (hi : i < [m].length), ∀ j < 5, (w9.alloc (Obj.cells (encM m).toArray 43)).cell? (Addr.add ⟨w9.heap.size, 0, none⟩ (i * 5 + j)) = (encM [m][i])[j]? from fun i hi j hj => by
                          have : i = 0 := by simpa using hi
                          subst this
                          rw [Addr.add_lit, World.cell?_alloc_mark]
                          simp)
                        have HALL := Lib.hid ((Below.refl w9.heap.size w9).alloc (Nat.le_refl _) (.cells (encM m).toArray 43))
                        rcases hs with ⟨rfl, rfl⟩ | ⟨g3, f3, c3, rfl, hc3, hg3, hm3⟩
                        · go_wp2_with (first
                            | (at_builtin; refine app_grow encM_E Tryz.underlying30 hi hz0 hz1 hz2 rfl (by decide) (.tmp 82) (.tmp 87) (some ⟨g2, f2, none⟩) a a ⟨w9.heap.size, 0, none⟩ 1 1 (o.take a) [m] rfl rfl rfl HTL.out.symm (fun h => by cases h) (fun b hb => by cases hb; exact HTK.out _ HALL.out) rfl rfl HNEW.out (by omega) (by rw [HTL.out]; omega) (by simp) ?_; intro v10 w10 hown10 hb10)
                            | (at_builtin; refine wpList_append_own_none rfl (.tmp 89) (.tmp 90) 30 rfl _ 43 i0 5 Tryz.underlying30 hi _ _ _ rfl hown10 rfl ?_))
                          go_roundw
                          case rel => exact ⟨k + 1, (o.take a ++ [m]) ++ [], by omega, by go_num, by rw [List.append_nil]; exact MX.of_own hown10, by simp only [List.length_append, HTL.out, List.length_nil, List.length_singleton]; omega, (hbl9.trans (HALL.out.mono hbl9.size)).trans (hb10.mono (Nat.le_trans hbl9.size HALL.out.size)), HN2⟩
                          case measure => simp [intOf]; omega
                        · have HM3 := Lib.hid (show ∀ w1, Below w9.heap.size w9 w1 → ∀ i (hi : i < R.length), ∀ j < 5, w1.cell? (Addr.add ⟨g3, f3, none⟩ (i * 5 + j)) = (encM R[i])[j]? from fun w1 hb => cells_at (fun i hi => (hm3 i hi).later (hb.block g3 hg3)))
                          clear hm3
                          go_wp2_with (first
                            | (at_builtin; refine app_grow encM_E Tryz.underlying30 hi hz0 hz1 hz2 rfl (by decide) (.tmp 82) (.tmp 87) (some ⟨g2, f2, none⟩) a a ⟨w9.heap.size, 0, none⟩ 1 1 (o.take a) [m] rfl rfl rfl HTL.out.symm (fun h => by cases h) (fun b hb => by cases hb; exact HTK.out _ HALL.out) rfl rfl HNEW.out (by omega) (by rw [HTL.out]; omega) (by simp) ?_; intro v10 w10 hown10 hb10)
                            | (at_builtin; refine app_at encM_E Tryz.underlying30 hi hz0 hz1 hz2 rfl (by decide) (.tmp 89) (.tmp 90) _ ⟨g3, f3, none⟩ c3 (o.take a ++ [m]) R _ rfl rfl rfl rfl hown10 (HM3.out _ (HALL.out.trans (hb10.mono HALL.out.size))) (by rw [List.length_append, HTL.out]; simp; omega) (by omega) hb10.size ?_; intro v11 w11 hown11 hb11))
                          go_roundw
                          case rel => exact ⟨k + 1, (o.take a ++ [m]) ++ R, by omega, by go_num, MX.of_own hown11, by simp only [List.length_append, HTL.out, List.length_singleton]; omega, ((hbl9.trans (HALL.out.mono hbl9.size)).trans (hb10.mono (Nat.le_trans hbl9.size HALL.out.size))).trans (hb11.mono (Nat.le_trans hbl9.size HALL.out.size)), HN2⟩
                          case measure => simp [intOf]; omega


                · have e3 : (x.id == m.id) = false := by simpa using heq
                  have HF := Lib.hid (show putM m o = restM m o a false by rw [HA.out]; exact HI.out false (by rw [HX.out, e3]))
                  clear heq
                  go_wp2_with fail
                  go_quiet (fail)
                  go_wp2_with fail
                  go_quiet (fail)
                  generalize hwq : World.drewN _ _ = wq
                  have hbq : Below W2.heap.size W2 wq := by rw [← hwq]; first | exact below_drewN (below_drewN hbw _) _ | exact below_drewN hbw _
                  have HMq := Lib.hid (show ∀ i (h : i < o.length), MCell wq g2 (f2 + i * 5) o[i] from fun i hi => (HM2.out i hi).later (by rw [← hwq]; rfl))
                  have hgq : g2 < wq.heap.size := by rw [← hwq]; exact hg2
                  clear hwq HM2 hg2 hbw
                  go_upto_region 11 with fail
                  go_cut [9] from 13 to 91 (fun s wx => OM wq.heap.size s (o.drop a) wx ∧ Below wq.heap.size wq wx)
                  case first =>
                    have h0 := OR.empty (enc := encM) (n := 5) 43 wq
                    have hbe := (Below.refl wq.heap.size wq).alloc (Nat.le_refl _) (.cells #[] 43)
                    have HP1 := Lib.hid (cells_at (cells_drop (a := a) (fun i hi => (HMq.out i hi).later (hbe.block g2 hgq))))
                    have hca2 : ¬ c2 = a := by omega
                    go_wp2_with (at_builtin; refine app_at encM_E Tryz.underlying30 hi hz0 hz1 hz2 rfl (by decide) (.tmp 64) (.tmp 67) _ ⟨g2, f2 + a * 5, none⟩ _ [] (o.drop a) wq.heap.size rfl rfl rfl (by rw [List.length_drop]; rfl) h0 HP1.out (by simp) (by rw [List.length_drop]; omega) (by simp) ?_; intro v9 w9 hown9 hb9)
                    go_meet
                    exact ⟨by simpa using hown9, hbe.trans hb9⟩
                  case rest =>
                    obtain ⟨hown9, hb9⟩ := hcut
                    obtain ⟨w9, rfl⟩ : ∃ w9 : World, w9 = wc := ⟨_, rfl⟩
                    have hb29 : Below W2.heap.size W2 w9 := hbq.trans (hb9.mono hbq.size)
                    have hs := MX.of_own hown9
                    clear hown9
                    obtain ⟨c0, c1q, c2q, c3q, c4q⟩ := HMC.out w9 hb29
                    have HMs := Lib.hid (show ∀ i (h : i < o.length), MCell w9 g2 (f2 + i * 5) o[i] from fun i hi => (HMq.out i hi).later (hb9.block g2 hgq))
                    have HTK := Lib.hid (show ∀ w1, Below w9.heap.size w9 w1 → ∀ i (hi : i < (o.take a).length), ∀ j < 5, w1.cell? (Addr.add ⟨g2, f2, none⟩ (i * 5 + j)) = (encM (o.take a)[i])[j]? from fun w1 hb => cells_at (cells_take (a := a) (fun i hi => (HMs.out i hi).later (hb.block g2 (Nat.lt_of_lt_of_le hgq hb9.size)))))
                    have htl : (o.take a).length = a := by rw [List.length_take]; omega
                    have HTL := Lib.hid htl
                    have hg9 : g2 < w9.heap.size := Nat.lt_of_lt_of_le hgq hb9.size
                    have hbl9 : Below w.heap.size w w9 := hbel.trans (hb29.mono hbel.size)
                    have hRl : (o.drop a).length ≤ 100000 := by simp only [List.length_drop]; omega
                    have HRl := Lib.hid hRl
                    have HRm := Lib.hid (show (o.drop a).length + a ≤ o.length by simp only [List.length_drop]; omega)
                    have HFF := Lib.hid (show putM m o = o.take a ++ ((if m.kind = 3 then [] else [m]) ++ (o.drop a)) by rw [HF.out]; rfl)
                    clear HMs HF htl hRl
                    obtain ⟨R, hR⟩ : ∃ R, (o.drop a) = R := ⟨_, rfl⟩
                    rw [hR] at hs HRl HRm HFF
                    clear hR
                    by_cases h3 : m.kind = 3
                    · have d3 : (m.kind != 3) = false := by simpa using h3
                      have HL := Lib.hid (show putM m o = o.take a ++ R by rw [HFF.out, if_pos h3]; rfl)
                      clear h3
                      have HN2 := Lib.hid (show atF t (l.drop (k + 1)) (o.take a ++ R) = atF t l [] by rw [← HL.out]; exact HN.out)
                      have HTX := Lib.hid (show ∀ w1, Below w9.heap.size w9 w1 → MX (.slice (some ⟨g2, f2, none⟩) a a) (o.take a) w1 from fun w1 hb => .inr ⟨g2, f2, a, by rw [HTL.out], by rw [HTL.out]; exact Nat.le_refl _, Nat.lt_of_lt_of_le hg9 hb.size, fun i hi => by
                        have hh := HTK.out w1 hb i hi
                        simp only [Addr.add_lit] at hh
                        refine ⟨?_, ?_, ?_, ?_, ?_⟩
                        · have := hh 0 (by decide); rw [Nat.add_zero] at this; exact this
                        · have := hh 1 (by decide); rw [← Nat.add_assoc] at this; exact this
                        · have := hh 2 (by decide); rw [← Nat.add_assoc] at this; exact this
                        · have := hh 3 (by decide); rw [← Nat.add_assoc] at this; exact this
                        · have := hh 4 (by decide); rw [← Nat.add_assoc] at this; exact this⟩)
                      rcases hs with ⟨rfl, rfl⟩ | ⟨g3, f3, c3, rfl, hc3, hg3, hm3⟩
                      · go_wp2_with fail
                        go_roundw
                        case rel => exact ⟨k + 1, o.take a ++ [], by omega, by go_num, by rw [List.append_nil]; exact HTX.out _ (Below.refl _ _), by rw [List.append_nil, HTL.out]; omega, hbl9, HN2⟩
                        case measure => simp [intOf]; omega
                      · have HM3 := Lib.hid (cells_at hm3)
                        clear hm3
                        by_cases hR0 : R = []
                        · subst hR0
                          simp only [List.length_nil] at hc3 ⊢
                          go_wp2_with fail
                          go_roundw
                          case rel => exact ⟨k + 1, o.take a ++ [], by omega, by go_num, by rw [List.append_nil]; exact HTX.out _ (Below.refl _ _), by rw [List.append_nil, HTL.out]; omega, hbl9, HN2⟩
                          case measure => simp [intOf]; omega
                        · have hRp : 0 < R.length := List.length_pos_iff.2 hR0
                          clear hR0
                          have hrl := HRl.out
                          have hrm := HRm.out
                          go_wp2_with (at_builtin; refine app_grow encM_E Tryz.underlying30 hi hz0 hz1 hz2 rfl (by decide) (.tmp 89) (.tmp 90) (some ⟨g2, f2, none⟩) a a ⟨g3, f3, none⟩ R.length c3 (o.take a) R rfl rfl rfl HTL.out.symm (fun h => by cases h) (fun b hb => by cases hb; exact HTK.out _ (Below.refl _ _)) rfl rfl HM3.out (by omega) (by rw [HTL.out]; omega) (by omega) ?_; intro v11 w11 hown11 hb11)
                          go_roundw
                          case rel => exact ⟨k + 1, o.take a ++ R, by omega, by go_num, MX.of_own hown11, by rw [List.length_append, HTL.out]; omega, hbl9.trans (hb11.mono hbl9.size), HN2⟩
                          case measure => simp [intOf]; omega
                    · have d3 : (m.kind != 3) = true := by simpa using h3
                      have HL := Lib.hid (show putM m o = (o.take a ++ [m]) ++ R by rw [HFF.out, if_neg h3, List.append_assoc])
                      clear h3
                      have HN2 := Lib.hid (show atF t (l.drop (k + 1)) ((o.take a ++ [m]) ++ R) = atF t l [] by rw [← HL.out]; exact HN.out)
                      have hrl := HRl.out
                      have hrm := HRm.out
                      have HNEW := Lib.hid (show ∀ i (hi : i < [m].length), ∀ j < 5, (w9.alloc (Obj.cells (encM m).toArray 43)).cell? (Addr.add ⟨w9.heap.size, 0, none⟩ (i * 5 + j)) = (encM [m][i])[j]? from fun i hi j hj => by
                        have : i = 0 := by simpa using hi
                        subst this
                        rw [Addr.add_lit, World.cell?_alloc_mark]
                        simp)
                      have HALL := Lib.hid ((Below.refl w9.heap.size w9).alloc (Nat.le_refl _) (.cells (encM m).toArray 43))
                      rcases hs with ⟨rfl, rfl⟩ | ⟨g3, f3, c3, rfl, hc3, hg3, hm3⟩
                      · go_wp2_with (first
                          | (at_builtin; refine app_grow encM_E Tryz.underlying30 hi hz0 hz1 hz2 rfl (by decide) (.tmp 82) (.tmp 87) (some ⟨g2, f2, none⟩) a a ⟨w9.heap.size, 0, none⟩ 1 1 (o.take a) [m] rfl rfl rfl HTL.out.symm (fun h => by cases h) (fun b hb => by cases hb; exact HTK.out _ HALL.out) rfl rfl HNEW.out (by omega) (by rw [HTL.out]; omega) (by simp) ?_; intro v10 w10 hown10 hb10)
                          | (at_builtin; refine wpList_append_own_none rfl (.tmp 89) (.tmp 90) 30 rfl _ 43 i0 5 Tryz.underlying30 hi _ _ _ rfl hown10 rfl ?_))
                        go_roundw
                        case rel => exact ⟨k + 1, (o.take a ++ [m]) ++ [], by omega, by go_num, by rw [List.append_nil]; exact MX.of_own hown10, by simp only [List.length_append, HTL.out, List.length_nil, List.length_singleton]; omega, (hbl9.trans (HALL.out.mono hbl9.size)).trans (hb10.mono (Nat.le_trans hbl9.size HALL.out.size)), HN2⟩
                        case measure => simp [intOf]; omega
                      · have HM3 := Lib.hid (show ∀ w1, Below w9.heap.size w9 w1 → ∀ i (hi : i < R.length), ∀ j < 5, w1.cell? (Addr.add ⟨g3, f3, none⟩ (i * 5 + j)) = (encM R[i])[j]? from fun w1 hb => cells_at (fun i hi => (hm3 i hi).later (hb.block g3 hg3)))
                        clear hm3
                        go_wp2_with (first
                          | (at_builtin; refine app_grow encM_E Tryz.underlying30 hi hz0 hz1 hz2 rfl (by decide) (.tmp 82) (.tmp 87) (some ⟨g2, f2, none⟩) a a ⟨w9.heap.size, 0, none⟩ 1 1 (o.take a) [m] rfl rfl rfl HTL.out.symm (fun h => by cases h) (fun b hb => by cases hb; exact HTK.out _ HALL.out) rfl rfl HNEW.out (by omega) (by rw [HTL.out]; omega) (by simp) ?_; intro v10 w10 hown10 hb10)
                          | (at_builtin; refine app_at encM_E Tryz.underlying30 hi hz0 hz1 hz2 rfl (by decide) (.tmp 89) (.tmp 90) _ ⟨g3, f3, none⟩ c3 (o.take a ++ [m]) R _ rfl rfl rfl rfl hown10 (HM3.out _ (HALL.out.trans (hb10.mono HALL.out.size))) (by rw [List.length_append, HTL.out]; simp; omega) (by omega) hb10.size ?_; intro v11 w11 hown11 hb11))
                        go_roundw
                        case rel => exact ⟨k + 1, (o.take a ++ [m]) ++ R, by omega, by go_num, MX.of_own hown11, by simp only [List.length_append, HTL.out, List.length_singleton]; omega, ((hbl9.trans (HALL.out.mono hbl9.size)).trans (hb10.mono (Nat.le_trans hbl9.size HALL.out.size))).trans (hb11.mono (Nat.le_trans hbl9.size HALL.out.size)), HN2⟩
                        case measure => simp [intOf]; omega


            · have e1 : decide ((a : Int) < (o.length : Int)) = false := decide_eq_false (by omega)
              have e1n : decide (a < o.length) = false := decide_eq_false hal
              have HF := Lib.hid (show putM m o = restM m o a false by rw [HA.out]; exact putM_end (by omega))
              rcases HOw with ⟨rfl, rfl⟩ | ⟨g2, f2, c2, rfl, hc2, hg2, hm2⟩
              · obtain rfl : a = 0 := by simpa using ha
                have HF0 := Lib.hid (show putM m [] = if m.kind = 3 then [] else [m] from rfl)
                go_wp2_with fail
                go_quiet (fail)
                go_wp2_with fail
                go_quiet (fail)
                generalize hwq : World.drewN _ _ = wq
                have hbq : Below W2.heap.size W2 wq := by rw [← hwq]; first | exact below_drewN (below_drewN hbw _) _ | exact below_drewN hbw _
                clear hwq hbw
                have hbe := (Below.refl wq.heap.size wq).alloc (Nat.le_refl _) (.cells #[] 43)
                go_upto_region 11 with fail
                go_cut [9] from 13 to 91 (fun s wx => MX s [] wx ∧ Below wq.heap.size wq wx)
                case first =>
                  go_wp2_with fail
                  go_meet
                  exact ⟨.inr ⟨wq.heap.size, 0, 0, rfl, by simp, by simp, fun i hi => by simp at hi⟩, hbe⟩
                case rest =>
                  obtain ⟨hs, hb9⟩ := hcut
                  obtain ⟨w9, rfl⟩ : ∃ w9 : World, w9 = wc := ⟨_, rfl⟩
                  have hb29 : Below W2.heap.size W2 w9 := hbq.trans (hb9.mono hbq.size)
                  obtain ⟨c0, c1q, c2q, c3q, c4q⟩ := HMC.out _ hb29
                  have hbl9 : Below w.heap.size w w9 := hbel.trans (hb29.mono hbel.size)
                  by_cases h3 : m.kind = 3
                  · have d3 : (m.kind != 3) = false := by simpa using h3
                    have HN2 := Lib.hid (show atF t (l.drop (k + 1)) [] = atF t l [] by have := HN.out; rw [HF0.out, if_pos h3] at this; exact this)
                    clear h3
                    rcases hs with ⟨rfl, -⟩ | ⟨g3, f3, c3, rfl, hc3, hg3, -⟩
                    · go_wp2_with fail
                      go_roundw
                      case rel => exact ⟨k + 1, [], by omega, by go_num, .inl ⟨rfl, rfl⟩, by simp, hbl9, HN2⟩
                      case measure => simp [intOf]; omega
                    · simp only [List.length_nil] at hc3 ⊢
                      go_wp2_with fail
                      go_roundw
                      case rel => exact ⟨k + 1, [], by omega, by go_num, by first | exact .inl ⟨rfl, rfl⟩ | exact .inr ⟨_, _, _, rfl, by simp, hg3, fun i hi => by simp at hi⟩, by simp, hbl9, HN2⟩
                      case measure => simp [intOf]; omega
                  · have d3 : (m.kind != 3) = true := by simpa using h3
                    have HN2 := Lib.hid (show atF t (l.drop (k + 1)) ([] ++ [m]) = atF t l [] by have := HN.out; rw [HF0.out, if_neg h3] at this; exact this)
                    clear h3
                    rcases hs with ⟨rfl, -⟩ | ⟨g3, f3, c3, rfl, hc3, hg3, -⟩
                    · go_wp2_with (first
                        | (at_builtin; refine app_one encM_E Tryz.underlying30 hi hz0 hz1 hz2 rfl (by decide) (.tmp 82) (.tmp 87) _ _ [] m _ w.heap.size rfl rfl rfl rfl rfl (OR.nil_ _ _ _) (by simp) hbl9.size ?_; intro v10 w10 hown10 hb10)
                        | (at_builtin; refine wpList_append_own_none rfl (.tmp 89) (.tmp 90) 30 rfl _ 43 i0 5 Tryz.underlying30 hi _ _ _ rfl hown10 rfl ?_))
                      go_roundw
                      case rel => exact ⟨k + 1, [] ++ [m], by omega, by go_num, MX.of_own hown10, by simp, hbl9.trans hb10, HN2⟩
                      case measure => simp [intOf]; omega
                    · go_wp2_with (first
                        | (at_builtin; refine app_one encM_E Tryz.underlying30 hi hz0 hz1 hz2 rfl (by decide) (.tmp 82) (.tmp 87) _ _ [] m _ w.heap.size rfl rfl rfl rfl rfl (OR.nil_ _ _ _) (by simp) hbl9.size ?_; intro v10 w10 hown10 hb10)
                        | (at_builtin; refine app_at encM_E Tryz.underlying30 hi hz0 hz1 hz2 rfl (by decide) (.tmp 89) (.tmp 90) _ ⟨g3, f3, none⟩ c3 ([] ++ [m]) [] _ rfl rfl rfl rfl hown10 (fun i hi => by simp at hi) (by simp) (by simp) (Nat.le_trans hbl9.size hb10.size) ?_; intro v11 w11 hown11 hb11))
                      go_roundw
                      case rel => exact ⟨k + 1, ([] ++ [m]) ++ [], by omega, by go_num, MX.of_own hown11, by simp, (hbl9.trans hb10).trans hb11, by rw [List.append_nil]; exact HN2⟩
                      case measure => simp [intOf]; omega
              · have HM2 := Lib.hid hm2
                clear hm2
                go_wp2_with fail
                go_quiet (fail)
                go_wp2_with fail
                go_quiet (fail)
                generalize hwq : World.drewN _ _ = wq
                have hbq : Below W2.heap.size W2 wq := by rw [← hwq]; first | exact below_drewN (below_drewN hbw _) _ | exact below_drewN hbw _
                have HMq := Lib.hid (show ∀ i (h : i < o.length), MCell wq g2 (f2 + i * 5) o[i] from fun i hi => (HM2.out i hi).later (by rw [← hwq]; rfl))
                have hgq : g2 < wq.heap.size := by rw [← hwq]; exact hg2
                clear hwq HM2 hg2 hbw
                go_upto_region 11 with fail
                go_cut [9] from 13 to 91 (fun s wx => OM wq.heap.size s (o.drop a) wx ∧ Below wq.heap.size wq wx)
                case first =>
                  have h0 := OR.empty (enc := encM) (n := 5) 43 wq
                  have hbe := (Below.refl wq.heap.size wq).alloc (Nat.le_refl _) (.cells #[] 43)
                  have HP1 := Lib.hid (cells_at (cells_drop (a := a) (fun i hi => (HMq.out i hi).later (hbe.block g2 hgq))))
                  by_cases hca : c2 = a
                  · subst hca
                    go_wp2_with fail
                    go_meet
                    exact ⟨by rw [List.drop_eq_nil_of_le hc2]; exact h0, hbe⟩
                  · have hca2 : ¬ c2 = a := hca
                    go_wp2_with (at_builtin; refine app_at encM_E Tryz.underlying30 hi hz0 hz1 hz2 rfl (by decide) (.tmp 64) (.tmp 67) _ ⟨g2, f2 + a * 5, none⟩ _ [] (o.drop a) wq.heap.size rfl rfl rfl (by rw [List.length_drop]; rfl) h0 HP1.out (by simp) (by rw [List.length_drop]; omega) (by simp) ?_; intro v9 w9 hown9 hb9)
                    go_meet
                    exact ⟨by simpa using hown9, hbe.trans hb9⟩
                case rest =>
                  obtain ⟨hown9, hb9⟩ := hcut
                  obtain ⟨w9, rfl⟩ : ∃ w9 : World, w9 = wc := ⟨_, rfl⟩
                  have hb29 : Below W2.heap.size W2 w9 := hbq.trans (hb9.mono hbq.size)
                  have hs := MX.of_own hown9
                  clear hown9
                  obtain ⟨c0, c1q, c2q, c3q, c4q⟩ := HMC.out w9 hb29
                  have HMs := Lib.hid (show ∀ i (h : i < o.length), MCell w9 g2 (f2 + i * 5) o[i] from fun i hi => (HMq.out i hi).later (hb9.block g2 hgq))
                  have HTK := Lib.hid (show ∀ w1, Below w9.heap.size w9 w1 → ∀ i (hi : i < (o.take a).length), ∀ j < 5, w1.cell? (Addr.add ⟨g2, f2, none⟩ (i * 5 + j)) = (encM (o.take a)[i])[j]? from fun w1 hb => cells_at (cells_take (a := a) (fun i hi => (HMs.out i hi).later (hb.block g2 (Nat.lt_of_lt_of_le hgq hb9.size)))))
                  have htl : (o.take a).length = a := by rw [List.length_take]; omega
                  have HTL := Lib.hid htl
                  have hg9 : g2 < w9.heap.size := Nat.lt_of_lt_of_le hgq hb9.size
                  have hbl9 : Below w.heap.size w w9 := hbel.trans (hb29.mono hbel.size)
                  have hRl : (o.drop a).length ≤ 100000 := by simp only [List.length_drop]; omega
                  have HRl := Lib.hid hRl
                  have HRm := Lib.hid (show (o.drop a).length + a ≤ o.length by simp only [List.length_drop]; omega)
                  have HFF := Lib.hid (show putM m o = o.take a ++ ((if m.kind = 3 then [] else [m]) ++ (o.drop a)) by rw [HF.out]; rfl)
                  clear HMs HF htl hRl
                  obtain ⟨R, hR⟩ : ∃ R, (o.drop a) = R := ⟨_, rfl⟩
                  rw [hR] at hs HRl HRm HFF
                  clear hR
                  by_cases h3 : m.kind = 3
                  · have d3 : (m.kind != 3) = false := by simpa using h3
                    have HL := Lib.hid (show putM m o = o.take a ++ R by rw [HFF.out, if_pos h3]; rfl)
                    clear h3
                    have HN2 := Lib.hid (show atF t (l.drop (k + 1)) (o.take a ++ R) = atF t l [] by rw [← HL.out]; exact HN.out)
                    have HTX := Lib.hid (show ∀ w1, Below w9.heap.size w9 w1 → MX (.slice (some ⟨g2, f2, none⟩) a a) (o.take a) w1 from fun w1 hb => .inr ⟨g2, f2, a, by rw [HTL.out], by rw [HTL.out]; exact Nat.le_refl _, Nat.lt_of_lt_of_le hg9 hb.size, fun i hi => by
                      have hh := HTK.out w1 hb i hi
                      simp only [Addr.add_lit] at hh
                      refine ⟨?_, ?_, ?_, ?_, ?_⟩
                      · have := hh 0 (by decide); rw [Nat.add_zero] at this; exact this
                      · have := hh 1 (by decide); rw [← Nat.add_assoc] at this; exact this
                      · have := hh 2 (by decide); rw [← Nat.add_assoc] at this; exact this
                      · have := hh 3 (by decide); rw [← Nat.add_assoc] at this; exact this
                      · have := hh 4 (by decide); rw [← Nat.add_assoc] at this; exact this⟩)
                    rcases hs with ⟨rfl, rfl⟩ | ⟨g3, f3, c3, rfl, hc3, hg3, hm3⟩
                    · go_wp2_with fail
                      go_roundw
                      case rel => exact ⟨k + 1, o.take a ++ [], by omega, by go_num, by rw [List.append_nil]; exact HTX.out _ (Below.refl _ _), by rw [List.append_nil, HTL.out]; omega, hbl9, HN2⟩
                      case measure => simp [intOf]; omega
                    · have HM3 := Lib.hid (cells_at hm3)
                      clear hm3
                      by_cases hR0 : R = []
                      · subst hR0
                        simp only [List.length_nil] at hc3 ⊢
                        go_wp2_with fail
                        go_roundw
                        case rel => exact ⟨k + 1, o.take a ++ [], by omega, by go_num, by rw [List.append_nil]; exact HTX.out _ (Below.refl _ _), by rw [List.append_nil, HTL.out]; omega, hbl9, HN2⟩
                        case measure => simp [intOf]; omega
                      · have hRp : 0 < R.length := List.length_pos_iff.2 hR0
                        clear hR0
                        have hrl := HRl.out
                        have hrm := HRm.out
                        exfalso; omega
                  · have d3 : (m.kind != 3) = true := by simpa using h3
                    have HL := Lib.hid (show putM m o = (o.take a ++ [m]) ++ R by rw [HFF.out, if_neg h3, List.append_assoc])
                    clear h3
                    have HN2 := Lib.hid (show atF t (l.drop (k + 1)) ((o.take a ++ [m]) ++ R) = atF t l [] by rw [← HL.out]; exact HN.out)
                    have hrl := HRl.out
                    have hrm := HRm.out
                    have HNEW := Lib.hid (show ∀ i (hi : i < [m].length), ∀ j < 5, (w9.alloc (Obj.cells (encM m).toArray 43)).cell? (Addr.add ⟨w9.heap.size, 0, none⟩ (i * 5 + j)) = (encM [m][i])[j]? from fun i hi j hj => by
                      have : i = 0 := by simpa using hi
                      subst this
                      rw [Addr.add_lit, World.cell?_alloc_mark]
                      simp)
                    have HALL := Lib.hid ((Below.refl w9.heap.size w9).alloc (Nat.le_refl _) (.cells (encM m).toArray 43))
                    rcases hs with ⟨rfl, rfl⟩ | ⟨g3, f3, c3, rfl, hc3, hg3, hm3⟩
                    · go_wp2_with (first
                        | (at_builtin; refine app_grow encM_E Tryz.underlying30 hi hz0 hz1 hz2 rfl (by decide) (.tmp 82) (.tmp 87) (some ⟨g2, f2, none⟩) a a ⟨w9.heap.size, 0, none⟩ 1 1 (o.take a) [m] rfl rfl rfl HTL.out.symm (fun h => by cases h) (fun b hb => by cases hb; exact HTK.out _ HALL.out) rfl rfl HNEW.out (by omega) (by rw [HTL.out]; omega) (by simp) ?_; intro v10 w10 hown10 hb10)
                        | (at_builtin; refine wpList_append_own_none rfl (.tmp 89) (.tmp 90) 30 rfl _ 43 i0 5 Tryz.underlying30 hi _ _ _ rfl hown10 rfl ?_))
                      go_roundw
                      case rel => exact ⟨k + 1, (o.take a ++ [m]) ++ [], by omega, by go_num, by rw [List.append_nil]; exact MX.of_own hown10, by simp only [List.length_append, HTL.out, List.length_nil, List.length_singleton]; omega, (hbl9.trans (HALL.out.mono hbl9.size)).trans (hb10.mono (Nat.le_trans hbl9.size HALL.out.size)), HN2⟩
                      case measure => simp [intOf]; omega
                    · have HM3 := Lib.hid (show ∀ w1, Below w9.heap.size w9 w1 → ∀ i (hi : i < R.length), ∀ j < 5, w1.cell? (Addr.add ⟨g3, f3, none⟩ (i * 5 + j)) = (encM R[i])[j]? from fun w1 hb => cells_at (fun i hi => (hm3 i hi).later (hb.block g3 hg3)))
                      clear hm3
                      go_wp2_with (first
                        | (at_builtin; refine app_grow encM_E Tryz.underlying30 hi hz0 hz1 hz2 rfl (by decide) (.tmp 82) (.tmp 87) (some ⟨g2, f2, none⟩) a a ⟨w9.heap.size, 0, none⟩ 1 1 (o.take a) [m] rfl rfl rfl HTL.out.symm (fun h => by cases h) (fun b hb => by cases hb; exact HTK.out _ HALL.out) rfl rfl HNEW.out (by omega) (by rw [HTL.out]; omega) (by simp) ?_; intro v10 w10 hown10 hb10)
                        | (at_builtin; refine app_at encM_E Tryz.underlying30 hi hz0 hz1 hz2 rfl (by decide) (.tmp 89) (.tmp 90) _ ⟨g3, f3, none⟩ c3 (o.take a ++ [m]) R _ rfl rfl rfl rfl hown10 (HM3.out _ (HALL.out.trans (hb10.mono HALL.out.size))) (by rw [List.length_append, HTL.out]; simp; omega) (by omega) hb10.size ?_; intro v11 w11 hown11 hb11))
                      go_roundw
                      case rel => exact ⟨k + 1, (o.take a ++ [m]) ++ R, by omega, by go_num, MX.of_own hown11, by simp only [List.length_append, HTL.out, List.length_singleton]; omega, ((hbl9.trans (HALL.out.mono hbl9.size)).trans (hb10.mono (Nat.le_trans hbl9.size HALL.out.size))).trans (hb11.mono (Nat.le_trans hbl9.size HALL.out.size)), HN2⟩
                      case measure => simp [intOf]; omega


        · have d1 : decide (m.time ≤ t) = false := decide_eq_false hti
          have HE := Lib.hid (show o = atM l t by rw [HT.out, ← HR.out, HST.out (by omega)])
          clear hti
          go_wp2_with fail
          go_ret
          exact ⟨_, rfl, HE.out ▸ hout, hbel⟩
      · obtain rfl : k = l.length := by omega
        have hd : decide ((l.length : Int) < (l.length : Int)) = false := decide_eq_false (by omega)
        have hdn : decide (l.length < l.length) = false := decide_eq_false (by omega)
        have HE := Lib.hid (show o = atM l t by rw [HT.out, ← HR.out, List.drop_length]; rfl)
        go_wp2_with fail
        go_ret
        exact ⟨_, rfl, HE.out ▸ hout, hbel⟩
  · have hne : (errM l != 0) = true := by simpa using h0
    have HT := Lib.hid (show atM l t = [] by unfold atM; rw [if_neg h0])
    clear h0
    generalize errM l = x at *
    go_enter Tryz.func24, Tryz.ntmps24
    go_wp2_with fail
    refine V.out.mono ?_
    rintro e w0 ⟨rfl, hb0⟩
    go_wp2_with fail
    go_ret
    exact ⟨_, rfl, .inl ⟨rfl, HT.out⟩, hb0⟩
end Go.Proofs.YtklnakjmiljmhaaGreatDoor
