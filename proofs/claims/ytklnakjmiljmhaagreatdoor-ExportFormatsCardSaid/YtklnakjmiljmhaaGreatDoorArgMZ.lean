/- What a slice of messages that came in is: messages in memory, each text of a size that fits. -/
import Derived.Deep.Slices
import Derived.Test.YtklnakjmiljmhaaGreatDoorY20
namespace Go.Proofs.YtklnakjmiljmhaaGreatDoor
set_option linter.unusedVariables false
set_option linter.unusedSimpArgs false
set_option maxRecDepth 100000
open Go.RowKit Go.Deep
theorem mem_weightsAll {H : Type} {P : Program} {e : TypeId} {d : DataW H} : ∀ {l : List (DataW H)}, d ∈ l → ∀ x ∈ d.weights P e, x ∈ DataW.weightsAll P e l
  | y :: r, h, x, hx => by
    rw [DataW.weightsAll]
    rcases List.mem_cons.1 h with rfl | h
    · exact List.mem_append_left _ hx
    · exact List.mem_append_right _ (mem_weightsAll h x hx)
theorem take_one {cs : List Value} {j : Nat} {v : Value} (h : (cs.drop j).take 1 = [v]) : cs[j]? = some v := by
  have : ((cs.drop j).take 1)[0]? = some v := by rw [h]; rfl
  rw [List.getElem?_take_of_lt (by omega), List.getElem?_drop, Nat.add_zero] at this
  exact this
instance msInh : Inhabited Ms := ⟨⟨0, 0, [], 0, []⟩⟩
theorem msgsArg_of {H : Type} {enc : TypeId × Value → H} {w : World} {base : Nat} {spare : Nat → Bool} {held : Bool} {fuel : Nat} {A : Option Addr} {len cap : Nat} {x : DataW H × List MemPlace} (h : DataW.trod enc Tryz.prog w base spare held fuel 30 [.slice A len cap] = some x) (hz : (DataW.weights Tryz.prog 30 x.1).all (· ≤ reachBytes) = true) :
    ∃ l : List Ms, MC (.slice A len cap) l w ∧ l.length ≤ 140737488351232 ∧ ∀ m ∈ l, m.who.length ≤ 140737488351232 ∧ m.text.length ≤ 140737488351232 := by
  rcases open_slice Tryz.underlying30 h with ⟨hcs, -⟩ | ⟨a, len', cap', m, n, D, Pl, hcs, hb, hl, hm, hmm, hx, hi⟩
  · simp at hcs
    obtain ⟨rfl, rfl, rfl⟩ := hcs
    exact ⟨[], ⟨none, 0, rfl, by simp, .inl rfl⟩, by simp, by simp⟩
  · simp at hcs
    obtain ⟨rfl, rfl, rfl⟩ := hcs
    have hlm : len ≤ m := by rw [hmm]; split <;> omega
    have h5 : Tryz.prog.cellsOf 43 = 5 := by kernel_rfl
    have c1 : Tryz.prog.cellsOf 3 = 1 := by kernel_rfl
    have c2 : Tryz.prog.cellsOf 9 = 1 := by kernel_rfl
    obtain ⟨M, hM⟩ := choose_lt (α := Ms) (n := len) (p := fun i ms => (∀ j < 5, w.cell? (a.add (i * 5 + j)) = (encM ms)[j]?) ∧ D i = .agg [.lit (.int .i64 ms.kind), .lit (.int .i64 ms.id), .lit (.string ms.who), .lit (.int .i64 ms.time), .lit (.string ms.text)]) (fun i him => by
      obtain ⟨cs', h1, h2⟩ := hi i (by omega)
      rw [h5] at h1
      obtain ⟨-, hlen, hcell⟩ := World.cells?_some h1
      obtain ⟨ys, n', -, hy, -, hyl, hf⟩ := DataW.trod_struct Tryz.underlying43 h2
      have f0 : DataW.trod enc Tryz.prog w base spare held n' 3 ((cs'.drop 0).take (Tryz.prog.cellsOf 3)) = ys[0]? := hf 0 _ rfl
      have f1 : DataW.trod enc Tryz.prog w base spare held n' 3 ((cs'.drop 1).take (Tryz.prog.cellsOf 3)) = ys[1]? := hf 1 _ rfl
      have f2 : DataW.trod enc Tryz.prog w base spare held n' 9 ((cs'.drop 2).take (Tryz.prog.cellsOf 9)) = ys[2]? := hf 2 _ rfl
      have f3 : DataW.trod enc Tryz.prog w base spare held n' 3 ((cs'.drop 3).take (Tryz.prog.cellsOf 3)) = ys[3]? := hf 3 _ rfl
      have f4 : DataW.trod enc Tryz.prog w base spare held n' 9 ((cs'.drop 4).take (Tryz.prog.cellsOf 9)) = ys[4]? := hf 4 _ rfl
      rw [c1] at f0 f1 f3
      rw [c2] at f2 f4
      match ys, hyl with
      | [y0, y1, y2, y3, y4], _ =>
        obtain ⟨k0, e0, rfl, -⟩ := DataW.trod_int Tryz.underlying3 (f0.trans rfl)
        obtain ⟨k1, e1, rfl, -⟩ := DataW.trod_int Tryz.underlying3 (f1.trans rfl)
        obtain ⟨s2, e2, rfl, -⟩ := DataW.trod_string Tryz.underlying9 (f2.trans rfl)
        obtain ⟨k3, e3, rfl, -⟩ := DataW.trod_int Tryz.underlying3 (f3.trans rfl)
        obtain ⟨s4, e4, rfl, -⟩ := DataW.trod_string Tryz.underlying9 (f4.trans rfl)
        refine ⟨⟨k0, k1, bl s2, k3, bl s4⟩, fun j hj => ?_, ?_⟩
        · rw [← add_add, hcell j hj]
          have hj5 : j = 0 ∨ j = 1 ∨ j = 2 ∨ j = 3 ∨ j = 4 := by omega
          unfold encM
          rw [bs_bl, bs_bl]
          rcases hj5 with rfl | rfl | rfl | rfl | rfl
          · exact take_one e0
          · exact take_one e1
          · exact take_one e2
          · exact take_one e3
          · exact take_one e4
        · exact (Prod.mk.inj hy).1)
    have hget : ∀ i (h : i < ((List.range len).map M).length), ((List.range len).map M)[i] = M i := fun i h => by simp
    have hw1 : ∀ i, i < len → (M i).who.length ≤ reachBytes ∧ (M i).text.length ≤ reachBytes := fun i hil => by
      have hmem : D i ∈ (List.range len).map D := List.mem_map.2 ⟨i, by simpa using hil, rfl⟩
      have hall := List.all_eq_true.1 hz
      rw [hx] at hall
      have hsub : ∀ q ∈ (D i).weights Tryz.prog 43, q ≤ reachBytes := fun q hq => by
        refine of_decide_eq_true (hall q ?_)
        unfold DataW.weights
        rw [Tryz.underlying30]
        exact List.mem_cons_of_mem _ (List.mem_append_left _ (mem_weightsAll hmem q hq))
      have hD := (hM i hil).2
      rw [hD] at hsub
      unfold DataW.weights at hsub
      rw [Tryz.underlying43] at hsub
      exact ⟨hsub _ (by simp [DataW.weightsEach, DataW.weights]), hsub _ (by simp [DataW.weightsEach, DataW.weights])⟩
    have hlb : len ≤ reachBytes := by
      have hall := List.all_eq_true.1 hz
      rw [hx] at hall
      have := of_decide_eq_true (hall ((((List.range len).map D).length + ((List.range (m - len)).map fun j => D (len + j)).length) * Tryz.prog.bytesOf 43) (by
        unfold DataW.weights
        rw [Tryz.underlying30]
        exact List.mem_cons_self))
      have hby : Tryz.prog.bytesOf 43 = 56 := by kernel_rfl
      rw [hby] at this
      simp at this
      omega
    unfold reachBytes at hw1 hlb
    refine ⟨(List.range len).map M, ⟨some a, cap, by simp, by simpa using hl, ?_⟩, by simpa using hlb, fun x hx => ?_⟩
    · by_cases h0 : len = 0
      · left; rw [h0]; rfl
      · right
        have h00 := (hM 0 (by omega)).1 0 (by decide)
        have hsome : (w.cell? (a.add (0 * 5 + 0))).isSome = true := by rw [h00]; rfl
        obtain ⟨g, f, spot⟩ := a
        have hsp : spot = none := by
          cases spot with
          | none => rfl
          | some s =>
            exfalso
            unfold World.cell? Addr.add at hsome
            simp at hsome
            split at hsome <;> simp at hsome
        subst hsp
        refine ⟨g, f, rfl, ?_, fun i hil => ?_⟩
        · have := World.block_lt_of_cell? w _ h00
          exact this
        · rw [hget i hil]
          have hil' : i < len := by simpa using hil
          have hc := (hM i hil').1
          have e : ∀ j, Addr.add ⟨g, f, none⟩ (i * 5 + j) = ⟨g, f + i * 5 + j, none⟩ := fun j => by rw [Addr.add_lit, Nat.add_assoc]
          refine ⟨?_, ?_, ?_, ?_, ?_⟩
          · have := hc 0 (by decide); rw [e] at this; exact this
          · have := hc 1 (by decide); rw [e] at this; exact this
          · have := hc 2 (by decide); rw [e] at this; exact this
          · have := hc 3 (by decide); rw [e] at this; exact this
          · have := hc 4 (by decide); rw [e] at this; exact this
    · obtain ⟨i, hi', rfl⟩ := List.mem_map.1 hx
      exact hw1 i (by simpa using hi')
end Go.Proofs.YtklnakjmiljmhaaGreatDoor
