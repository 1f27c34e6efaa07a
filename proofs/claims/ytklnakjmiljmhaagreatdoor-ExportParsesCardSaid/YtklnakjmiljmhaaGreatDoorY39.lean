/- Walk: a line that the reference reads. Condition: the line is not absurdly long. · Walk: what the reference reads out of bytes. Condition: not absurdly many bytes. -/
import Derived.Deep.CutRange
import Derived.Test.YtklnakjmiljmhaaGreatDoorY27
import Derived.Test.YtklnakjmiljmhaaGreatDoorY19
import Derived.Test.YtklnakjmiljmhaaGreatDoorY25
import Derived.Test.YtklnakjmiljmhaaGreatDoorY18
import Derived.Test.YtklnakjmiljmhaaGreatDoorY29
import Derived.Test.YtklnakjmiljmhaaGreatDoorY28
import Derived.Test.YtklnakjmiljmhaaGreatDoorY20
namespace Go.Proofs.YtklnakjmiljmhaaGreatDoor
set_option linter.unusedVariables false
set_option linter.unusedSimpArgs false
set_option maxRecDepth 100000
open Go.RowKit
def encB1 (x : List UInt8) : List Value := [.string (bs x)]
theorem encB1_E : EncS encB1 1 := ⟨by decide, fun _ => rfl, fun x u hu => by simp [encB1] at hu; subst hu; rfl⟩
/-- What is cut so far, and what the rest is cut into. -/
def cutG (ws : List (List UInt8)) (x : List UInt8) : List (List UInt8) × List UInt8 := (ws ++ (cutW (4 - ws.length) [] x).1, (cutW (4 - ws.length) [] x).2)
theorem cutG_full {ws : List (List UInt8)} {x : List UInt8} (h : ws.length = 4) : cutG ws x = (ws, x) := by
  unfold cutG; rw [h]; simp [cutW]
theorem cutG_hit {ws : List (List UInt8)} {x : List UInt8} {k : Nat} (h : ws.length < 4) (hk : k < x.length) (hne : ∀ c ∈ x.take k, c ≠ 32) (hx : x[k] = 32) : cutG (ws ++ [x.take k]) (x.drop (k + 1)) = cutG ws x := by
  unfold cutG
  obtain ⟨n, hn⟩ : ∃ n, 4 - ws.length = n + 1 := ⟨3 - ws.length, by omega⟩
  have hn2 : 4 - (ws ++ [x.take k]).length = n := by simp; omega
  have hs : x = x.take k ++ 32 :: x.drop (k + 1) := by
    rw [← hx, ← List.drop_eq_getElem_cons hk, List.take_append_drop]
  rw [hn, hn2]
  conv => rhs; rw [hs, cutW_hit n _ _ _ hne]
  simp
theorem cutG_last {ws : List (List UInt8)} {x : List UInt8} (h : ws.length < 4) (hne : ∀ c ∈ x, c ≠ 32) : cutG ws x = (ws ++ [x], []) := by
  unfold cutG
  obtain ⟨n, hn⟩ : ∃ n, 4 - ws.length = n + 1 := ⟨3 - ws.length, by omega⟩
  rw [hn, cutW_last n _ _ hne]; simp
def lenV : Value → Nat
  | .slice _ n _ => n
  | _ => 0
theorem set_cell_row {w : World} {G e : Nat} {cs : Array Value} {m : Nat × Nat} (h : w.heap[G]? = some (.cells cs e m)) (j : Nat) (v : Value) : (w.setCell ⟨G, j, none⟩ v).heap[G]? = some (.cells (cs.setIfInBounds j v) e m) := by
  simp [World.setCell, Array.getElem?_modify, h]
/-- No space among the first bytes. -/
def noF (s : ByteArray) (k : Nat) : Prop := ∀ c ∈ (bl s).take k, c ≠ 32
theorem noF_step {s : ByteArray} {k : Nat} (h : noF s k) (hk : k < s.size) {u : UInt8} (hu : u = s[k]) (hne : u ≠ 32) : noF s (k + 1) := by
  intro c hc
  rw [List.take_add_one, List.mem_append] at hc
  rcases hc with hc | hc
  · exact h c hc
  · have : (bl s)[k]? = some s[k] := by
      have h1 := drop_byte s k hk
      have h2 : ((bl s).drop k)[0]? = some s[k] := by rw [h1]; rfl
      rw [List.getElem?_drop] at h2; simpa using h2
    rw [this] at hc
    simp at hc
    rw [hc, ← hu]; exact hne
theorem get_bl {s : ByteArray} {k : Nat} (hk : k < s.size) (h : k < (bl s).length) : (bl s)[k] = s[k] := by
  have h1 := drop_byte s k hk
  have h2 : ((bl s).drop k)[0]? = some s[k] := by rw [h1]; rfl
  rw [List.getElem?_drop] at h2
  rw [List.getElem?_eq_getElem (by simpa using h)] at h2
  simpa using h2
/-- The kind, when the words of the kinds below k have been asked. -/
def kwF (a : List UInt8) : Nat → Int
  | 0 => 0
  | k + 1 => if wordM (k : Int) = a ∧ 1 ≤ k then (k : Int) else kwF a k
theorem kwF_end (a : List UInt8) : kwF a 4 = kindW a := by
  unfold kindW
  simp only [kwF]
  by_cases h3 : a = wordM 3
  · subst h3; decide
  · by_cases h2 : a = wordM 2
    · subst h2; decide
    · by_cases h1 : a = wordM 1
      · subst h1; decide
      · rw [if_neg h3, if_neg h2, if_neg h1]
        rw [if_neg (by rintro ⟨h, -⟩; exact h3 h.symm), if_neg (by rintro ⟨h, -⟩; exact h2 h.symm), if_neg (by rintro ⟨h, -⟩; exact h1 h.symm), if_neg (by rintro ⟨-, h⟩; omega)]
theorem lineR_short {s : List UInt8} {ws : List (List UInt8)} {x : List UInt8} (h : cutW 4 [] s = (ws, x)) (hl : ws.length < 4) : lineR s = none := by
  unfold lineR
  rw [h]
  match ws, hl with
  | [], _ => rfl
  | [_], _ => rfl
  | [_, _], _ => rfl
  | [_, _, _], _ => rfl
def lineN (a b c d r : List UInt8) : Option Ms :=
  match valR b, valR c, decEsc r [] with
  | some i, some t, some x => if kindW a = 0 then none else some ⟨kindW a, (i : Int), d, (t : Int), x⟩
  | _, _, _ => none
theorem lineR_four {s a b c d x : List UInt8} (h : cutW 4 [] s = ([a, b, c, d], x)) : lineR s = lineN a b c d x := by
  unfold lineR lineN; rw [h]; rfl
theorem val_parts (o : Option Nat) : ∃ (i : Nat) (x : Bool), valV o = .tuple #[.int .i64 (i : Int), .bool x] ∧ ((x = true ∧ o = some i) ∨ (x = false ∧ o = none)) := by
  cases o with
  | none => exact ⟨0, false, rfl, .inr ⟨rfl, rfl⟩⟩
  | some i => exact ⟨i, true, rfl, .inl ⟨rfl, rfl⟩⟩
set_option maxHeartbeats 4000000 in
theorem line_ref (s : List UInt8) (w : World) (hs : s.length ≤ 600000) : Calls Tryz.prog 35 #[.string (bs s)] w (RdPost (lineR s) w) := by
  obtain ⟨i0, hi, hz0, hz1, hz2⟩ := info_parts info_str
  go_enter Tryz.func35, Tryz.ntmps35
  go_upto_region 1 with fail
  obtain ⟨W0, hW0⟩ : ∃ W0 : World, W0 = w.alloc (.cells #[.int .i64 0, .int .i64 0, .string ⟨#[]⟩, .int .i64 0, .string ⟨#[]⟩] 43) := ⟨_, rfl⟩
  have hrow : W0.heap[w.heap.size]? = some (.cells #[.int .i64 0, .int .i64 0, .string ⟨#[]⟩, .int .i64 0, .string ⟨#[]⟩] 43 (0, 0)) := by rw [hW0]; exact heap_alloc_new w _
  have hb0 : Below w.heap.size w W0 := by rw [hW0]; exact (Below.refl _ _).alloc (Nat.le_refl _) _
  have hz0' : W0.heap.size = w.heap.size + 1 := by rw [hW0]; simp
  rw [← hW0]
  clear hW0
  go_cut [4] from 14 to 14 (fun v wx => v = .slice none 0 0 ∧ wx = W0)
  case first =>
    go_wp2_with fail
    go_meet
    exact ⟨rfl, rfl⟩
  obtain ⟨rfl, hx⟩ := hcut
  rw [hx]
  clear hx
  apply_assumption
  apply wp_seq_k
  intro _ _
  go_cut [0, 4] from 14 to 102 (fun sv v wx => ∃ (X : ByteArray) (ws : List (List UInt8)), sv = .string X ∧ OR 9 1 encB1 W0.heap.size v ws wx ∧ ws.length ≤ 4 ∧ X.size ≤ 600000 ∧ Hid (cutW 4 [] s = (ws, bl X)) ∧ (∀ y ∈ ws, y.length ≤ 600000) ∧ Below W0.heap.size W0 wx)
  case first =>
    go_step
    go_loopw [0, 4] (fun sv v wr => ∃ (X : ByteArray) (ws : List (List UInt8)), sv = .string X ∧ OR 9 1 encB1 W0.heap.size v ws wr ∧ ws.length ≤ 4 ∧ X.size ≤ 600000 ∧ Hid (cutG ws (bl X) = cutW 4 [] s) ∧ (∀ y ∈ ws, y.length ≤ 600000) ∧ Below W0.heap.size W0 wr) (fun _ v _ => 4 - lenV v)
    case atStart => exact ⟨bs s, [], rfl, OR.nil_ _ _ _, by simp, by rw [size_bs]; exact hs, by show cutG _ _ = _; unfold cutG; simp [bl_bs], by simp, Below.refl _ _⟩
    case round =>
      obtain ⟨X, ws, rfl, hown, hw4, hX, HG, hys, hbel⟩ := hrel
      obtain ⟨A, c, rfl, hc, hcell⟩ := OR.cells encB1_E hown
      by_cases h4 : ws.length < 4
      · have d4 : decide ((ws.length : Int) < 4) = true := decide_eq_true (by omega)
        have d4n : decide (ws.length < 4) = true := decide_eq_true h4
        have HC := Lib.hid hcell
        clear hcell
        go_wp2_with fail
        go_loop [5] (fun v => ∃ k : Nat, k ≤ X.size ∧ v = .int .i64 (k : Int) ∧ Hid (noF X k)) (fun v => X.size - (intOf v).toNat)
        case atStart => exact ⟨0, by omega, rfl, by show noF X 0; intro c hc; simp at hc⟩
        case round =>
          obtain ⟨k, hk, rfl, HF⟩ := hrel
          have hbw : W0.heap.size ≤ wr.heap.size := hbel.size
          have hsz : (X.extract 0 k).size ≤ 600000 := by rw [ByteArray.size_extract]; omega
          by_cases hlt : k < X.size
          · have hd : decide ((k : Int) < (X.size : Int)) = true := decide_eq_true (by omega)
            have hdn : decide (k < X.size) = true := decide_eq_true hlt
            obtain ⟨u, c32, hu, hcu, hc0, hc1, hix⟩ := idx_str Tryz.underlying9 X k hlt .i64 (k : Int) rfl
            by_cases h32 : c32 = 32
            · have h1 : (c32 != 32) = false := by simp [h32]
              have hu32 : u = 32 := UInt8.toNat_inj.1 (by have := hcu.out; rw [h32] at this; rw [show (32 : UInt8).toNat = 32 from rfl]; omega)
              have HN := Lib.hid (show cutG (ws ++ [(bl X).take k]) ((bl X).drop (k + 1)) = cutW 4 [] s from
                (cutG_hit h4 (by rw [size_list]; exact hlt) HF.out ((get_bl hlt _).trans (hu.out.symm.trans hu32))).trans HG.out)
              have hke : ((k : Int) == (X.size : Int)) = false := by simp; omega
              have hwk : IntKind.i64.wrap ((k : Int) + 1) = (k : Int) + 1 := IntWalk.i64_in _ (by omega)
              clear hu hcu hc0 hc1 h32 hu32
              go_wp2_with (at_builtin; refine app_one encB1_E Tryz.underlying55 hi hz0 hz1 hz2 rfl (by decide) _ _ _ _ ws (bl (X.extract 0 k)) _ W0.heap.size rfl rfl rfl rfl (by rw [encB1, bs_bl]) hown (by omega) hbw ?_; intro v1 w3 hown3 hb3)
              obtain ⟨A3, c3, rfl, -, -⟩ := OR.cells encB1_E hown3
              refine ⟨⟨_, _, rfl, hown3, by simp; omega, by rw [ByteArray.size_extract]; omega, ?_, ?_, hbel.trans hb3⟩, by simp [lenV]; omega⟩
              · show cutG _ _ = _
                rw [extract_take, extract_drop]; exact HN.out
              · intro y hy
                rcases List.mem_append.1 hy with h | h
                · exact hys y h
                · rw [List.mem_singleton.1 h, size_list]; exact hsz
            · have h1 : (c32 != 32) = true := by simpa using h32
              have HN := Lib.hid (noF_step HF.out hlt hu.out (fun h => h32 (by have := hcu.out; rw [h] at this; rw [this]; rfl)))
              clear hu hcu hc0 hc1 h32
              go_wp2_with fail
              go_round
              case rel => exact ⟨k + 1, by omega, by go_num, HN⟩
              case measure => simp [intOf]; omega
          · obtain rfl : k = X.size := by omega
            have hd : decide ((X.size : Int) < (X.size : Int)) = false := decide_eq_false (by omega)
            have hdn : decide (X.size < X.size) = false := decide_eq_false (by omega)
            have HN := Lib.hid (show cutW 4 [] s = (ws ++ [bl X], []) from HG.out.symm.trans (cutG_last h4 (fun c hc => HF.out c (by rw [List.take_of_length_le (by rw [size_list]; omega)]; exact hc))))
            go_wp2_with (at_builtin; refine app_one encB1_E Tryz.underlying55 hi hz0 hz1 hz2 rfl (by decide) _ _ _ _ ws (bl X) _ W0.heap.size rfl rfl rfl rfl (by rw [encB1, bs_bl]) hown (by omega) hbw ?_; intro v1 w3 hown3 hb3)
            go_meet
            refine ⟨⟨#[]⟩, _, rfl, hown3, by simp; omega, by decide, ?_, ?_, hbel.trans hb3⟩
            · show cutW 4 [] s = _
              rw [HN.out]; rfl
            · intro y hy
              rcases List.mem_append.1 hy with h | h
              · exact hys y h
              · rw [List.mem_singleton.1 h, size_list]; exact hX
      · have d4 : decide ((ws.length : Int) < 4) = false := decide_eq_false (by omega)
        have d4n : decide (ws.length < 4) = false := decide_eq_false h4
        have HN := Lib.hid (show cutW 4 [] s = (ws, bl X) from HG.out.symm.trans (cutG_full (by omega)))
        go_wp2_with fail
        go_meet
        exact ⟨X, ws, rfl, hown, hw4, hX, HN, hys, hbel⟩
  case rest =>
    obtain ⟨X, ws, rfl, hown, hw4, hX, HG, hys, hbel⟩ := hcut
    obtain ⟨A, c, rfl, hc, hcell⟩ := OR.cells encB1_E hown
    have hb1 := hb0.trans (hbel.mono (by omega))
    have hz := (hbel.block w.heap.size (by omega)).trans hrow
    have fz : ∀ j, wc.frozen? ⟨w.heap.size, j, none⟩ = false := fun j => by simp [World.frozen?, hz]
    have z0 : wc.cell? ⟨w.heap.size, 0, none⟩ = some (.int .i64 0) := by rw [cell_of_row _ _ _ _ _ _ hz]; rfl
    have z1 : wc.cell? ⟨w.heap.size, 1, none⟩ = some (.int .i64 0) := by rw [cell_of_row _ _ _ _ _ _ hz]; rfl
    have z2 : wc.cell? ⟨w.heap.size, 2, none⟩ = some (.string ⟨#[]⟩) := by rw [cell_of_row _ _ _ _ _ _ hz]; rfl
    have z3 : wc.cell? ⟨w.heap.size, 3, none⟩ = some (.int .i64 0) := by rw [cell_of_row _ _ _ _ _ _ hz]; rfl
    have z4 : wc.cell? ⟨w.heap.size, 4, none⟩ = some (.string ⟨#[]⟩) := by rw [cell_of_row _ _ _ _ _ _ hz]; rfl
    have hwz : w.heap.size < wc.heap.size := (Array.getElem?_eq_some_iff.1 hz).1
    have HZ := Lib.hid hz; clear hz
    by_cases h4 : ws.length < 4
    · have d4 : decide ((ws.length : Int) < 4) = true := decide_eq_true (by omega)
      have d4n : decide (ws.length < 4) = true := decide_eq_true h4
      have HN := Lib.hid (lineR_short HG.out h4)
      clear hcell
      apply_assumption
      go_wp2_with fail
      refine bodyPost_ret (v := .tuple #[.agg (encM ⟨0, 0, [], 0, []⟩).toArray, .bool false]) (by simp [results, Tryz.results35, go_sem, z0, z1, z2, z3, z4, encM]; try rfl) rfl ?_
      exact ⟨⟨_, _, rfl, .inr ⟨rfl, HN.out⟩⟩, ((((hb1.setCell (p := ⟨w.heap.size, 0, none⟩) (Nat.le_refl _) _).setCell (p := ⟨w.heap.size, 1, none⟩) (Nat.le_refl _) _).setCell (p := ⟨w.heap.size, 2, none⟩) (Nat.le_refl _) _).setCell (p := ⟨w.heap.size, 3, none⟩) (Nat.le_refl _) _).setCell (p := ⟨w.heap.size, 4, none⟩) (Nat.le_refl _) _⟩
    have d4 : decide ((ws.length : Int) < 4) = false := decide_eq_false (by omega)
    have d4n : decide (ws.length < 4) = false := decide_eq_false h4
    obtain ⟨a, b, c1, d, rfl⟩ : ∃ a b c1 d, ws = [a, b, c1, d] := by
      match ws, hw4, h4 with
      | [a, b, c1, d], _, _ => exact ⟨a, b, c1, d, rfl⟩
      | [], _, h | [_], _, h | [_, _], _, h | [_, _, _], _, h => simp at h
      | _ :: _ :: _ :: _ :: _ :: _, h, _ => simp at h
    obtain ⟨g, rfl, hg0, hg, hcs⟩ := hcell.resolve_left (by simp)
    have q0 := (hcs 0 (by simp) 0 (by decide)).1
    have q1 := (hcs 1 (by simp) 0 (by decide)).1
    have q2 := (hcs 2 (by simp) 0 (by decide)).1
    have q3 := (hcs 3 (by simp) 0 (by decide)).1
    simp only [List.getElem_cons_zero, List.getElem_cons_succ, Nat.zero_mul, Nat.one_mul, Nat.mul_one, Nat.add_zero, Nat.zero_add, encB1, List.getElem?_cons_zero] at q0 q1 q2 q3
    have HN := Lib.hid (lineR_four HG.out)
    have hya := hys a (by simp)
    have hyb := hys b (by simp)
    have hyc := hys c1 (by simp)
    clear hcs hys
    apply_assumption
    go_upto_region 13 with fail
    obtain ⟨W2, hW2⟩ : ∃ W2 : World, W2 = wc.alloc (.cells #[.int .i64 0, .int .i64 0, .string (bs d), .int .i64 0, .string ⟨#[]⟩] 43) := ⟨_, rfl⟩
    have hM2 : W2.heap[wc.heap.size]? = some (.cells #[.int .i64 0, .int .i64 0, .string (bs d), .int .i64 0, .string ⟨#[]⟩] 43 (0, 0)) := by rw [hW2]; exact heap_alloc_new wc _
    have hb2 : Below wc.heap.size wc W2 := by rw [hW2]; exact (Below.refl _ _).alloc (Nat.le_refl _) _
    rw [← hW2]
    obtain ⟨M, hM⟩ : ∃ M, M = wc.heap.size := ⟨_, rfl⟩
    have Q0 := Lib.hid (fun (w' : World) (h : Below M W2 w') => (h.cell (p := ⟨g, 0, none⟩) (by dsimp only; omega)).trans ((hb2.cell (p := ⟨g, 0, none⟩) (by dsimp only; omega)).trans q0))
    have Q1 := Lib.hid (fun (w' : World) (h : Below M W2 w') => (h.cell (p := ⟨g, 1, none⟩) (by dsimp only; omega)).trans ((hb2.cell (p := ⟨g, 1, none⟩) (by dsimp only; omega)).trans q1))
    have Q2 := Lib.hid (fun (w' : World) (h : Below M W2 w') => (h.cell (p := ⟨g, 2, none⟩) (by dsimp only; omega)).trans ((hb2.cell (p := ⟨g, 2, none⟩) (by dsimp only; omega)).trans q2))
    have HZ2 := Lib.hid ((hb2.block w.heap.size hwz).trans HZ.out)
    have hbw2 := hb1.trans (hb2.mono (by omega))
    have hw2z : W2.heap.size = M + 1 := by rw [hW2, hM]; simp
    rw [← hM] at hM2 hwz hg ⊢
    clear hW2 hM hb2 q0 q1 q2 q3 z0 z1 z2 z3 z4 fz HZ hb1 hbel hown
    go_wp2_with fail
    go_loopw [7] (fun kv wr => ∃ k : Nat, 1 ≤ k ∧ k ≤ 4 ∧ kv = .int .i64 (k : Int) ∧ wr.heap[M]? = some (.cells #[.int .i64 (kwF a k), .int .i64 0, .string (bs d), .int .i64 0, .string ⟨#[]⟩] 43 (0, 0)) ∧ Below M W2 wr) (fun kv _ => 4 - (intOf kv).toNat)
    case atStart => exact ⟨1, by omega, by omega, rfl, by rw [show kwF a 1 = 0 by simp [kwF]]; exact hM2, Below.refl _ _⟩
    case round =>
      obtain ⟨k, hk1, hk4, rfl, hrowM, hbM⟩ := hrel
      by_cases hk3 : k ≤ 3
      · have dk : decide ((k : Int) ≤ 3) = true := decide_eq_true (by omega)
        have dkn : decide (k ≤ 3) = true := decide_eq_true hk3
        have c0 := Q0.out wr hbM
        have m0 : wr.cell? ⟨M, 0, none⟩ = some (.int .i64 (kwF a k)) := by rw [cell_of_row _ _ _ _ _ _ hrowM]; rfl
        have f0 : wr.frozen? ⟨M, 0, none⟩ = false := by simp [World.frozen?, hrowM]
        have HR := Lib.hid hrowM
        have HW := Lib.hid (word_ref (k : Int))
        clear hrowM
        by_cases e : wordM (k : Int) = a
        · have hq : (bs (wordM (k : Int))).toList = (bs a).toList := by rw [e]
          have HK := Lib.hid (show kwF a (k + 1) = (k : Int) by rw [kwF, if_pos ⟨e, hk1⟩])
          clear e
          obtain ⟨sw, hsw⟩ : ∃ s, s = bs (wordM (k : Int)) := ⟨_, rfl⟩
          obtain ⟨sa, hsa⟩ : ∃ s, s = bs a := ⟨_, rfl⟩
          rw [← hsw] at HW hq
          rw [← hsa] at hq c0
          clear hsw hsa
          go_upto_region 16 with fail
          go_quiet ((go_at_call 25; exact quiet_sym (HW.out _)))
          go_wp2_with fail
          refine ⟨⟨k + 1, by omega, by omega, by go_num, by rw [HK.out]; exact set_row (w := wr.drewN nq) HR.out _, (below_drewN hbM nq).setCell (p := ⟨M, 0, none⟩) (Nat.le_refl _) _⟩, by simp [intOf]; omega⟩
        · have hq : ((bs (wordM (k : Int))).toList == (bs a).toList) = false := by rw [toList_bs', toList_bs']; exact beq_eq_false_iff_ne.2 e
          have HK := Lib.hid (show kwF a (k + 1) = kwF a k by rw [kwF, if_neg (fun h => e h.1)])
          clear e
          obtain ⟨sw, hsw⟩ : ∃ s, s = bs (wordM (k : Int)) := ⟨_, rfl⟩
          obtain ⟨sa, hsa⟩ : ∃ s, s = bs a := ⟨_, rfl⟩
          rw [← hsw] at HW hq
          rw [← hsa] at hq c0
          clear hsw hsa
          go_upto_region 16 with fail
          go_quiet ((go_at_call 25; exact quiet_sym (HW.out _)))
          go_wp2_with fail
          refine ⟨⟨k + 1, by omega, by omega, by go_num, by rw [HK.out]; exact HR.out, below_drewN hbM nq⟩, by simp [intOf]; omega⟩
      · obtain rfl : k = 4 := by omega
        rw [kwF_end] at hrowM
        obtain ⟨K, hK⟩ : ∃ K, kindW a = K := ⟨_, rfl⟩
        rw [hK] at hrowM
        obtain ⟨i, x, hvi, hxi⟩ := val_parts (valR b)
        obtain ⟨t, y, hvt, hyt⟩ := val_parts (valR c1)
        have HB := Lib.hid (fun w' => value_ref (bs b) w' (by rw [size_bs]; omega))
        have HC := Lib.hid (fun w' => value_ref (bs c1) w' (by rw [size_bs]; omega))
        rw [bl_bs] at HB HC
        rw [hvi] at HB
        rw [hvt] at HC
        have c1' := Q1.out wr hbM
        have c2' := Q2.out wr hbM
        have hbwr := hbw2.trans (hbM.mono (by omega))
        have HZ3 := Lib.hid ((hbM.block w.heap.size hwz).trans HZ2.out)
        have HV := Lib.hid (And.intro hxi (And.intro hyt hK))
        clear hvi hvt hxi hyt Q0 Q1 Q2 HZ2 hbw2 hK
        obtain ⟨W3, hW3⟩ : ∃ W : World, W = wr := ⟨_, rfl⟩
        rw [← hW3] at hrowM hbM c1' c2' hbwr HZ3 ⊢
        clear hW3
        go_wp2_with fail
        refine (HB.out _).mono ?_
        rintro e w' ⟨rfl, rfl⟩
        go_wp2_with fail
        refine (HC.out _).mono ?_
        rintro e w' ⟨rfl, rfl⟩
        have m0 : W3.cell? ⟨M, 0, none⟩ = some (.int .i64 K) := by rw [cell_of_row _ _ _ _ _ _ hrowM]; rfl
        have m1 : W3.cell? ⟨M, 1, none⟩ = some (.int .i64 0) := by rw [cell_of_row _ _ _ _ _ _ hrowM]; rfl
        have m2 : W3.cell? ⟨M, 2, none⟩ = some (.string (bs d)) := by rw [cell_of_row _ _ _ _ _ _ hrowM]; rfl
        have m3 : W3.cell? ⟨M, 3, none⟩ = some (.int .i64 0) := by rw [cell_of_row _ _ _ _ _ _ hrowM]; rfl
        have m4 : W3.cell? ⟨M, 4, none⟩ = some (.string ⟨#[]⟩) := by rw [cell_of_row _ _ _ _ _ _ hrowM]; rfl
        have fm : ∀ j, W3.frozen? ⟨M, j, none⟩ = false := fun j => by simp [World.frozen?, hrowM]
        have HM := Lib.hid hrowM
        clear hrowM c1' c2' HB HC
        have hcv := fun w => Lib.run_convert_string_bytes (P := Tryz.prog) w 9 23 5 X Tryz.underlying9 Tryz.underlying23 Tryz.underlying5
        go_upto_region 21 with fail
        obtain ⟨W4, hW4⟩ : ∃ W4 : World, W4 = (W3.setCell ⟨M, 1, none⟩ (.int .i64 (i : Int))).setCell ⟨M, 3, none⟩ (.int .i64 (t : Int)) := ⟨_, rfl⟩
        have hM4 : W4.heap[M]? = some (.cells #[.int .i64 K, .int .i64 (i : Int), .string (bs d), .int .i64 (t : Int), .string ⟨#[]⟩] 43 (0, 0)) := by rw [hW4]; exact set_cell_row (set_cell_row HM.out 1 _) 3 _
        have hb4 : Below M W3 W4 := by rw [hW4]; exact ((Below.refl M W3).setCell (p := ⟨M, 1, none⟩) (Nat.le_refl _) _).setCell (p := ⟨M, 3, none⟩) (Nat.le_refl _) _
        rw [← hW4]
        have hz4 := (hb4.block w.heap.size hwz).trans HZ3.out
        have hMs : M < W4.heap.size := (Array.getElem?_eq_some_iff.1 hM4).1
        have hbw4 := hbwr.trans (hb4.mono (by omega))
        clear hW4 m0 m1 m2 m3 m4 fm HM HZ3 hb4 hbwr
        obtain ⟨W5, C5, B5, hW5, hC5, hB5, hrb5, hbb5, hsz5⟩ := RB.names W4 5 X
        have hD := Decoded_ref 4 (by decide) ⟨B5, 0, none⟩ C5 X W5 (by omega) hrb5.bi
        rw [show decd 4 (bl X) = decEsc (bl X) [] by unfold decd; rfl] at hD
        have HD := Lib.hid hD
        have hbw5 := hbw4.trans (hbb5.mono (by omega))
        have HZ5 := Lib.hid ((hbb5.block w.heap.size (by omega)).trans hz4)
        have HM5 := Lib.hid ((hbb5.block M (by omega)).trans hM4)
        have hB5M : M < B5 := by omega
        clear hD hrb5 hz4 hM4 hbw4 hbb5
        go_wp2_with fail
        rw [← hW5, ← hC5, ← hB5]
        clear hcv hW5 hC5 hB5
        refine HD.out.mono ?_
        rintro e W6 ⟨v6, rfl, hv6, hb6⟩
        obtain ⟨ok, hok⟩ : ∃ ok, (decEsc (bl X) []).isSome = ok := ⟨_, rfl⟩
        obtain ⟨tx, htx⟩ : ∃ tx, (decEsc (bl X) []).getD [] = tx := ⟨_, rfl⟩
        rw [htx] at hv6
        rw [hok]
        obtain ⟨A6, n6, c6, rfl⟩ := hv6.form_
        have hcv := hv6.conv (P := Tryz.prog) (T := 23) (d := 9) Tryz.underlying23 Tryz.underlying5 Tryz.underlying9
        have hM6 := (hb6.block M (by omega)).trans HM5.out
        have hz6 := (hb6.block w.heap.size (by omega)).trans HZ5.out
        have hbw6 := hbw5.trans (hb6.mono (by omega))
        have hdec : Hid ((ok = true ∧ decEsc (bl X) [] = some tx) ∨ (ok = false ∧ decEsc (bl X) [] = none)) := by
          cases hh : decEsc (bl X) [] with
          | none => rw [hh] at hok; exact .inr ⟨hok.symm, rfl⟩
          | some z => rw [hh] at hok htx; exact .inl ⟨hok.symm, by rw [← htx]; rfl⟩
        have m0 : W6.cell? ⟨M, 0, none⟩ = some (.int .i64 K) := by rw [cell_of_row _ _ _ _ _ _ hM6]; rfl
        have m1 : W6.cell? ⟨M, 1, none⟩ = some (.int .i64 (i : Int)) := by rw [cell_of_row _ _ _ _ _ _ hM6]; rfl
        have m2 : W6.cell? ⟨M, 2, none⟩ = some (.string (bs d)) := by rw [cell_of_row _ _ _ _ _ _ hM6]; rfl
        have m3 : W6.cell? ⟨M, 3, none⟩ = some (.int .i64 (t : Int)) := by rw [cell_of_row _ _ _ _ _ _ hM6]; rfl
        have m4 : W6.cell? ⟨M, 4, none⟩ = some (.string ⟨#[]⟩) := by rw [cell_of_row _ _ _ _ _ _ hM6]; rfl
        have fm : ∀ j, W6.frozen? ⟨M, j, none⟩ = false := fun j => by simp [World.frozen?, hM6]
        have fz : ∀ j, W6.frozen? ⟨w.heap.size, j, none⟩ = false := fun j => by simp [World.frozen?, hz6]
        have z0 : W6.cell? ⟨w.heap.size, 0, none⟩ = some (.int .i64 0) := by rw [cell_of_row _ _ _ _ _ _ hz6]; rfl
        have z1 : W6.cell? ⟨w.heap.size, 1, none⟩ = some (.int .i64 0) := by rw [cell_of_row _ _ _ _ _ _ hz6]; rfl
        have z2 : W6.cell? ⟨w.heap.size, 2, none⟩ = some (.string ⟨#[]⟩) := by rw [cell_of_row _ _ _ _ _ _ hz6]; rfl
        have z3 : W6.cell? ⟨w.heap.size, 3, none⟩ = some (.int .i64 0) := by rw [cell_of_row _ _ _ _ _ _ hz6]; rfl
        have z4 : W6.cell? ⟨w.heap.size, 4, none⟩ = some (.string ⟨#[]⟩) := by rw [cell_of_row _ _ _ _ _ _ hz6]; rfl
        have hMR : ¬ M = w.heap.size := by omega
        have hRM : ¬ w.heap.size = M := by omega
        have hwM : w.heap.size ≤ M := by omega
        have hMs6 : M < W6.heap.size := by have := hb6.size; omega
        have hLN : Hid (lineN a b c1 d (bl X) = if x = true ∧ y = true ∧ ok = true ∧ K ≠ 0 then some ⟨K, (i : Int), d, (t : Int), tx⟩ else none) := by
          show lineN a b c1 d (bl X) = _
          unfold lineN
          obtain ⟨hx, hy, hK⟩ := HV.out
          rw [hK]
          rcases hx with ⟨rfl, hx⟩ | ⟨rfl, hx⟩ <;> rcases hy with ⟨rfl, hy⟩ | ⟨rfl, hy⟩ <;> rcases hdec.out with ⟨rfl, hd⟩ | ⟨rfl, hd⟩ <;> rw [hx, hy, hd] <;> simp
        have HBW := Lib.hid hbw6
        clear hv6 hb6 hM6 hz6 hbw6 hbw5 HZ5 HM5 HD hdec hok htx HV
        go_upto_region 23 with fail
        have hEND : Hid (∀ bb : Bool, (bb = true ↔ (x = true ∧ y = true ∧ ok = true ∧ K ≠ 0)) → ∀ e : Ending, e = .returned (.tuple #[.agg (encM ⟨K, (i : Int), d, (t : Int), tx⟩).toArray, .bool bb]) → ∀ w' : World, Below w.heap.size W6 w' → RdPost (lineR s) w e w') := by
          intro bb hbb e he w' hb'
          refine ⟨⟨_, bb, he, ?_⟩, HBW.out.trans hb'⟩
          rw [HN.out, hLN.out]
          by_cases h : x = true ∧ y = true ∧ ok = true ∧ K ≠ 0
          · rw [if_pos h]; exact .inl ⟨hbb.2 h, rfl⟩
          · rw [if_neg h]; refine .inr ⟨?_, rfl⟩
            cases bb with
            | false => rfl
            | true => exact absurd (hbb.1 rfl) h
        clear hLN HN HBW
        cases x with
        | false =>
          have HK := Lib.hid (show (false = true ↔ (false = true ∧ y = true ∧ ok = true ∧ K ≠ 0)) by simp)
          go_region
          all_goals
            go_wp2_with fail
            refine bodyPost_ret (v := .tuple #[.agg (encM ⟨K, (i : Int), d, (t : Int), tx⟩).toArray, .bool false]) (by simp [results, Tryz.results35, go_sem, z0, z1, z2, z3, z4, encM]; try rfl) rfl ?_
            exact hEND.out _ HK.out _ rfl _ (((((((Below.refl w.heap.size W6).setCell (p := ⟨M, 4, none⟩) hwM _).setCell (p := ⟨w.heap.size, 0, none⟩) (Nat.le_refl _) _).setCell (p := ⟨w.heap.size, 1, none⟩) (Nat.le_refl _) _).setCell (p := ⟨w.heap.size, 2, none⟩) (Nat.le_refl _) _).setCell (p := ⟨w.heap.size, 3, none⟩) (Nat.le_refl _) _).setCell (p := ⟨w.heap.size, 4, none⟩) (Nat.le_refl _) _).drew
        | true =>
          cases y with
          | false =>
            have HK := Lib.hid (show (false = true ↔ (true = true ∧ false = true ∧ ok = true ∧ K ≠ 0)) by simp)
            go_region
            all_goals
              go_wp2_with fail
              refine bodyPost_ret (v := .tuple #[.agg (encM ⟨K, (i : Int), d, (t : Int), tx⟩).toArray, .bool false]) (by simp [results, Tryz.results35, go_sem, z0, z1, z2, z3, z4, encM]; try rfl) rfl ?_
              exact hEND.out _ HK.out _ rfl _ (((((((Below.refl w.heap.size W6).setCell (p := ⟨M, 4, none⟩) hwM _).setCell (p := ⟨w.heap.size, 0, none⟩) (Nat.le_refl _) _).setCell (p := ⟨w.heap.size, 1, none⟩) (Nat.le_refl _) _).setCell (p := ⟨w.heap.size, 2, none⟩) (Nat.le_refl _) _).setCell (p := ⟨w.heap.size, 3, none⟩) (Nat.le_refl _) _).setCell (p := ⟨w.heap.size, 4, none⟩) (Nat.le_refl _) _).drew
          | true =>
            cases ok with
            | false =>
              have HK := Lib.hid (show (false = true ↔ (true = true ∧ true = true ∧ false = true ∧ K ≠ 0)) by simp)
              go_region
              all_goals
                go_wp2_with fail
                refine bodyPost_ret (v := .tuple #[.agg (encM ⟨K, (i : Int), d, (t : Int), tx⟩).toArray, .bool false]) (by simp [results, Tryz.results35, go_sem, z0, z1, z2, z3, z4, encM]; try rfl) rfl ?_
                exact hEND.out _ HK.out _ rfl _ (((((((Below.refl w.heap.size W6).setCell (p := ⟨M, 4, none⟩) hwM _).setCell (p := ⟨w.heap.size, 0, none⟩) (Nat.le_refl _) _).setCell (p := ⟨w.heap.size, 1, none⟩) (Nat.le_refl _) _).setCell (p := ⟨w.heap.size, 2, none⟩) (Nat.le_refl _) _).setCell (p := ⟨w.heap.size, 3, none⟩) (Nat.le_refl _) _).setCell (p := ⟨w.heap.size, 4, none⟩) (Nat.le_refl _) _).drew
            | true =>
              by_cases hK0 : K = 0
              · have hkb : (K != 0) = false := by simp [hK0]
                have HK := Lib.hid (show (false = true ↔ (true = true ∧ true = true ∧ true = true ∧ K ≠ 0)) by simp [hK0])
                clear hK0
                go_region
                all_goals
                  go_wp2_with fail
                  refine bodyPost_ret (v := .tuple #[.agg (encM ⟨K, (i : Int), d, (t : Int), tx⟩).toArray, .bool false]) (by simp [results, Tryz.results35, go_sem, z0, z1, z2, z3, z4, encM]; try rfl) rfl ?_
                  exact hEND.out _ HK.out _ rfl _ (((((((Below.refl w.heap.size W6).setCell (p := ⟨M, 4, none⟩) hwM _).setCell (p := ⟨w.heap.size, 0, none⟩) (Nat.le_refl _) _).setCell (p := ⟨w.heap.size, 1, none⟩) (Nat.le_refl _) _).setCell (p := ⟨w.heap.size, 2, none⟩) (Nat.le_refl _) _).setCell (p := ⟨w.heap.size, 3, none⟩) (Nat.le_refl _) _).setCell (p := ⟨w.heap.size, 4, none⟩) (Nat.le_refl _) _).drew
              · have hkb : (K != 0) = true := by simp [hK0]
                have HK := Lib.hid hK0
                clear hK0
                go_region
                all_goals
                  go_wp2_with fail
                  refine bodyPost_ret (v := .tuple #[.agg (encM ⟨K, (i : Int), d, (t : Int), tx⟩).toArray, .bool true]) (by simp [results, Tryz.results35, go_sem, z0, z1, z2, z3, z4, encM]; try rfl) rfl ?_
                  exact hEND.out true (by have := HK.out; simp [this]) _ rfl _ (((((((Below.refl w.heap.size W6).setCell (p := ⟨M, 4, none⟩) hwM _).setCell (p := ⟨w.heap.size, 0, none⟩) (Nat.le_refl _) _).setCell (p := ⟨w.heap.size, 1, none⟩) (Nat.le_refl _) _).setCell (p := ⟨w.heap.size, 2, none⟩) (Nat.le_refl _) _).setCell (p := ⟨w.heap.size, 3, none⟩) (Nat.le_refl _) _).setCell (p := ⟨w.heap.size, 4, none⟩) (Nat.le_refl _) _).drew
end Go.Proofs.YtklnakjmiljmhaaGreatDoor
namespace Go.Proofs.YtklnakjmiljmhaaGreatDoor
set_option linter.unusedVariables false
set_option linter.unusedSimpArgs false
set_option maxRecDepth 100000
open Go.RowKit
theorem cutW_bd : ∀ (s : List UInt8) (k : Nat) (a : List UInt8), (∀ y ∈ (cutW k a s).1, y.length ≤ a.length + s.length) ∧ (cutW k a s).2.length ≤ s.length
  | s, 0, a => by cases s <;> simp [cutW]
  | [], k + 1, a => by simp [cutW]
  | c :: r, k + 1, a => by
    rw [cutW]
    split
    · obtain ⟨h1, h2⟩ := cutW_bd r k []
      refine ⟨fun y hy => ?_, by simp; omega⟩
      rcases List.mem_cons.1 hy with rfl | hy
      · omega
      · have := h1 y hy; simp at this ⊢; omega
    · obtain ⟨h1, h2⟩ := cutW_bd r (k + 1) (a ++ [c])
      refine ⟨fun y hy => ?_, by simp; omega⟩
      have := h1 y hy; simp at this ⊢; omega
theorem lineR_bd {s : List UInt8} {m : Ms} (h : lineR s = some m) : m.who.length ≤ s.length ∧ m.text.length ≤ s.length := by
  obtain ⟨b1, b2⟩ := cutW_bd s 4 []
  unfold lineR at h
  generalize cutW 4 [] s = p at h b1 b2
  obtain ⟨ws, r⟩ := p
  match ws, h with
  | [a, b, c, d], h =>
    dsimp only at h b1 b2
    split at h
    · rename_i i t x hi ht hx
      split at h
      · cases h
      · cases h
        have h1 := b1 d (by simp)
        have h2 := escO_bd _ r [] x (Nat.le_refl _) hx
        simp at h1 h2
        exact ⟨h1, by dsimp only; omega⟩
    · cases h
  | [], h | [_], h | [_, _], h | [_, _, _], h => simp at h
  | _ :: _ :: _ :: _ :: _ :: _, h => simp at h
/-- What is read is small. -/
def SmP (o : List Ms) : Prop := o.length ≤ 301 ∧ ∀ m ∈ o, m.who.length ≤ 1000000 ∧ m.text.length ≤ 1000000
theorem SmP.small {o : List Ms} (h : SmP o) : Small o := ⟨by have := h.1; omega, h.2⟩
theorem SmP.snoc {o : List Ms} {m : Ms} (h : SmP o) (h3 : o.length ≤ 300) (h1 : m.who.length ≤ 1000000) (h2 : m.text.length ≤ 1000000) : SmP (o ++ [m]) := by
  refine ⟨by simp; omega, fun x hx => ?_⟩
  rcases List.mem_append.1 hx with hx | hx
  · exact h.2 x hx
  · simp at hx; subst hx; exact ⟨h1, h2⟩
theorem msg_row2 {w : World} {p : Nat} {m : Ms} (h : w.heap[p]? = some (.cells (encM m).toArray 43 (0, 0))) :
    w.cell? ⟨p, 0, none⟩ = some (.int .i64 m.kind) ∧ w.cell? ⟨p, 1, none⟩ = some (.int .i64 m.id) ∧ w.cell? ⟨p, 2, none⟩ = some (.string (bs m.who)) ∧ w.cell? ⟨p, 3, none⟩ = some (.int .i64 m.time) ∧ w.cell? ⟨p, 4, none⟩ = some (.string (bs m.text)) := by
  refine ⟨?_, ?_, ?_, ?_, ?_⟩ <;> (rw [cell_of_row _ _ _ _ _ _ h]; rfl)
theorem take_snoc {l : List UInt8} {f k : Nat} (hf : f ≤ k) (hk : k < l.length) : ((l.drop f).take (k - f)) ++ [l[k]] = (l.drop f).take (k + 1 - f) := by
  rw [show k + 1 - f = (k - f) + 1 by omega, List.take_add_one]
  congr 1
  rw [List.getElem?_drop, show f + (k - f) = k by omega, List.getElem?_eq_getElem hk]; rfl
theorem OM.later' {B : Nat} {v : Value} {o : List Ms} {w w' : World} (h : OM B v o w) (hb : Below w.heap.size w w') : OM B v o w' := OR.later h hb
set_option maxHeartbeats 4000000 in
theorem parse_ref (v : Value) (l : List UInt8) (w : World) (hv : BIn w.heap.size w v l) (hl : l.length ≤ 1000000000) : Calls Tryz.prog 12 #[v] w (PsPost l w) := by
  have HBIN := Lib.hid hv
  obtain ⟨A, n, c, rfl, rfl, hnc, hcell⟩ := hv
  by_cases hlim : 524288 < l.length
  · have hd : decide ((524288 : Int) < (l.length : Int)) = true := decide_eq_true (by omega)
    have hdn : decide (524288 < l.length) = true := decide_eq_true hlim
    have HE := Lib.hid (show parseE l = 3 ∧ parseO l = [] by unfold parseE parseO; rw [if_pos hlim, if_pos hlim]; exact ⟨rfl, rfl⟩)
    clear hlim hcell
    go_enter Tryz.func12, Tryz.ntmps12
    go_wp2_with fail
    go_ret2
    exact ⟨_, by rw [HE.out.1]; rfl, by rw [HE.out.2]; exact OR.nil_ _ _ _, Below.refl _ _⟩
  have hd0 : decide ((524288 : Int) < (l.length : Int)) = false := decide_eq_false (by omega)
  have hd0n : decide (524288 < l.length) = false := decide_eq_false hlim
  have hL : l.length ≤ 524288 := by omega
  obtain ⟨i0, hi, hj0, hj1, hj2⟩ := info_parts info_msg
  have HC := Lib.hid hcell
  clear hlim hcell
  go_enter Tryz.func12, Tryz.ntmps12
  go_wp2_with fail
  go_loopw [4, 5, 6] (fun v f i wr => ∃ (k fn : Nat) (o : List Ms), fn ≤ k ∧ k ≤ l.length ∧ f = .int .i64 (fn : Int) ∧ i = .int .i64 (k : Int) ∧ OM w.heap.size v o wr ∧ SmP o ∧ Below w.heap.size w wr ∧ Hid (readF (l.drop k) ((l.drop fn).take (k - fn)) o = readF l [] [])) (fun _ _ i _ => l.length - (intOf i).toNat)
  case atStart => exact ⟨0, 0, [], by omega, by omega, rfl, rfl, OR.nil_ _ _ _, ⟨by simp, by simp⟩, Below.refl _ _, by show readF _ _ _ = _; rfl⟩
  case round =>
    obtain ⟨k, fn, o, hfk, hk, rfl, rfl, hown, hsm, hbel, HR⟩ := hrel
    obtain ⟨Ao, co, rfl, hco, -⟩ := OR.cells encM_E hown
    have HR' := Lib.hid HR.out
    by_cases hgo : k < l.length ∧ o.length ≤ 300
    · obtain ⟨hlt, ho⟩ := hgo
      have hd : decide ((k : Int) < (l.length : Int)) = true := decide_eq_true (by omega)
      have hdn : decide (k < l.length) = true := decide_eq_true hlt
      have hd3 : decide ((o.length : Int) ≤ 300) = true := decide_eq_true (by omega)
      have hd3n : decide (o.length ≤ 300) = true := decide_eq_true ho
      obtain ⟨ad, rfl, hadb, hcs⟩ := HC.out.resolve_left (by omega)
      have hcl0 : wr.cell? (ad.add k) = w.cell? (ad.add k) := World.cell?_of_block (by rw [Reads_block]; exact hbel.block ad.block hadb)
      have hcl := hcl0.trans (hcs k hlt)
      clear hcl0
      have HST := Lib.hid (show readF (l.drop k) ((l.drop fn).take (k - fn)) o = if 300 < o.length then some o else if l[k] = 10 then (match lineR ((l.drop fn).take (k - fn)) with | none => none | some m => readF (l.drop (k + 1)) [] (o ++ [m])) else readF (l.drop (k + 1)) ((l.drop fn).take (k + 1 - fn)) o by
        rw [← take_snoc hfk hlt]
        conv => lhs; rw [List.drop_eq_getElem_cons hlt]
        rw [readF]; rfl)
      obtain ⟨u, hu⟩ : ∃ u, l[k] = u := ⟨_, rfl⟩
      rw [hu] at hcl HST
      obtain ⟨cc, hcc⟩ : ∃ cc : Int, (u.toNat : Int) = cc := ⟨_, rfl⟩
      rw [hcc] at hcl
      have HCC := Lib.hid hcc
      clear hu hcc
      by_cases h10 : cc = 10
      · have hne : (cc != 10) = false := by simp [h10]
        have hu10 : Hid (u = 10) := UInt8.toNat_inj.1 (by have := HCC.out; rw [h10] at this; rw [show (10 : UInt8).toNat = 10 from rfl]; omega)
        clear h10
        have hw0 : (fn : Int) ≤ (k : Int) := by omega
        obtain ⟨X, hX⟩ : ∃ X, (l.drop fn).take (k - fn) = X := ⟨_, rfl⟩
        have hXl : X.length = k - fn := by rw [← hX]; simp; omega
        have hcs2 : ∀ j (h : j < X.length), wr.cell? ((ad.add fn).add j) = some (.int .u8 X[j].toNat) := by
          intro j hj
          have e : (ad.add fn).add j = ad.add (fn + j) := by
            unfold Addr.add
            by_cases h1 : fn = 0 <;> by_cases h2 : j = 0 <;> simp [h1, h2, Nat.add_assoc]
          rw [e]
          have h1 : wr.cell? (ad.add (fn + j)) = w.cell? (ad.add (fn + j)) := World.cell?_of_block (by rw [Reads_block]; exact hbel.block ad.block hadb)
          rw [h1, hcs (fn + j) (by omega)]
          subst hX
          simp [List.getElem_take, List.getElem_drop]
        have hcv : ∀ cc', (convert 23 9 (.slice (some (ad.add fn)) (k - fn) cc')).run Tryz.prog wr = .ok (.string (bs X)) wr := fun cc' => by
          rw [← hXl]
          exact run_convert_bytes_back wr 23 9 5 (ad.add fn) cc' X Tryz.underlying23 Tryz.underlying5 Tryz.underlying9 hcs2
        rw [hX] at HST HR'
        have HLN := Lib.hid (line_ref X wr (by omega))
        have hXb : X.length ≤ 600000 := by omega
        clear hcs hcs2 hX HR
        go_upto_region 9 with fail
        go_wp2_with fail
        refine HLN.out.mono ?_
        rintro e w1 ⟨⟨m, bb, rfl, hbb⟩, hb1⟩
        obtain ⟨mk, mi, mw, mt, mx⟩ := m
        unfold encM
        dsimp only
        have HB := Lib.hid hbb
        have hown1 := OR.later hown hb1
        have hbel1 := hbel.trans (hb1.mono hbel.size)
        clear hbb hcv HLN
        cases bb with
        | false =>
          have HN := Lib.hid (show parseE l = 10 ∧ parseO l = [] by
            have h1 : lineR X = none := by
              rcases HB.out with ⟨h, -⟩ | ⟨-, h⟩
              · cases h
              · exact h
            have h2 : parseM l = none := parse_bad (by rw [← HR'.out, HST.out, if_neg (by omega), if_pos hu10.out, h1])
            unfold parseE parseO; rw [if_neg (by omega), if_neg (by omega), h2]; exact ⟨rfl, rfl⟩)
          go_wp2_with fail
          go_ret2
          exact ⟨_, by rw [HN.out.1]; rfl, by rw [HN.out.2]; exact OR.nil_ _ _ _, (hbel1.alloc hbel1.size _)⟩
        | true =>
          have HN := Lib.hid (show lineR X = some ⟨mk, mi, mw, mt, mx⟩ by
            rcases HB.out with ⟨-, h⟩ | ⟨h, -⟩
            · exact h
            · cases h)
          obtain ⟨hbd1, hbd2⟩ := lineR_bd HN.out
          dsimp only at hbd1 hbd2
          have HS := Lib.hid (show SmP (o ++ [⟨mk, mi, mw, mt, mx⟩]) from hsm.snoc ho (by dsimp only; omega) (by dsimp only; omega))
          have HE := Lib.hid (show readF (l.drop (k + 1)) ((l.drop (k + 1)).take ((k + 1) - (k + 1))) (o ++ [⟨mk, mi, mw, mt, mx⟩]) = readF l [] [] by
            rw [← HR'.out, HST.out, if_neg (by omega), if_pos hu10.out, HN.out]; simp)
          have hownA := OR.later hown1 ((Below.refl _ _).alloc (Nat.le_refl _) (.cells #[.int .i64 mk, .int .i64 mi, .string (bs mw), .int .i64 mt, .string (bs mx)] 43))
          have hbelA := hbel1.alloc hbel1.size (.cells #[.int .i64 mk, .int .i64 mi, .string (bs mw), .int .i64 mt, .string (bs mx)] 43)
          have hwk : IntKind.i64.wrap ((k : Int) + 1) = (k : Int) + 1 := IntWalk.i64_in _ (by omega)
          have hsA := hbelA.size
          clear hown hown1 hbel hbel1 hb1 HB HST HR' hbd1 hbd2
          go_upto_region 12 with fail
          obtain ⟨W2, hW2⟩ : ∃ W2 : World, W2 = w1.alloc (.cells #[.int .i64 mk, .int .i64 mi, .string (bs mw), .int .i64 mt, .string (bs mx)] 43) := ⟨_, rfl⟩
          have hrow2 : W2.heap[w1.heap.size]? = some (.cells (encM ⟨mk, mi, mw, mt, mx⟩).toArray 43 (0, 0)) := by rw [hW2]; exact heap_alloc_new w1 _
          obtain ⟨k0, k1, k2, k3, k4⟩ := msg_row2 hrow2
          rw [← hW2] at hownA hbelA hsA ⊢
          clear hW2 hrow2
          go_wp2_with (at_builtin; refine app_one encM_E Tryz.underlying30 hi hj0 hj1 hj2 rfl (by decide) _ _ _ _ o ⟨mk, mi, mw, mt, mx⟩ _ w.heap.size rfl rfl rfl rfl rfl hownA (by omega) hsA ?_; intro v13 w13 hown13 hb13)
          go_roundw
          case rel => exact ⟨k + 1, k + 1, _, by omega, by omega, by go_num, by go_num, hown13, HS.out, hbelA.trans hb13, HE⟩
          case measure => simp [intOf]; omega
      · have hne : (cc != 10) = true := by simpa using h10
        have HE := Lib.hid (show readF (l.drop (k + 1)) ((l.drop fn).take ((k + 1) - fn)) o = readF l [] [] by
          rw [← HR'.out, HST.out, if_neg (by omega), if_neg (fun e => h10 (by rw [← HCC.out, e]; rfl))])
        have hwk : IntKind.i64.wrap ((k : Int) + 1) = (k : Int) + 1 := IntWalk.i64_in _ (by omega)
        clear HST HR HR' hcs
        go_wp2_with fail
        go_roundw
        case rel => exact ⟨k + 1, fn, o, by omega, by omega, by go_num, by go_num, hown, hsm, hbel, HE⟩
        case measure => simp [intOf]; omega
    · have HN := Lib.hid (show readF l [] [] = some o by
        rw [← HR'.out]
        by_cases hlt : k < l.length
        · rw [List.drop_eq_getElem_cons hlt, readF, if_pos (by omega)]
        · rw [List.drop_eq_nil_of_le (by omega), readF])
      have HF := Lib.hid (format_ref _ o wr (MC.of_own hown) hsm.small)
      have hq : ∀ w', BIn w'.heap.size w' (.slice A l.length c) l → (convert 23 9 (.slice A l.length c)).run Tryz.prog w' = .ok (.string (bs l)) w' := fun w' h => h.conv Tryz.underlying23 Tryz.underlying5 Tryz.underlying9
      have HQ := Lib.hid hq
      have HX := Lib.hid (And.intro hown (And.intro hbel hsm))
      have hbs := hbel.size
      by_cases hlt : k < l.length
      · have hd : decide ((k : Int) < (l.length : Int)) = true := decide_eq_true (by omega)
        have hdn : decide (k < l.length) = true := decide_eq_true hlt
        have hd3 : decide ((o.length : Int) ≤ 300) = false := decide_eq_false (by omega)
        have hd3n : decide (o.length ≤ 300) = false := decide_eq_false (by omega)
        clear hq hown hbel hsm HR HR'
        by_cases he : errM o = 0
        · unfold FmPost at HF
          rw [he] at HF
          have HO := Lib.hid (show fmtO o = fmtM o by unfold fmtO; rw [if_pos he])
          have HE0 := Lib.hid he
          clear he
          go_wp2_with fail
          refine HF.out.mono ?_
          rintro e w1 ⟨u1, rfl, hu1, hb1⟩
          rw [HO.out] at hu1
          obtain ⟨A1, n1, c1', rfl⟩ := hu1.form_
          have hc1 := hu1.conv (P := Tryz.prog) (T := 23) (d := 9) Tryz.underlying23 Tryz.underlying5 Tryz.underlying9
          have hc2 := HQ.out w1 (HBIN.out.later (HX.out.2.1.trans (hb1.mono hbs)))
          have HB1 := Lib.hid hb1
          clear hu1 hb1
          by_cases hfl : fmtM o = l
          · have HP := Lib.hid (show parseE l = 0 ∧ parseO l = o by
              unfold parseE parseO; rw [if_neg (by omega), if_neg (by omega), parse_good HE0.out hfl]; exact ⟨rfl, rfl⟩)
            have hte : ((bs (fmtM o)).toList == (bs l).toList) = true := by rw [hfl]; simp
            have hte2 : (bs (fmtM o)).toList = (bs l).toList := by rw [hfl]
            clear hfl
            obtain ⟨S1, hS1⟩ : ∃ S, S = bs (fmtM o) := ⟨_, rfl⟩
            obtain ⟨S2, hS2⟩ : ∃ S, S = bs l := ⟨_, rfl⟩
            rw [← hS1] at hte hte2 hc1
            rw [← hS2] at hte hte2 hc2
            clear hS1 hS2
            go_wp2_with fail
            go_ret2
            exact ⟨_, by rw [HP.out.1]; rfl, by rw [HP.out.2]; exact OM.later' HX.out.1 HB1.out, HX.out.2.1.trans (HB1.out.mono hbs)⟩
          · have HP := Lib.hid (show parseE l = 10 ∧ parseO l = [] by
              unfold parseE parseO; rw [if_neg (by omega), if_neg (by omega), parse_odd HN.out (fun h => hfl h.2)]; exact ⟨rfl, rfl⟩)
            have hte : ((bs (fmtM o)).toList == (bs l).toList) = false := by rw [toList_bs', toList_bs']; simpa using hfl
            clear hfl
            obtain ⟨S1, hS1⟩ : ∃ S, S = bs (fmtM o) := ⟨_, rfl⟩
            obtain ⟨S2, hS2⟩ : ∃ S, S = bs l := ⟨_, rfl⟩
            rw [← hS1] at hte hc1
            rw [← hS2] at hte hc2
            clear hS1 hS2
            go_wp2_with fail
            go_ret2
            exact ⟨_, by rw [HP.out.1]; rfl, by rw [HP.out.2]; exact OR.nil_ _ _ _, HX.out.2.1.trans (HB1.out.mono hbs)⟩
        · have HP := Lib.hid (show parseE l = 10 ∧ parseO l = [] by
            unfold parseE parseO; rw [if_neg (by omega), if_neg (by omega), parse_odd HN.out (fun h => he h.1)]; exact ⟨rfl, rfl⟩)
          have hne : (errM o != 0) = true := by simpa using he
          obtain ⟨E, hE⟩ : ∃ E, errM o = E := ⟨_, rfl⟩
          clear he
          unfold FmPost at HF
          rw [hE] at hne HF
          clear hE
          go_wp2_with fail
          refine HF.out.mono ?_
          rintro e w1 ⟨u1, rfl, hu1, hb1⟩
          clear hu1
          have HB1 := Lib.hid hb1
          clear hb1
          go_wp2_with fail
          go_ret2
          exact ⟨_, by rw [HP.out.1]; rfl, by rw [HP.out.2]; exact OR.nil_ _ _ _, HX.out.2.1.trans (HB1.out.mono hbs)⟩
      · have hd : decide ((k : Int) < (l.length : Int)) = false := decide_eq_false (by omega)
        have hdn : decide (k < l.length) = false := decide_eq_false hlt
        clear hq hown hbel hsm HR HR'
        by_cases he : errM o = 0
        · unfold FmPost at HF
          rw [he] at HF
          have HO := Lib.hid (show fmtO o = fmtM o by unfold fmtO; rw [if_pos he])
          have HE0 := Lib.hid he
          clear he
          go_wp2_with fail
          refine HF.out.mono ?_
          rintro e w1 ⟨u1, rfl, hu1, hb1⟩
          rw [HO.out] at hu1
          obtain ⟨A1, n1, c1', rfl⟩ := hu1.form_
          have hc1 := hu1.conv (P := Tryz.prog) (T := 23) (d := 9) Tryz.underlying23 Tryz.underlying5 Tryz.underlying9
          have hc2 := HQ.out w1 (HBIN.out.later (HX.out.2.1.trans (hb1.mono hbs)))
          have HB1 := Lib.hid hb1
          clear hu1 hb1
          by_cases hfl : fmtM o = l
          · have HP := Lib.hid (show parseE l = 0 ∧ parseO l = o by
              unfold parseE parseO; rw [if_neg (by omega), if_neg (by omega), parse_good HE0.out hfl]; exact ⟨rfl, rfl⟩)
            have hte : ((bs (fmtM o)).toList == (bs l).toList) = true := by rw [hfl]; simp
            have hte2 : (bs (fmtM o)).toList = (bs l).toList := by rw [hfl]
            clear hfl
            obtain ⟨S1, hS1⟩ : ∃ S, S = bs (fmtM o) := ⟨_, rfl⟩
            obtain ⟨S2, hS2⟩ : ∃ S, S = bs l := ⟨_, rfl⟩
            rw [← hS1] at hte hte2 hc1
            rw [← hS2] at hte hte2 hc2
            clear hS1 hS2
            go_wp2_with fail
            go_ret2
            exact ⟨_, by rw [HP.out.1]; rfl, by rw [HP.out.2]; exact OM.later' HX.out.1 HB1.out, HX.out.2.1.trans (HB1.out.mono hbs)⟩
          · have HP := Lib.hid (show parseE l = 10 ∧ parseO l = [] by
              unfold parseE parseO; rw [if_neg (by omega), if_neg (by omega), parse_odd HN.out (fun h => hfl h.2)]; exact ⟨rfl, rfl⟩)
            have hte : ((bs (fmtM o)).toList == (bs l).toList) = false := by rw [toList_bs', toList_bs']; simpa using hfl
            clear hfl
            obtain ⟨S1, hS1⟩ : ∃ S, S = bs (fmtM o) := ⟨_, rfl⟩
            obtain ⟨S2, hS2⟩ : ∃ S, S = bs l := ⟨_, rfl⟩
            rw [← hS1] at hte hc1
            rw [← hS2] at hte hc2
            clear hS1 hS2
            go_wp2_with fail
            go_ret2
            exact ⟨_, by rw [HP.out.1]; rfl, by rw [HP.out.2]; exact OR.nil_ _ _ _, HX.out.2.1.trans (HB1.out.mono hbs)⟩
        · have HP := Lib.hid (show parseE l = 10 ∧ parseO l = [] by
            unfold parseE parseO; rw [if_neg (by omega), if_neg (by omega), parse_odd HN.out (fun h => he h.1)]; exact ⟨rfl, rfl⟩)
          have hne : (errM o != 0) = true := by simpa using he
          obtain ⟨E, hE⟩ : ∃ E, errM o = E := ⟨_, rfl⟩
          clear he
          unfold FmPost at HF
          rw [hE] at hne HF
          clear hE
          go_wp2_with fail
          refine HF.out.mono ?_
          rintro e w1 ⟨u1, rfl, hu1, hb1⟩
          clear hu1
          have HB1 := Lib.hid hb1
          clear hb1
          go_wp2_with fail
          go_ret2
          exact ⟨_, by rw [HP.out.1]; rfl, by rw [HP.out.2]; exact OR.nil_ _ _ _, HX.out.2.1.trans (HB1.out.mono hbs)⟩
end Go.Proofs.YtklnakjmiljmhaaGreatDoor
