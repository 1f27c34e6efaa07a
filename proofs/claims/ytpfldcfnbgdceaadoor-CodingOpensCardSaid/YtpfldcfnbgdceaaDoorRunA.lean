/- Runs of a text, plain functions; the walks of the three kinds of bytes and of 'parts'. -/
import Derived.Test.YtpfldcfnbgdceaaDoorCodS
import Derived.Test.YtpfldcfnbgdceaaDoorCodF
namespace Go.Proofs.YtpfldcfnbgdceaaDoor
set_option linter.unusedVariables false
set_option linter.unusedSimpArgs false
set_option maxRecDepth 100000
open Go.RowKit
/-- A run: its coding, its start, its end. -/
abbrev Rn := Nat × Nat × Nat
def sub (l : List UInt8) (f t : Nat) : List UInt8 := (l.drop f).take (t - f)
def keepR (c : Nat) (x : List UInt8) : Bool := match decd c x with
  | none => false
  | some y => c == 1 || (c == 2 || !(y == x))
def addR (l : List UInt8) (c f t : Nat) : List Rn := if t < f + 8 then [] else if keepR c (sub l f t) = true then [(c, f, t)] else []
/-- The greatest parts of bytes of a kind: i is the place, f the start of the part at hand. -/
def scanP (p : Int → Bool) : List UInt8 → Nat → Nat → List (Nat × Nat)
  | [], i, f => if f < i then [(f, i)] else []
  | c :: r, i, f => if p c.toNat = true then scanP p r (i + 1) f else if f < i then (f, i) :: scanP p r (i + 1) (i + 1) else scanP p r (i + 1) (i + 1)
def hexP (c : Int) : Bool := decide (0 ≤ hexv c)
def sgnP (c : Int) : Bool := decide (0 ≤ sgnV c)
def visP (c : Int) : Bool := decide (33 ≤ c) && decide (c ≤ 126)
def cut1 (f t : Nat) : Nat := t - (t - f) % 2
def cut2 (l : List UInt8) (f t : Nat) : Nat := if (t - f) % 4 = 2 ∧ (l.drop t).take 2 = [61, 61] then t + 2 else if (t - f) % 4 = 3 ∧ (l.drop t).take 1 = [61] then t + 1 else t - (t - f) % 4
def foldP {σ : Type} (g : σ → Nat → Nat → σ) : List (Nat × Nat) → σ → σ
  | [], s => s
  | (f, t) :: r, s => foldP g r (g s f t)
theorem hexP_any (c : Int) (w : World) (h0 : 0 ≤ c) (h1 : c < 256) : Calls Tryd.prog 37 #[.int .u8 c] w fun e w' => e = .returned (.bool (hexP c)) ∧ w = w' := by
  obtain ⟨x, hx⟩ : ∃ x, hexv c = x := ⟨_, rfl⟩
  have A := fun w => chex_any c w h0 h1
  rw [hx] at A
  have HX := Lib.hid hx; clear hx
  go_enter Tryd.func37, Tryd.ntmps37
  go_wp2_with (go_at_call 38; refine (A _).mono ?_; rintro e w1 ⟨rfl, rfl⟩)
  go_ret
  exact ⟨ret_bool (by unfold hexP; rw [HX.out]), rfl⟩
theorem sgnP_any (c : Int) (w : World) (h0 : 0 ≤ c) (h1 : c < 256) : Calls Tryd.prog 40 #[.int .u8 c] w fun e w' => e = .returned (.bool (sgnP c)) ∧ w = w' := by
  obtain ⟨x, hx⟩ : ∃ x, sgnV c = x := ⟨_, rfl⟩
  have hcu : Hid (c = (UInt8.ofNat c.toNat).toNat) := by show _ = _; rw [UInt8.toNat_ofNat']; omega
  have IX := fun w => indexB signs c x ((idx_signs c _ hcu).trans hx) w
  unfold signs at IX
  have HX := Lib.hid hx; clear hx
  go_enter Tryd.func40, Tryd.ntmps40
  go_wp2_with (go_at_call 41; refine (IX _).mono ?_; rintro e w1 ⟨rfl, rfl⟩)
  go_ret
  exact ⟨ret_bool (by unfold sgnP; rw [HX.out]), rfl⟩
theorem visP_any (c : Int) (w : World) (h0 : 0 ≤ c) (h1 : c < 256) : Calls Tryd.prog 44 #[.int .u8 c] w fun e w' => e = .returned (.bool (visP c)) ∧ w = w' := by
  by_cases h : 33 ≤ c
  · have hd : decide (33 ≤ c) = true := decide_eq_true h
    go_enter Tryd.func44, Tryd.ntmps44
    go_wp2
    go_ret
    exact ⟨ret_bool (by unfold visP; rw [hd]; rfl), rfl⟩
  · have hd : decide (33 ≤ c) = false := decide_eq_false h
    go_enter Tryd.func44, Tryd.ntmps44
    go_wp2
    go_ret
    exact ⟨ret_bool (by unfold visP; rw [hd]; rfl), rfl⟩
theorem scanP_yes {p : Int → Bool} {l : List UInt8} {k f : Nat} (hk : k < l.length) (h : p l[k].toNat = true) : scanP p (l.drop k) k f = scanP p (l.drop (k + 1)) (k + 1) f := by
  rw [List.drop_eq_getElem_cons hk, scanP, if_pos h]
theorem scanP_no {p : Int → Bool} {l : List UInt8} {k f : Nat} (hk : k < l.length) (h : p l[k].toNat = false) : scanP p (l.drop k) k f = if f < k then (f, k) :: scanP p (l.drop (k + 1)) (k + 1) (k + 1) else scanP p (l.drop (k + 1)) (k + 1) (k + 1) := by
  rw [List.drop_eq_getElem_cons hk, scanP, if_neg (by rw [h]; decide)]
set_option maxRecDepth 100000 in
set_option maxHeartbeats 4000000 in
theorem parts_any {σ : Type} (p : Int → Bool) (gi gf : Nat) (lf : Array Value) (R : Nat → σ → World → Prop) (hmo : ∀ f f' s w, f ≤ f' → R f s w → R f' s w) (g : σ → Nat → Nat → σ) (A : Option Addr) (l : List UInt8) (cc : Nat) (hl : l.length ≤ 65536)
    (ei : ∀ args w, (callFunc gi args).run Tryd.prog w = .ok (.enter gi args) w) (ef : ∀ args w, (callFunc gf args).run Tryd.prog w = .ok (.enter gf args) w)
    (hi : ∀ (c : Int) (w : World), 0 ≤ c → c < 256 → Calls Tryd.prog gi #[.int .u8 c] w fun e w' => e = .returned (.bool (p c)) ∧ w = w')
    (hf : ∀ (f t : Nat) (s : σ) (w : World), f < t → t ≤ l.length → R f s w → Calls Tryd.prog gf (#[.int .i64 (f : Int), .int .i64 (t : Int)] ++ lf) w fun e w' => e = .returned (.tuple #[]) ∧ R (t + 1) (g s f t) w')
    (hA : l.length = 0 ∨ ∃ ad, A = some ad ∧ ∀ f s w, R f s w → ∀ j (h : j < l.length), w.cell? (ad.add j) = some (.int .u8 l[j].toNat))
    (s : σ) (w : World) (h : R 0 s w) :
    Calls Tryd.prog 36 #[.slice A l.length cc, .func (.func gi) #[] #[], .func (.func gf) #[] lf] w fun e w' => e = .returned (.tuple #[]) ∧ R (l.length + 2) (foldP g (scanP p l 0 0) s) w' := by
  go_enter Tryd.func36, Tryd.ntmps36
  go_wp2
  go_loopw [6, 7] (fun fv i wr => ∃ (k f : Nat) (st : σ), k ≤ l.length + 1 ∧ f ≤ k ∧ i = .int .i64 (k : Int) ∧ fv = .int .i64 (f : Int) ∧ R f st wr ∧ (k ≤ l.length → foldP g (scanP p (l.drop k) k f) st = foldP g (scanP p l 0 0) s) ∧ (k = l.length + 1 → st = foldP g (scanP p l 0 0) s)) (fun _ i _ => (l.length + 1 - (intOf i)).toNat)
  case atStart => exact ⟨0, 0, s, by omega, by omega, rfl, rfl, h, fun _ => rfl, fun h => by omega⟩
  case round =>
    obtain ⟨k, f, st, hk, hfk, rfl, rfl, hR, hrel1, hrel2⟩ := hrel
    by_cases hlt : k < l.length
    · have hd : decide ((k : Int) ≤ l.length) = true := decide_eq_true (by omega)
      have hd2 : decide ((k : Int) < l.length) = true := decide_eq_true (by omega)
      obtain ⟨ad, rfl, hc⟩ := hA.resolve_left (by omega)
      have hcl := hc f st wr hR k hlt
      clear hc hA
      have H1 := hrel1 (by omega)
      have hy := fun h => (congrArg (fun x => foldP g x st) (scanP_yes (p := p) (f := f) hlt h)).symm.trans H1
      have hn := fun h => (congrArg (fun x => foldP g x st) (scanP_no (p := p) (f := f) hlt h)).symm.trans H1
      clear hrel1 hrel2 H1
      generalize l[k] = u at hcl hy hn
      obtain ⟨c', hc', hc0, hc1⟩ := (⟨_, rfl, by omega, byte_lt _⟩ : ∃ c : Int, (u.toNat : Int) = c ∧ 0 ≤ c ∧ c < 256)
      rw [hc'] at hcl hy hn
      clear hc'
      have I := fun w => hi c' w hc0 hc1
      have hdn : decide (k ≤ l.length) = true := decide_eq_true (by omega)
      cases hp : p c' with
      | true =>
        have HY := Lib.hid (hy hp)
        rw [hp] at I
        clear hy hn hp
        go_wp2_with fail
        refine (I _).mono ?_
        rintro e w1 ⟨rfl, rfl⟩
        go_wp2
        go_roundw
        case rel => exact ⟨k + 1, f, st, by omega, by omega, by go_num, rfl, hR, fun _ => HY.out, fun h => by omega⟩
        case measure => simp [intOf]; omega
      | false =>
        have hn := hn hp
        rw [hp] at I
        clear hy hp
        by_cases hf1 : f < k
        · rw [if_pos hf1] at hn
          have HN := Lib.hid hn; clear hn
          have hdf : decide (f < k) = true := decide_eq_true hf1
          have C := hf f k st wr hf1 (by omega) hR
          go_wp2_with fail
          refine (I _).mono ?_
          rintro e w1 ⟨rfl, rfl⟩
          go_wp2_with fail
          refine C.mono ?_
          rintro e w2 ⟨rfl, hR2⟩
          go_wp2
          go_roundw
          case rel => exact ⟨k + 1, k + 1, g st f k, by omega, by omega, by go_num, by go_num, hR2, fun _ => HN.out, fun h => by omega⟩
          case measure => simp [intOf]; omega
        · rw [if_neg hf1] at hn
          have HN := Lib.hid hn; clear hn
          have hdf : decide (f < k) = false := decide_eq_false hf1
          go_wp2_with fail
          refine (I _).mono ?_
          rintro e w1 ⟨rfl, rfl⟩
          go_wp2
          go_roundw
          case rel => exact ⟨k + 1, k + 1, st, by omega, by omega, by go_num, by go_num, hmo _ _ _ _ (by omega) hR, fun _ => HN.out, fun h => by omega⟩
          case measure => simp [intOf]; omega
    · have hdl : decide (k < l.length) = false := decide_eq_false hlt
      by_cases hke : k = l.length
      · have H1 := hrel1 (by omega)
        rw [hke, List.drop_eq_nil_of_le (Nat.le_refl _), scanP] at H1
        have hdn : decide (k ≤ l.length) = true := decide_eq_true (by omega)
        have hdi : decide ((k : Int) ≤ l.length) = true := decide_eq_true (by omega)
        have hdj : decide ((k : Int) < l.length) = false := decide_eq_false (by omega)
        clear hrel1 hrel2
        by_cases hf1 : f < k
        · rw [if_pos (by omega), ← hke] at H1
          have HN := Lib.hid H1; clear H1
          have HK := Lib.hid hke; clear hke
          have hdf : decide (f < k) = true := decide_eq_true hf1
          have C := hf f k st wr hf1 (by have := HK.out; omega) hR
          go_wp2_with fail
          refine C.mono ?_
          rintro e w2 ⟨rfl, hR2⟩
          go_wp2
          go_roundw
          case rel => exact ⟨k + 1, k + 1, g st f k, by have := HK.out; omega, by omega, by go_num, by go_num, hR2, fun h => by have := HK.out; omega, fun _ => HN.out⟩
          case measure => simp [intOf]; have := HK.out; omega
        · rw [if_neg (by omega)] at H1
          have HN := Lib.hid H1; clear H1
          have HK := Lib.hid hke; clear hke
          have hdf : decide (f < k) = false := decide_eq_false hf1
          go_wp2
          go_roundw
          case rel => exact ⟨k + 1, k + 1, st, by have := HK.out; omega, by omega, by go_num, by go_num, hmo _ _ _ _ (by omega) hR, fun h => by have := HK.out; omega, fun _ => HN.out⟩
          case measure => simp [intOf]; have := HK.out; omega
      · have hkk : k = l.length + 1 := by omega
        have HF := Lib.hid (hrel2 hkk)
        have hdn : decide (k ≤ l.length) = false := decide_eq_false (by omega)
        have hdi : decide ((k : Int) ≤ l.length) = false := decide_eq_false (by omega)
        have HK := Lib.hid hkk
        clear hrel1 hrel2 hkk hke
        go_wp2
        go_end0
        exact ⟨rfl, HF.out ▸ hmo _ _ _ _ (by have := HK.out; omega) hR⟩
end Go.Proofs.YtpfldcfnbgdceaaDoor
