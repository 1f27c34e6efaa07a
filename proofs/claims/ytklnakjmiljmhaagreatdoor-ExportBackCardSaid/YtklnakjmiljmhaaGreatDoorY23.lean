/- The library comparison of ints. · Patterns in memory, of which a member can be made, with a bound of its bytes; the patterns of kinds. · Walks of the reference of check sums: what a text is completed by. -/
import Derived.Test.YtklnakjmiljmhaaGreatDoorY02
import Derived.Test.YtklnakjmiljmhaaGreatDoorY03
namespace Go.Proofs.YtklnakjmiljmhaaGreatDoor
set_option linter.unusedVariables false
set_option linter.unusedSimpArgs false
set_option maxRecDepth 100000
open Go.RowKit
def cmpI (a b : Int) : Int := if a < b then -1 else if b < a then 1 else 0
theorem nan_any (a : Int) (w : World) : Calls Tryz.prog 76 #[.int .i64 a] w fun e w' => e = .returned (.bool false) ∧ w = w' := by
  go_enter Tryz.func76, Tryz.ntmps76
  go_wp2
  go_ret
  exact ⟨rfl, rfl⟩
theorem cmp_any (a b : Int) (w : World) : Calls Tryz.prog 42 #[.int .i64 a, .int .i64 b] w fun e w' => e = .returned (.int .i64 (cmpI a b)) ∧ w = w' := by
  unfold cmpI
  by_cases h1 : a < b
  · rw [if_pos h1]
    go_enter Tryz.func42, Tryz.ntmps42
    go_wp2_with (go_at_call 76; refine (nan_any _ _).mono ?_; rintro e w1 ⟨rfl, rfl⟩)
    go_ret
    exact ⟨rfl, rfl⟩
  · rw [if_neg h1]
    by_cases h2 : b < a
    · rw [if_pos h2]
      go_enter Tryz.func42, Tryz.ntmps42
      go_wp2_with (go_at_call 76; refine (nan_any _ _).mono ?_; rintro e w1 ⟨rfl, rfl⟩)
      go_ret
      exact ⟨rfl, rfl⟩
    · rw [if_neg h2]
      go_enter Tryz.func42, Tryz.ntmps42
      go_wp2_with (go_at_call 76; refine (nan_any _ _).mono ?_; rintro e w1 ⟨rfl, rfl⟩)
      go_ret
      exact ⟨rfl, rfl⟩
end Go.Proofs.YtklnakjmiljmhaaGreatDoor
namespace Go.Proofs.YtklnakjmiljmhaaGreatDoor
set_option linter.unusedVariables false
set_option linter.unusedSimpArgs false
set_option maxRecDepth 100000
open Go.RowKit
/-- A row of ranges, none of them empty, beyond block b. -/
def RgV (b : Nat) (w : World) (v : Value) : Prop := ∃ g f n c, v = .slice (some ⟨g, f, none⟩) n c ∧ 1 ≤ n ∧ n ≤ 1000 ∧ b < g ∧ g < w.heap.size ∧
  ∀ j < n, ∃ lo hi : Int, w.cell? ⟨g, f + j * 2, none⟩ = some (.int .u8 lo) ∧ w.cell? ⟨g, f + j * 2 + 1, none⟩ = some (.int .u8 hi) ∧ 0 ≤ lo ∧ lo ≤ hi ∧ hi < 256
/-- A row of n patterns, each good. -/
def KdV (b : Nat) (w : World) (G : List Value → Prop) (n : Nat) (v : Value) : Prop := ∃ g f c, v = .slice (some ⟨g, f, none⟩) n c ∧ b < g ∧ g < w.heap.size ∧ n ≤ 1000 ∧
  ∀ j < n, ∃ u0 u1 u2 u3 u4, w.cell? ⟨g, f + j * 5, none⟩ = some u0 ∧ w.cell? ⟨g, f + j * 5 + 1, none⟩ = some u1 ∧ w.cell? ⟨g, f + j * 5 + 2, none⟩ = some u2 ∧ w.cell? ⟨g, f + j * 5 + 3, none⟩ = some u3 ∧ w.cell? ⟨g, f + j * 5 + 4, none⟩ = some u4 ∧ G [u0, u1, u2, u3, u4]
def Sl (v : Value) : Prop := ∃ A n c, v = .slice A n c
theorem Sl.of (A : Option Addr) (n c : Nat) : Sl (.slice A n c) := ⟨A, n, c, rfl⟩
/-- A pattern of depth d, whose members have at most m bytes. -/
def Pat (b : Nat) (w : World) : Nat → Nat → List Value → Prop
  | 0, _, _ => False
  | d + 1, m, vs => ∃ v1 v2 mn mx, (Sl v1 ∧ Sl v2) ∧ ((vs = [.int .i64 1, v1, v2, .int .i64 mn, .int .i64 mx] ∧ RgV b w v1 ∧ 1 ≤ m) ∨
      (vs = [.int .i64 2, v1, v2, .int .i64 mn, .int .i64 mx] ∧ ∃ n m', KdV b w (Pat b w d m') n v2 ∧ n * m' ≤ m) ∨
      (vs = [.int .i64 3, v1, v2, .int .i64 mn, .int .i64 mx] ∧ ∃ n, KdV b w (Pat b w d m) n v2 ∧ 1 ≤ n) ∨
      (vs = [.int .i64 4, v1, v2, .int .i64 mn, .int .i64 mx] ∧ ∃ n m', KdV b w (Pat b w d m') n v2 ∧ 1 ≤ n ∧ 0 ≤ mn ∧ mn ≤ mx ∧ (1 ≤ mx ∧ mx ≤ 1000) ∧ mx.toNat * m' ≤ m))
/-- What lies beyond block b stays. -/
def Stay (b : Nat) (w w' : World) : Prop := w.heap.size ≤ w'.heap.size ∧ ∀ k, b < k → k < w.heap.size → w'.heap[k]? = w.heap[k]?
theorem Stay.refl (b : Nat) (w : World) : Stay b w w := ⟨Nat.le_refl _, fun _ _ _ => rfl⟩
theorem Stay.of_fr {b : Nat} {w w' : World} (h : Fr b w w') : Stay b w w' := ⟨h.size, fun k hk hlt => h.block k hlt (by intro e; injection e; omega)⟩
theorem Stay.of_below {b : Nat} {w w' : World} (h : Below w.heap.size w w') : Stay b w w' := ⟨h.size, fun k _ hlt => h.block k hlt⟩
theorem Stay.cell {b : Nat} {w w' : World} (h : Stay b w w') {g j : Nat} (hg : b < g) (hlt : g < w.heap.size) : w'.cell? ⟨g, j, none⟩ = w.cell? ⟨g, j, none⟩ := World.cell?_of_block (a := ⟨g, j, none⟩) (h.2 g hg hlt)
theorem RgV.later {b : Nat} {w w' : World} {v : Value} (h : RgV b w v) (hs : Stay b w w') : RgV b w' v := by
  obtain ⟨g, f, n, c, rfl, h1, h2, h3, h4, h5⟩ := h
  refine ⟨g, f, n, c, rfl, h1, h2, h3, Nat.lt_of_lt_of_le h4 hs.1, fun j hj => ?_⟩
  obtain ⟨lo, hi, q1, q2, r⟩ := h5 j hj
  exact ⟨lo, hi, (hs.cell h3 h4).trans q1, (hs.cell h3 h4).trans q2, r⟩
theorem KdV.later {b : Nat} {w w' : World} {G G' : List Value → Prop} {n : Nat} {v : Value} (h : KdV b w G n v) (hs : Stay b w w') (hG : ∀ us, G us → G' us) : KdV b w' G' n v := by
  obtain ⟨g, f, c, rfl, h3, h4, h2, h5⟩ := h
  refine ⟨g, f, c, rfl, h3, Nat.lt_of_lt_of_le h4 hs.1, h2, fun j hj => ?_⟩
  obtain ⟨u0, u1, u2, u3, u4, q0, q1, q2, q3, q4, hg⟩ := h5 j hj
  exact ⟨u0, u1, u2, u3, u4, (hs.cell h3 h4).trans q0, (hs.cell h3 h4).trans q1, (hs.cell h3 h4).trans q2, (hs.cell h3 h4).trans q3, (hs.cell h3 h4).trans q4, hG _ hg⟩
theorem Pat.later {b : Nat} {w w' : World} (hs : Stay b w w') : ∀ {d m : Nat} {vs : List Value}, Pat b w d m vs → Pat b w' d m vs
  | 0, _, _, h => h
  | d + 1, m, vs, ⟨v1, v2, mn, mx, hsl, h⟩ => by
    refine ⟨v1, v2, mn, mx, hsl, ?_⟩
    rcases h with ⟨h1, h2, h3⟩ | ⟨h1, n, m', h2, h3⟩ | ⟨h1, n, h2, h3⟩ | ⟨h1, n, m', h2, h3⟩
    · exact .inl ⟨h1, h2.later hs, h3⟩
    · exact .inr (.inl ⟨h1, n, m', h2.later hs (fun us => Pat.later hs), h3⟩)
    · exact .inr (.inr (.inl ⟨h1, n, h2.later hs (fun us => Pat.later hs), h3⟩))
    · exact .inr (.inr (.inr ⟨h1, n, m', h2.later hs (fun us => Pat.later hs), h3⟩))
/-- A pattern that a call hands back. -/
def NodePost (b d m : Nat) (w : World) (e : Ending) (w' : World) : Prop := ∃ A B n n' c c' o mn mx, e = .returned (.agg #[.int .i64 o, .slice A n c, .slice B n' c', .int .i64 mn, .int .i64 mx]) ∧ Pat b w' d m [.int .i64 o, .slice A n c, .slice B n' c', .int .i64 mn, .int .i64 mx] ∧ Below w.heap.size w w'
theorem Pat.mono {b : Nat} {w : World} : ∀ {d d' m m' : Nat} {vs : List Value}, d ≤ d' → m ≤ m' → Pat b w d m vs → Pat b w d' m' vs
  | 0, _, _, _, _, _, _, h => h.elim
  | d + 1, 0, _, _, _, hd, _, _ => by omega
  | d + 1, d' + 1, m, m', vs, hd, hm, ⟨v1, v2, mn, mx, hsl, h⟩ => by
    refine ⟨v1, v2, mn, mx, hsl, ?_⟩
    rcases h with ⟨h1, h2, h3⟩ | ⟨h1, n, k, h2, h3⟩ | ⟨h1, n, h2, h3⟩ | ⟨h1, n, k, h2, h3, h4, h5, h6, h7⟩
    · exact .inl ⟨h1, h2, by omega⟩
    · exact .inr (.inl ⟨h1, n, k, h2.later (Stay.refl _ _) (fun us => Pat.mono (by omega) (Nat.le_refl _)), by omega⟩)
    · exact .inr (.inr (.inl ⟨h1, n, h2.later (Stay.refl _ _) (fun us => Pat.mono (by omega) hm), h3⟩))
    · exact .inr (.inr (.inr ⟨h1, n, k, h2.later (Stay.refl _ _) (fun us => Pat.mono (by omega) (Nat.le_refl _)), h3, h4, h5, h6, by omega⟩))
theorem byte_node (b : Nat) (c : Int) (h0 : 0 ≤ c) (h1 : c < 256) (w : World) (hb : b < w.heap.size) : Calls Tryz.prog 57 #[.int .u8 c] w (NodePost b 2 6 w) := by
  go_enter Tryz.func57, Tryz.ntmps57
  go_wp2_with fail
  refine bodyPost_ret (v := .agg #[.int .i64 1, .slice (some ⟨w.heap.size + 1, 0, none⟩) 1 1, .slice none 0 0, .int .i64 0, .int .i64 0]) (by simp [results, Tryz.results57, go_sem]; try rfl) rfl ?_
  refine ⟨_, _, _, _, _, _, _, _, _, rfl, ?_, ((Below.refl _ w).alloc (Nat.le_refl _) _).alloc (by simp) _⟩
  refine ⟨_, _, _, _, ⟨Sl.of _ _ _, Sl.of _ _ _⟩, .inl ⟨rfl, ⟨w.heap.size + 1, 0, 1, 1, rfl, by omega, by omega, by omega, by simp, fun j hj => ?_⟩, by omega⟩⟩
  obtain rfl : j = 0 := by omega
  have e : w.heap.size + 1 = (w.alloc (Obj.cells #[Value.int IntKind.i64 1, Value.slice (some ⟨w.heap.size + 1, 0, none⟩) 1 1, Value.slice none 0 0, Value.int IntKind.i64 0, Value.int IntKind.i64 0] 62)).heap.size := by simp
  refine ⟨c, c, ?_, ?_, h0, Int.le_refl _, h1⟩
  · conv => lhs; arg 2; rw [e]
    rw [World.cell?_alloc_mark]; rfl
  · conv => lhs; arg 2; rw [e]
    rw [World.cell?_alloc_mark]; rfl
theorem times_node (b : Nat) (A : Option Addr) (n c : Nat) (mn mx : Int) (w : World) (hr : RgV b w (.slice A n c)) (hb : b < w.heap.size) (h0 : 0 ≤ mn) (h1 : mn ≤ mx) (h1m : 1 ≤ mx) (h6 : mx ≤ 6) : Calls Tryz.prog 58 #[.slice A n c, .int .i64 mn, .int .i64 mx] w (NodePost b 2 6 w) := by
  have HR := Lib.hid hr; clear hr
  go_enter Tryz.func58, Tryz.ntmps58
  go_wp2_with fail
  refine bodyPost_ret (v := .agg #[.int .i64 4, .slice none 0 0, .slice (some ⟨w.heap.size + 1, 0, none⟩) 1 1, .int .i64 mn, .int .i64 mx]) (by simp [results, Tryz.results58, go_sem]; try rfl) rfl ?_
  have hbel : Below w.heap.size w ((w.alloc (Obj.cells #[Value.int IntKind.i64 4, Value.slice none 0 0, Value.slice (some ⟨w.heap.size + 1, 0, none⟩) 1 1, Value.int IntKind.i64 mn, Value.int IntKind.i64 mx] 62)).alloc (Obj.cells #[Value.int IntKind.i64 1, Value.slice A n c, Value.slice none 0 0, Value.int IntKind.i64 0, Value.int IntKind.i64 0] 62)) := ((Below.refl _ w).alloc (Nat.le_refl _) _).alloc (by simp) _
  refine ⟨_, _, _, _, _, _, _, _, _, rfl, ?_, hbel⟩
  refine ⟨_, _, _, _, ⟨Sl.of _ _ _, Sl.of _ _ _⟩, .inr (.inr (.inr ⟨rfl, 1, 1, ⟨w.heap.size + 1, 0, 1, rfl, by omega, by simp, by omega, fun j hj => ?_⟩, by omega, h0, h1, ⟨h1m, by omega⟩, by omega⟩))⟩
  obtain rfl : j = 0 := by omega
  have e : w.heap.size + 1 = (w.alloc (Obj.cells #[Value.int IntKind.i64 4, Value.slice none 0 0, Value.slice (some ⟨w.heap.size + 1, 0, none⟩) 1 1, Value.int IntKind.i64 mn, Value.int IntKind.i64 mx] 62)).heap.size := by simp
  refine ⟨.int .i64 1, .slice A n c, .slice none 0 0, .int .i64 0, .int .i64 0, ?_, ?_, ?_, ?_, ?_, ?_⟩
  · conv => lhs; arg 2; rw [e]
    rw [World.cell?_alloc_mark]; rfl
  · conv => lhs; arg 2; rw [e]
    rw [World.cell?_alloc_mark]; rfl
  · conv => lhs; arg 2; rw [e]
    rw [World.cell?_alloc_mark]; rfl
  · conv => lhs; arg 2; rw [e]
    rw [World.cell?_alloc_mark]; rfl
  · conv => lhs; arg 2; rw [e]
    rw [World.cell?_alloc_mark]; rfl
  · exact ⟨_, _, _, _, ⟨Sl.of _ _ _, Sl.of _ _ _⟩, .inl ⟨rfl, HR.out.later (Stay.of_below hbel), by omega⟩⟩
theorem seq_node (b : Nat) (A : Option Addr) (n c : Nat) (w : World) (hk : KdV b w (Pat b w 2 6) n (.slice A n c)) (h3 : n ≤ 3) : Calls Tryz.prog 56 #[.slice A n c] w (NodePost b 3 18 w) := by
  have HK := Lib.hid hk; clear hk
  go_enter Tryz.func56, Tryz.ntmps56
  go_wp2_with fail
  refine bodyPost_ret (v := .agg #[.int .i64 2, .slice none 0 0, .slice A n c, .int .i64 0, .int .i64 0]) (by simp [results, Tryz.results56, go_sem]; try rfl) rfl ?_
  have hbel : Below w.heap.size w (w.alloc (Obj.cells #[Value.int IntKind.i64 2, Value.slice none 0 0, Value.slice A n c, Value.int IntKind.i64 0, Value.int IntKind.i64 0] 62)) := (Below.refl _ w).alloc (Nat.le_refl _) _
  refine ⟨_, _, _, _, _, _, _, _, _, rfl, ?_, hbel⟩
  exact ⟨_, _, _, _, ⟨Sl.of _ _ _, Sl.of _ _ _⟩, .inr (.inl ⟨rfl, n, 6, HK.out.later (Stay.of_below hbel) (fun us => Pat.later (Stay.of_below hbel)), by omega⟩)⟩
theorem KdV.new {b : Nat} {w : World} {G : List Value → Prop} {us : List (List Value)} {cs : Array Value} {e : TypeId} {n c : Nat} (hb : b < w.heap.size) (hcs : cs = us.flatten.toArray) (h5 : ∀ u ∈ us, u.length = 5) (hG : ∀ u ∈ us, G u) (hn : n = us.length) (hn2 : n ≤ 1000) :
    KdV b (w.alloc (.cells cs e)) G n (.slice (some ⟨w.heap.size, 0, none⟩) n c) := by
  subst hn hcs
  refine ⟨w.heap.size, 0, c, rfl, hb, by simp, hn2, fun j hj => ?_⟩
  have hflat : ∀ (us : List (List Value)), (∀ u ∈ us, u.length = 5) → ∀ j (hj : j < us.length) i, i < 5 → us.flatten[j * 5 + i]? = (us[j])[i]? := by
    intro us
    induction us with
    | nil => intro _ j hj; simp at hj
    | cons a r ih =>
      intro h j hj i hi
      have ha := h a (by simp)
      match j, hj with
      | 0, _ => rw [List.flatten_cons, List.getElem?_append_left (by omega)]; simp
      | j + 1, hj =>
        rw [List.flatten_cons, List.getElem?_append_right (by omega), show (j + 1) * 5 + i - a.length = j * 5 + i by omega, ih (fun u hu => h u (by simp [hu])) j (by simpa using hj) i hi]
        rfl
  have h := hflat us h5 j hj
  have hu5 := h5 us[j] (List.getElem_mem hj)
  have hg := hG us[j] (List.getElem_mem hj)
  generalize us[j] = u at *
  match u, hu5 with
  | [u0, u1, u2, u3, u4], _ =>
    refine ⟨u0, u1, u2, u3, u4, ?_, ?_, ?_, ?_, ?_, hg⟩
    · have := h 0 (by omega); rw [World.cell?_alloc_mark]; simpa using this
    · have := h 1 (by omega); rw [World.cell?_alloc_mark, Nat.zero_add]; simpa using this
    · have := h 2 (by omega); rw [World.cell?_alloc_mark, Nat.zero_add]; simpa using this
    · have := h 3 (by omega); rw [World.cell?_alloc_mark, Nat.zero_add]; simpa using this
    · have := h 4 (by omega); rw [World.cell?_alloc_mark, Nat.zero_add]; simpa using this
end Go.Proofs.YtklnakjmiljmhaaGreatDoor
namespace Go.Proofs.YtklnakjmiljmhaaGreatDoor
set_option linter.unusedVariables false
set_option linter.unusedSimpArgs false
set_option maxRecDepth 100000
open Go.RowKit
theorem valid_ref (c : Int) (w : World) :
    Calls Tryz.prog 80 #[.int .i64 c] w fun e w' => e = .returned (.bool (vld c)) ∧ w = w' := by
  by_cases h : 0 ≤ c
  all_goals
    go_enter Tryz.func80, Tryz.ntmps80
    go_wp2
    go_ret
    exact ⟨ret_bool (by unfold vld; first | (simp [h]; done) | (rw [decide_eq_false (by omega)]; rfl)), rfl⟩
theorem digits_ref (s : ByteArray) (w : World) (hs : s.size ≤ 1000000) :
    Calls Tryz.prog 81 #[.string s] w fun e w' => e = .returned (.bool (allF dig (bl s))) ∧ w = w' := by
  go_enter Tryz.func81, Tryz.ntmps81
  go_wp2
  go_loop [3] (fun i => ∃ k : Nat, k ≤ s.size ∧ i = .int .i64 k ∧ allF dig ((bl s).drop k) = allF dig (bl s)) (fun i => s.size - (intOf i).toNat)
  case atStart => exact ⟨0, Nat.zero_le _, rfl, rfl⟩
  case round =>
    obtain ⟨k, hk, rfl, hrel⟩ := hrel
    have HR := Lib.hid hrel; clear hrel
    by_cases hlt : k < s.size
    · have hdr := Lib.hid (drop_byte s k hlt)
      by_cases h1 : (s[k].toNat : Int) < 48
      · go_wp2
        go_ret
        exact ⟨ret_bool (by rw [← HR.out, hdr.out, allF_no (dig_mk0 (by omega))]), rfl⟩
      · by_cases h2 : 57 < (s[k].toNat : Int)
        · go_wp2
          go_ret
          exact ⟨ret_bool (by rw [← HR.out, hdr.out, allF_no (dig_mk0 (by omega))]), rfl⟩
        · go_wp2
          go_round
          case rel => exact ⟨k + 1, by omega, by go_num, by rw [← HR.out, hdr.out, allF_yes (dig_mk (by omega) (by omega))]⟩
          case measure => simp [intOf]; omega
    · obtain rfl : k = s.size := by omega
      go_wp2
      go_ret
      exact ⟨ret_bool (by rw [← HR.out, drop_all]; rfl), rfl⟩
theorem capitals_ref (s : ByteArray) (w : World) (hs : s.size ≤ 1000000) :
    Calls Tryz.prog 82 #[.string s] w fun e w' => e = .returned (.bool (allF sgn (bl s))) ∧ w = w' := by
  go_enter Tryz.func82, Tryz.ntmps82
  go_wp2
  go_loop [3] (fun i => ∃ k : Nat, k ≤ s.size ∧ i = .int .i64 k ∧ allF sgn ((bl s).drop k) = allF sgn (bl s)) (fun i => s.size - (intOf i).toNat)
  case atStart => exact ⟨0, Nat.zero_le _, rfl, rfl⟩
  case round =>
    obtain ⟨k, hk, rfl, hrel⟩ := hrel
    have HR := Lib.hid hrel; clear hrel
    by_cases hlt : k < s.size
    · have hdr := Lib.hid (drop_byte s k hlt)
      by_cases h1 : (s[k].toNat : Int) < 48
      · by_cases h3 : (s[k].toNat : Int) < 65
        · go_wp2
          go_ret
          exact ⟨ret_bool (by rw [← HR.out, hdr.out, allF_no (sgn_mk0 (by omega))]), rfl⟩
        · exfalso; omega
      · by_cases h2 : 57 < (s[k].toNat : Int)
        · by_cases h3 : (s[k].toNat : Int) < 65
          · go_wp2
            go_ret
            exact ⟨ret_bool (by rw [← HR.out, hdr.out, allF_no (sgn_mk0 (by omega))]), rfl⟩
          · by_cases h4 : 90 < (s[k].toNat : Int)
            · go_wp2
              go_ret
              exact ⟨ret_bool (by rw [← HR.out, hdr.out, allF_no (sgn_mk0 (by omega))]), rfl⟩
            · go_wp2
              go_round
              case rel => exact ⟨k + 1, by omega, by go_num, by rw [← HR.out, hdr.out, allF_yes (sgn_mk (by omega))]⟩
              case measure => simp [intOf]; omega
        · go_wp2
          go_round
          case rel => exact ⟨k + 1, by omega, by go_num, by rw [← HR.out, hdr.out, allF_yes (sgn_mk (by omega))]⟩
          case measure => simp [intOf]; omega
    · obtain rfl : k = s.size := by omega
      go_wp2
      go_ret
      exact ⟨ret_bool (by rw [← HR.out, drop_all]; rfl), rfl⟩
theorem rest_ref (s : ByteArray) (w : World) (hs : s.size ≤ 1000000) :
    Calls Tryz.prog 84 #[.string s] w fun e w' => e = .returned (.int .i64 (mod97R (bl s) 0)) ∧ w = w' := by
  go_enter Tryz.func84, Tryz.ntmps84
  go_wp2
  go_loop [3, 4] (fun n i => ∃ (k : Nat) (N : Int), k ≤ s.size ∧ i = .int .i64 k ∧ n = .int .i64 N ∧ 0 ≤ N ∧ N < 97 ∧ mod97R ((bl s).drop k) N = mod97R (bl s) 0) (fun _ i => s.size - (intOf i).toNat)
  case atStart => exact ⟨0, 0, Nat.zero_le _, rfl, rfl, by omega, by omega, rfl⟩
  case round =>
    obtain ⟨k, N, hk, rfl, rfl, hN0, hN1, hrel⟩ := hrel
    have HR := Lib.hid hrel; clear hrel
    by_cases hlt : k < s.size
    · have hdr := Lib.hid (drop_byte s k hlt)
      have hcb := byte_lt s[k]
      by_cases hd : (s[k].toNat : Int) ≤ 57
      all_goals
        go_wp2
        go_round
        case rel => exact ⟨k + 1, _, by omega, by go_num, rfl, by omega, by omega, by rw [← HR.out, hdr.out]; first | exact mod97R_lo hd (by unfold val; omega) | exact mod97R_hi hd (by unfold val; omega)⟩
        case measure => simp [intOf]; omega
    · obtain rfl : k = s.size := by omega
      have hN : N = mod97R (bl s) 0 := by rw [← HR.out, drop_all]; rfl
      have HN := Lib.hid hN; clear hN
      go_wp2
      go_ret
      exact ⟨ret_int (by rw [HN.out]), rfl⟩
theorem crc_ref (s : ByteArray) (w : World) (hs : s.size ≤ 1000000) :
    Calls Tryz.prog 86 #[.string s] w fun e w' => e = .returned (.int .u32 (crc (bl s))) ∧ w = w' := by
  go_enter Tryz.func86, Tryz.ntmps86
  go_wp2
  go_loop [3, 4] (fun n i => ∃ (k : Nat) (N : Int), k ≤ s.size ∧ i = .int .i64 k ∧ n = .int .u32 N ∧ 0 ≤ N ∧ N < 4294967296 ∧ crcF ((bl s).drop k) N = crcF (bl s) 4294967295) (fun _ i => s.size - (intOf i).toNat)
  case atStart => exact ⟨0, _, Nat.zero_le _, rfl, rfl, by omega, by omega, rfl⟩
  case round =>
    obtain ⟨k, N, hk, rfl, rfl, hN0, hN1, hrel⟩ := hrel
    have HR := Lib.hid hrel; clear hrel
    by_cases hlt : k < s.size
    · have hdr := Lib.hid (drop_byte s k hlt)
      have hcb := byte_lt s[k]
      go_wp2
      obtain ⟨X, hX⟩ : ∃ X, X = bits .xor .u32 N s[k].toNat := ⟨_, rfl⟩
      have hXb := u32_bd .xor N s[k].toNat
      rw [← hX] at hXb ⊢
      have HX := Lib.hid hX; clear hX hcb
      go_loop [3, 5] (fun n i => ∃ (j : Nat) (M : Int), j ≤ 8 ∧ i = .int .i64 j ∧ n = .int .u32 M ∧ 0 ≤ M ∧ M < 4294967296 ∧ crcBits (8 - j) M = crcBits 8 X) (fun _ i => 8 - (intOf i).toNat)
      case atStart => exact ⟨0, X, by omega, rfl, rfl, by omega, by omega, rfl⟩
      case round =>
        obtain ⟨j, M, hj, rfl, rfl, hM0, hM1, hrel⟩ := hrel
        have HI := Lib.hid hrel; clear hrel
        by_cases hlj : j < 8
        · have hs8 := Lib.hid (show 8 - j = (8 - (j + 1)) + 1 by omega)
          rcases hb : (bits .and .u32 M 1 == 1)
          · go_wp2
            go_round
            case rel => exact ⟨j + 1, M / 2, by omega, by go_num, rfl, by omega, by omega, by rw [← HI.out, hs8.out, crcBits_step, crc_no hb]⟩
            case measure => simp [intOf]; omega
          · go_wp2
            go_round
            case rel => exact ⟨j + 1, _, by omega, by go_num, rfl, (u32_bd _ _ _).1, (u32_bd _ _ _).2, by rw [← HI.out, hs8.out, crcBits_step, crc_yes hb]⟩
            case measure => simp [intOf]; omega
        · obtain rfl : j = 8 := by omega
          go_wp2
          go_round
          case rel => exact ⟨k + 1, M, by omega, by go_num, rfl, by omega, by omega, by rw [← HR.out, hdr.out, crcF, ← HX.out, ← HI.out]; rfl⟩
          case measure => simp [intOf]; omega
    · obtain rfl : k = s.size := by omega
      have hN : N = crcF (bl s) 4294967295 := by rw [← HR.out, drop_all]; rfl
      have HN := Lib.hid hN; clear hN
      go_wp2
      go_ret
      exact ⟨ret_int (by unfold crc; rw [← HN.out]), rfl⟩
theorem letter_ref (s : ByteArray) (w : World) (hs : s.size ≤ 1000000) :
    Calls Tryz.prog 87 #[.string s] w fun e w' => e = .returned (.int .u8 (65 + letF (bl s) 0 0)) ∧ w = w' := by
  go_enter Tryz.func87, Tryz.ntmps87
  go_wp2
  have hbd := letF_bd (bl s) 0 0 (by omega) (by omega)
  go_loop [3, 4] (fun n i => ∃ (k : Nat) (N : Int), k ≤ s.size ∧ i = .int .i64 k ∧ n = .int .i64 N ∧ 0 ≤ N ∧ N < 26 ∧ letF ((bl s).drop k) k N = letF (bl s) 0 0) (fun _ i => s.size - (intOf i).toNat)
  case atStart => exact ⟨0, 0, Nat.zero_le _, rfl, rfl, by omega, by omega, rfl⟩
  case round =>
    obtain ⟨k, N, hk, rfl, rfl, hN0, hN1, hrel⟩ := hrel
    have HR := Lib.hid hrel; clear hrel
    by_cases hlt : k < s.size
    · have hdr := Lib.hid (drop_byte s k hlt)
      have hcb := byte_lt s[k]
      have hp := let_step_bd s[k].toNat k (by omega) hcb (by omega)
      go_wp2
      go_round
      case rel => exact ⟨k + 1, (N + s[k].toNat * ((k + 1) % 26)) % 26, by omega, by go_num, rfl, by omega, by omega, by rw [← HR.out, hdr.out]; rfl⟩
      case measure => simp [intOf]; omega
    · obtain rfl : k = s.size := by omega
      have hN : N = letF (bl s) 0 0 := by rw [← HR.out, drop_all]; rfl
      have HN := Lib.hid hN; clear hN hbd
      go_wp2
      go_ret
      exact ⟨ret_int (by rw [HN.out]), rfl⟩
set_option maxHeartbeats 400000 in
theorem hex3_ref (x : Int) (w : World) (h0 : 0 ≤ x) (h1 : x < 4294967296) :
    Calls Tryz.prog 85 #[.int .u32 x] w fun e w' => e = .returned (.string (bs (hexR 8 x))) ∧ Below w.heap.size w w' := by
  obtain ⟨i0, hi, hz0, hz1, hz2⟩ := info_parts info_u8
  go_enter Tryz.func85, Tryz.ntmps85
  go_wp2
  go_loopw [3, 4] (fun v i wr => ∃ (m : Nat) (l : List UInt8), m ≤ 8 ∧ i = .int .i64 (4 * (m : Int) - 4) ∧ OB 5 w.heap.size v l wr ∧ l.length + m = 8 ∧ Below w.heap.size w wr ∧ l ++ hexR m x = hexR 8 x) (fun _ i _ => (intOf i + 4).toNat)
  case atStart => exact ⟨8, [], by omega, rfl, OB.nil_ _ _ _, rfl, Below.refl _ _, rfl⟩
  case round =>
    obtain ⟨m, l, hm, rfl, hown, hl, hbel, hrel⟩ := hrel
    have HR := Lib.hid hrel; clear hrel
    rcases m with _ | m
    · obtain ⟨A, n, c, rfl⟩ : ∃ A n c, u3 = .slice A n c := hown.form_
      have hcv := hown.conv Tryz.underlying23 Tryz.underlying5 Tryz.underlying9
      go_wp2
      go_ret
      exact ⟨ret_str (by rw [← HR.out]; simp [hexR]), hbel⟩
    · obtain ⟨y, hy⟩ : ∃ y, bits .and .u32 (x / 2 ^ (4 * (m + 1) - 4)) 15 = y := ⟨_, rfl⟩
      have hyb : y = x / 2 ^ (4 * m) % 16 := by rw [← hy, and15 (div_bd _ h0 h1).1 (div_bd _ h0 h1).2]; rfl
      have hy0 : 0 ≤ y := by omega
      have hy1 : y < 16 := by omega
      have HY := Lib.hid hyb; clear hyb
      have hix := idx_hex .u32 y hy0 hy1
      go_wp2_with (at_builtin; refine app_u8 Tryz.underlying23 hi hz0 hz1 hz2 _ _ _ _ _ (hexd y) _ rfl rfl rfl rfl hown rfl (by omega) hbel.size ?_; intro v1 w1 hown1 hb1 _ _)
      go_roundw
      case rel => exact ⟨m, l ++ [hexd y], by omega, by go_num, hown1, by simp; omega, hbel.trans (hb1.mono (Nat.le_refl _)), by rw [← HR.out, hexR, ← HY.out]; simp⟩
      case measure => simp [intOf]; omega
set_option maxHeartbeats 400000 in
theorem luhn_ref (s : ByteArray) (w : World) (hs : s.size ≤ 1000000) :
    Calls Tryz.prog 83 #[.string s] w fun e w' => e = .returned (.bool (luhnQ (bl s))) ∧ w = w' := by
  by_cases h2 : s.size < 2
  · go_enter Tryz.func83, Tryz.ntmps83
    go_wp2
    go_ret
    exact ⟨ret_bool (by unfold luhnQ; rw [decide_eq_false (by rw [size_list]; omega)]; rfl), rfl⟩
  · rcases hd : allF dig (bl s)
    · go_enter Tryz.func83, Tryz.ntmps83
      go_wp2_with (go_at_call 81; refine (digits_ref _ _ hs).mono ?_; rintro e w' ⟨rfl, rfl⟩)
      go_ret
      exact ⟨ret_bool (by unfold luhnQ; rw [hd]; simp), rfl⟩
    · go_enter Tryz.func83, Tryz.ntmps83
      go_wp2_with (go_at_call 81; refine (digits_ref _ _ hs).mono ?_; rintro e w' ⟨rfl, rfl⟩)
      have Hd := Lib.hid hd; clear hd
      go_loop [3, 4] (fun n i => ∃ (k : Nat) (N : Int), k ≤ s.size ∧ i = .int .i64 k ∧ n = .int .i64 N ∧ 0 ≤ N ∧ N ≤ 512 * k ∧ luhnR ((bl s).reverse.drop k) k N = luhnR (bl s).reverse 0 0) (fun _ i => s.size - (intOf i).toNat)
      case atStart => exact ⟨0, 0, Nat.zero_le _, rfl, rfl, by omega, by omega, rfl⟩
      case round =>
        obtain ⟨k, N, hk, rfl, rfl, hN0, hN1, hrel⟩ := hrel
        have HR := Lib.hid hrel; clear hrel
        by_cases hlt : k < s.size
        · have hdr := Lib.hid (drop_rev s k hlt)
          obtain ⟨u, c, hus, hcu, hc0, hc1, hix⟩ := idx_str Tryz.underlying9 s (s.size - 1 - k) (by omega) .i64 ((s.size : Int) - 1 - k) (by omega)
          by_cases hev : (k : Int) % 2 = 1
          · by_cases hd : 9 < (c - 48) % 256 * 2
            all_goals
              go_wp2
              go_round
              case rel => exact ⟨k + 1, _, by omega, by go_num, rfl, by omega, by omega, by rw [← HR.out, hdr.out, ← hus.out]; exact luhnR_step hcu.out (by rw [if_pos (by omega)]; unfold dbl val; split <;> omega)⟩
              case measure => simp [intOf]; omega
          · go_wp2
            go_round
            case rel => exact ⟨k + 1, _, by omega, by go_num, rfl, by omega, by omega, by rw [← HR.out, hdr.out, ← hus.out]; exact luhnR_step hcu.out (by rw [if_neg (by omega)]; unfold val; omega)⟩
            case measure => simp [intOf]; omega
        · obtain rfl : k = s.size := by omega
          have hN : N = luhnR (bl s).reverse 0 0 := by rw [← HR.out, List.drop_eq_nil_of_le (by rw [List.length_reverse, size_list]; exact Nat.le_refl _)]; rfl
          have HN := Lib.hid hN; clear hN
          go_wp2
          go_ret
          exact ⟨ret_bool (by unfold luhnQ; rw [Hd.out, ← HN.out, decide_eq_true (by rw [size_list]; omega)]; rfl), rfl⟩
theorem cmpR_yes {c : Int} {s : ByteArray} {r : ByteArray} (hv : vld c = true) (hs : s.size ≤ 65536) (hp : prm c (bl s) = true) (h : r = bs (bl s ++ addQ c (bl s))) :
    Ending.returned (.tuple #[.string r, .int .i64 0]) = .returned (.tuple #[.string (bs (cmpQ c (bl s)).1), .int .i64 (cmpQ c (bl s)).2]) := by
  unfold cmpQ
  rw [hv, hp, if_neg (by decide), if_neg (by rw [size_list]; omega), if_neg (by decide), h]
theorem cmpR_no {c : Int} {s : ByteArray} (hv : vld c = true) (hs : s.size ≤ 65536) (hp : prm c (bl s) = false) :
    Ending.returned (.tuple #[.string ⟨#[]⟩, .int .i64 4]) = .returned (.tuple #[.string (bs (cmpQ c (bl s)).1), .int .i64 (cmpQ c (bl s)).2]) := by
  unfold cmpQ
  rw [hv, hp, if_neg (by decide), if_neg (by rw [size_list]; omega), if_pos rfl]; rfl
set_option maxHeartbeats 1000000 in
theorem compR1 (s : ByteArray) (w : World) (hs : s.size ≤ 65536) (hz : ¬ s.size = 0) (hp : allF dig (bl s) = true) :
    Calls Tryz.prog 55 #[.int .i64 1, .string s] w fun e w' => e = .returned (.tuple #[.string (bs (cmpQ 1 (bl s)).1), .int .i64 (cmpQ 1 (bl s)).2]) ∧ Below w.heap.size w w' := by
  have hv : vld 1 = true := rfl
  have hpp := Lib.hid ((prm_at1 hz).trans hp)
  have hz0 : ((s.size : Int) == 0) = false := beq_eq_false_iff_ne.2 (by omega)
  go_enter Tryz.func55, Tryz.ntmps55
  go_wp2_with (first | (go_at_call 80; refine (valid_ref _ _).mono ?_; rintro e w' ⟨rfl, rfl⟩) | (go_at_call 81; refine (digits_ref _ _ (by omega)).mono ?_; rintro e w' ⟨rfl, rfl⟩))
  have HP := Lib.hid hp; clear hp
  go_loopw [6] (fun d wr => ∃ j : Nat, j ≤ 9 ∧ d = .int .u8 (48 + (j : Int)) ∧ Below w.heap.size w wr ∧ luhnSf (9 - j) (bl s) = luhnSf 9 (bl s)) (fun d _ => (57 - intOf d).toNat)
  case atStart => exact ⟨0, by omega, rfl, Below.refl _ _, rfl⟩
  case round =>
    obtain ⟨j, hj, rfl, hbel, hrel⟩ := hrel
    have HR := Lib.hid hrel; clear hrel
    by_cases hlt : j < 9
    · obtain ⟨u, hu⟩ : ∃ u, UInt8.ofNat (48 + j) = u := ⟨_, rfl⟩
      have hcv := fun w => conv_row (P := Tryz.prog) Tryz.underlying23 Tryz.underlying5 Tryz.underlying9 [u] [.int .u8 (48 + (j : Int))] (by rw [← hu]; simp only [List.map]; rw [← byte_nat (48 + j) (by omega)]; simp) 1 1 rfl w
      have hcv2 : ∀ (W : World) (o : Obj), _ := fun W o => conv_row2 (P := Tryz.prog) Tryz.underlying23 Tryz.underlying5 Tryz.underlying9 [u] [.int .u8 (48 + (j : Int))] (by rw [← hu]; simp only [List.map]; rw [← byte_nat (48 + j) (by omega)]; simp) 1 1 rfl W o
      have h56 : UInt8.ofNat (56 - (8 - j)) = u := by rw [← hu]; congr 1; omega
      have Hu := Lib.hid h56; clear hu h56
      have hs1 := size_bs1 u
      have hsz : (s ++ bs [u]).size ≤ 1000000 := by rw [ByteArray.size_append, hs1]; omega
      have hfuel := Lib.hid (show 9 - j = (8 - j) + 1 by omega)
      rcases hq : luhnQ (bl (s ++ bs [u]))
      · have hq' := Lib.hid (cat_bl s [u] ▸ hq)
        go_wp2_with (go_at_call 83; refine (luhn_ref _ _ hsz).mono ?_; rintro e w' ⟨rfl, rfl⟩)
        go_roundw
        case rel => exact ⟨j + 1, by omega, by go_num, hbel.alloc hbel.size _, by rw [← HR.out, hfuel.out, luhnSf_no (by rw [Hu.out]; exact hq'.out)]; congr 1; omega⟩
        case measure => simp [intOf]; omega
      · have hq' := Lib.hid (cat_bl s [u] ▸ hq)
        have hfin := Lib.hid (show s ++ bs [u] = bs (bl s ++ addQ 1 (bl s)) by rw [cat_bs]; unfold addQ; rw [if_pos rfl, ← HR.out, hfuel.out, luhnSf_yes (by rw [Hu.out]; exact hq'.out), Hu.out])
        go_wp2_with (go_at_call 83; refine (luhn_ref _ _ hsz).mono ?_; rintro e w' ⟨rfl, rfl⟩)
        go_ret2
        exact ⟨cmpR_yes hv hs hpp.out hfin.out, (hbel.alloc hbel.size _).alloc ((hbel.alloc hbel.size _).size) _⟩
    · obtain rfl : j = 9 := by omega
      have hfin := Lib.hid (show s ++ ⟨#[57]⟩ = bs (bl s ++ addQ 1 (bl s)) by rw [show (⟨#[57]⟩ : ByteArray) = bs [57] from rfl, cat_bs]; unfold addQ; rw [if_pos rfl, ← HR.out]; rfl)
      go_wp2
      go_ret2
      exact ⟨cmpR_yes hv hs hpp.out hfin.out, hbel⟩
set_option maxHeartbeats 1000000 in
theorem compR2 (s : ByteArray) (w : World) (hs : s.size ≤ 65536) (hz : ¬ s.size = 0) (hp : allF sgn (bl s) = true) :
    Calls Tryz.prog 55 #[.int .i64 2, .string s] w fun e w' => e = .returned (.tuple #[.string (bs (cmpQ 2 (bl s)).1), .int .i64 (cmpQ 2 (bl s)).2]) ∧ Below w.heap.size w w' := by
  have hv : vld 2 = true := rfl
  have hpp := Lib.hid ((prm_at2 hz).trans hp)
  have hz0 : ((s.size : Int) == 0) = false := beq_eq_false_iff_ne.2 (by omega)
  have hsz : (s ++ ⟨#[48, 48]⟩ : ByteArray).size ≤ 1000000 := by rw [ByteArray.size_append]; exact Nat.le_trans (Nat.add_le_add_right hs 2) (by decide)
  obtain ⟨hN0, hN1⟩ := mod97R_bd (bl (s ++ ⟨#[48, 48]⟩)) 0 (by omega) (by omega)
  obtain ⟨N, hN⟩ : ∃ N, mod97R (bl (s ++ ⟨#[48, 48]⟩)) 0 = N := ⟨_, rfl⟩
  rw [hN] at hN0 hN1
  have hcv := fun w => conv_row (P := Tryz.prog) Tryz.underlying23 Tryz.underlying5 Tryz.underlying9 [UInt8.ofNat (48 + (98 - N) / 10).toNat, UInt8.ofNat (48 + (98 - N) % 10).toNat] [.int .u8 (48 + (98 - N) / 10), .int .u8 (48 + (98 - N) % 10)] (by simp only [List.map]; rw [← byte_nat _ (by omega), ← byte_nat _ (by omega), Int.toNat_of_nonneg (by omega), Int.toNat_of_nonneg (by omega)]) 2 2 rfl w
  have hfin := Lib.hid (show s ++ bs [UInt8.ofNat (48 + (98 - N) / 10).toNat, UInt8.ofNat (48 + (98 - N) % 10).toNat] = bs (bl s ++ addQ 2 (bl s)) by rw [cat_bs]; unfold addQ twoD; rw [if_neg (by decide), if_pos rfl, show mod97R (bl s ++ [48, 48]) 0 = N from bl_lit s [48, 48] ▸ hN])
  have hs2 : (bs [UInt8.ofNat (48 + (98 - N) / 10).toNat, UInt8.ofNat (48 + (98 - N) % 10).toNat]).size = 2 := rfl
  generalize bs [UInt8.ofNat (48 + (98 - N) / 10).toNat, UInt8.ofNat (48 + (98 - N) % 10).toNat] = t at hcv hfin hs2
  go_enter Tryz.func55, Tryz.ntmps55
  go_wp2_with (first | (go_at_call 80; refine (valid_ref _ _).mono ?_; rintro e w' ⟨rfl, rfl⟩) | (go_at_call 82; refine (capitals_ref _ _ (by omega)).mono ?_; rintro e w' ⟨rfl, rfl⟩) | (go_at_call 84; refine (rest_ref _ _ hsz).mono ?_; rintro e w' ⟨rfl, rfl⟩))
  go_ret2
  exact ⟨cmpR_yes hv hs hpp.out hfin.out, (Below.refl _ w).alloc (Nat.le_refl _) _⟩
set_option maxHeartbeats 1000000 in
theorem compR3 (s : ByteArray) (w : World) (hs : s.size ≤ 65536) (hz : ¬ s.size = 0) :
    Calls Tryz.prog 55 #[.int .i64 3, .string s] w fun e w' => e = .returned (.tuple #[.string (bs (cmpQ 3 (bl s)).1), .int .i64 (cmpQ 3 (bl s)).2]) ∧ Below w.heap.size w w' := by
  have hv : vld 3 = true := rfl
  have hz0 : ((s.size : Int) == 0) = false := beq_eq_false_iff_ne.2 (by omega)
  have hcb := Lib.hid (crc_bd (bl s))
  have hs8 : (bs (hexR 8 (crc (bl s)))).size = 8 := by rw [size_bs, hexR_len]
  have hfin := Lib.hid (show s ++ bs (hexR 8 (crc (bl s))) = bs (bl s ++ addQ 3 (bl s)) by rw [cat_bs]; rfl)
  go_enter Tryz.func55, Tryz.ntmps55
  go_wp2_with (first | (go_at_call 80; refine (valid_ref _ _).mono ?_; rintro e w' ⟨rfl, rfl⟩) | (go_at_call 86; refine (crc_ref _ _ (by omega)).mono ?_; rintro e w' ⟨rfl, rfl⟩) | (go_at_call 85; refine (hex3_ref _ _ hcb.out.1 hcb.out.2).mono ?_; rintro e w3 ⟨rfl, hb3⟩))
  go_ret2
  exact ⟨cmpR_yes hv hs (prm_at3 hz) hfin.out, hb3⟩
set_option maxHeartbeats 1000000 in
theorem compR4 (s : ByteArray) (w : World) (hs : s.size ≤ 65536) (hz : ¬ s.size = 0) :
    Calls Tryz.prog 55 #[.int .i64 4, .string s] w fun e w' => e = .returned (.tuple #[.string (bs (cmpQ 4 (bl s)).1), .int .i64 (cmpQ 4 (bl s)).2]) ∧ Below w.heap.size w w' := by
  have hv : vld 4 = true := rfl
  have hz0 : ((s.size : Int) == 0) = false := beq_eq_false_iff_ne.2 (by omega)
  obtain ⟨hN0, hN1⟩ := letF_bd (bl s) 0 0 (by omega) (by omega)
  have hfin : ∀ N, letF (bl s) 0 0 = N → s ++ bs [UInt8.ofNat (65 + N).toNat] = bs (bl s ++ addQ 4 (bl s)) := by rintro N rfl; rw [cat_bs]; rfl
  obtain ⟨N, hN⟩ : ∃ N, letF (bl s) 0 0 = N := ⟨_, rfl⟩
  rw [hN] at hN0 hN1
  have hfin := Lib.hid (hfin N hN)
  have hcv := fun w => conv_row (P := Tryz.prog) Tryz.underlying23 Tryz.underlying5 Tryz.underlying9 [UInt8.ofNat (65 + N).toNat] [.int .u8 (65 + N)] (by simp only [List.map]; rw [← byte_nat _ (by omega), Int.toNat_of_nonneg (by omega)]) 1 1 rfl w
  generalize UInt8.ofNat (65 + N).toNat = u at hcv hfin
  have hs1 := size_bs1 u
  go_enter Tryz.func55, Tryz.ntmps55
  go_wp2_with (first | (go_at_call 80; refine (valid_ref _ _).mono ?_; rintro e w' ⟨rfl, rfl⟩) | (go_at_call 87; refine (letter_ref _ _ (by omega)).mono ?_; rintro e w' ⟨rfl, rfl⟩))
  go_ret2
  exact ⟨cmpR_yes hv hs (prm_at4 hz) hfin.out, (Below.refl _ w).alloc (Nat.le_refl _) _⟩
set_option maxHeartbeats 400000 in
theorem complete_ref (c : Int) (s : ByteArray) (w : World) (hs : s.size ≤ 1000000) :
    Calls Tryz.prog 55 #[.int .i64 c, .string s] w fun e w' => e = .returned (.tuple #[.string (bs (cmpQ c (bl s)).1), .int .i64 (cmpQ c (bl s)).2]) ∧ Below w.heap.size w w' := by
  rcases hv : vld c
  · go_enter Tryz.func55, Tryz.ntmps55
    go_wp2_with (go_at_call 80; refine (valid_ref _ _).mono ?_; rintro e w' ⟨rfl, rfl⟩)
    go_ret2
    exact ⟨by unfold cmpQ; rw [hv]; rfl, Below.refl _ _⟩
  by_cases hl : 65536 < s.size
  · go_enter Tryz.func55, Tryz.ntmps55
    go_wp2_with (go_at_call 80; refine (valid_ref _ _).mono ?_; rintro e w' ⟨rfl, rfl⟩)
    go_ret2
    exact ⟨by unfold cmpQ; rw [hv, if_neg (by decide), if_pos (by rw [size_list]; exact hl)]; rfl, Below.refl _ _⟩
  have hc := vld_cases hv
  by_cases h0 : c = 0
  · subst h0
    have hfin := Lib.hid (show s = bs (bl s ++ addQ 0 (bl s)) by unfold addQ; simp; rfl)
    go_enter Tryz.func55, Tryz.ntmps55
    go_wp2_with (go_at_call 80; refine (valid_ref _ _).mono ?_; rintro e w' ⟨rfl, rfl⟩)
    go_ret2
    exact ⟨cmpR_yes hv (by omega) rfl hfin.out, Below.refl _ _⟩
  by_cases hz : s.size = 0
  · have hz0 : ((s.size : Int) == 0) = true := beq_iff_eq.2 (by omega)
    have hp := prm_nil hz h0
    have HZ := Lib.hid hz; clear hz
    go_enter Tryz.func55, Tryz.ntmps55
    go_wp2_with (go_at_call 80; refine (valid_ref _ _).mono ?_; rintro e w' ⟨rfl, rfl⟩)
    go_ret2
    exact ⟨cmpR_no hv (by omega) hp, Below.refl _ _⟩
  have hz0 : ((s.size : Int) == 0) = false := beq_eq_false_iff_ne.2 (by omega)
  rcases hc with rfl | rfl | rfl | rfl | rfl
  · exact absurd rfl h0
  · rcases hp : allF dig (bl s)
    · have hpp := (prm_at1 hz).trans hp
      go_enter Tryz.func55, Tryz.ntmps55
      go_wp2_with (first | (go_at_call 80; refine (valid_ref _ _).mono ?_; rintro e w' ⟨rfl, rfl⟩) | (go_at_call 81; refine (digits_ref _ _ (by omega)).mono ?_; rintro e w' ⟨rfl, rfl⟩))
      go_ret2
      exact ⟨cmpR_no hv (by omega) hpp, Below.refl _ _⟩
    · exact compR1 s w (by omega) hz hp
  · rcases hp : allF sgn (bl s)
    · have hpp := (prm_at2 hz).trans hp
      go_enter Tryz.func55, Tryz.ntmps55
      go_wp2_with (first | (go_at_call 80; refine (valid_ref _ _).mono ?_; rintro e w' ⟨rfl, rfl⟩) | (go_at_call 82; refine (capitals_ref _ _ (by omega)).mono ?_; rintro e w' ⟨rfl, rfl⟩))
      go_ret2
      exact ⟨cmpR_no hv (by omega) hpp, Below.refl _ _⟩
    · exact compR2 s w (by omega) hz hp
  · exact compR3 s w (by omega) hz
  · exact compR4 s w (by omega) hz
end Go.Proofs.YtklnakjmiljmhaaGreatDoor
