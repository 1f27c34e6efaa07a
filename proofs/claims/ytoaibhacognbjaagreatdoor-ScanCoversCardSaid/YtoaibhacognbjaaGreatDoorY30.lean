/- Walk: machine.Reach. · Walk: machine.Valid at a valid machine. · Walk: ref06.Valid at a valid machine. · Walk: ref06.Equal at valid machines. · Any machines: edges to any number; which are valid; a valid one as a machine. -/
import Derived.Test.YtoaibhacognbjaaGreatDoorY19
import Derived.Test.YtoaibhacognbjaaGreatDoorY29
namespace Go.Proofs.YtoaibhacognbjaaGreatDoor
set_option linter.unusedVariables false
set_option linter.unusedSimpArgs false
set_option maxRecDepth 100000
open Go.RowKit
/-- The ends at which the machine accepts, from a state and a place on. -/
def rchF (m : Mc) : List Nat → Nat → Nat → List Nat
  | [], s, k => if (m.ac[s]?).getD false = true then [k] else []
  | c :: w, s, k => (if (m.ac[s]?).getD false = true then [k] else []) ++ match trn (rowM m s) c with | none => [] | some t => rchF m w t (k + 1)
def inC (n : Nat) : List Value := [.int .i64 (n : Int)]
theorem inC_E : EncS inC 1 := ⟨by decide, fun _ => rfl, fun x u hu => by simp [inC] at hu; subst hu; rfl⟩
/-- A slice value that reads as bytes. -/
def ByIn (w : World) (v : Value) (l : List Nat) : Prop := ∃ A c, v = .slice A l.length c ∧ (l.length ≤ c ∧ c ≤ 9223372036854775807) ∧ (l = [] ∨ ∃ g f, A = some ⟨g, f, none⟩ ∧ g < w.heap.size ∧ ∀ i (h : i < l.length), w.cell? ⟨g, f + i, none⟩ = some (.int .u8 (l[i] : Int)))
theorem ByIn.later {w w' : World} {v : Value} {l : List Nat} (h : ByIn w v l) (hb : Below w.heap.size w w') : ByIn w' v l := by
  obtain ⟨A, c, e, hc, h⟩ := h
  refine ⟨A, c, e, hc, h.imp id ?_⟩
  rintro ⟨g, f, h1, hg, hcell⟩
  exact ⟨g, f, h1, Nat.lt_of_lt_of_le hg hb.size, fun i hi => (hb.cell (p := ⟨g, f + i, none⟩) hg).trans (hcell i hi)⟩
def RhPost (l : List Nat) (w : World) (e : Ending) (w' : World) : Prop := ∃ rv, e = .returned rv ∧ OR 3 1 inC w.heap.size rv l w' ∧ Below w.heap.size w w'
structure RhW (w : World) (ve va v : Value) (o : List Nat) (wr : World) : Prop where
  own : OR 3 1 inC (w.heap.size + 1) v o wr
  bel : Below w.heap.size w wr
  siz : w.heap.size + 1 ≤ wr.heap.size
  box : wr.heap[w.heap.size]? = some (.cells #[ve, va] 76 (0, 0))
theorem RhW.next {w wr w' : World} {ve va v v' : Value} {o o' : List Nat} (h : RhW w ve va v o wr) (hown : OR 3 1 inC (w.heap.size + 1) v' o' w') (hb : Below (w.heap.size + 1) wr w') : RhW w ve va v' o' w' :=
  ⟨hown, h.bel.trans (hb.mono (by omega)), Nat.le_trans h.siz hb.size, (hb.block _ (by omega)).trans h.box⟩
theorem RhW.later {w wr w' : World} {ve va v : Value} {o : List Nat} (h : RhW w ve va v o wr) (hb : Below wr.heap.size wr w') : RhW w ve va v o w' :=
  h.next (h.own.later hb) (hb.mono h.siz)
/-- Where the loop stands. -/
def RhI (m : Mc) (bs : List Nat) (R : List Nat) (o : List Nat) (sx : Int) (k : Nat) : Prop := (sx = -1 ∧ o = R) ∨ ∃ s : Nat, sx = (s : Int) ∧ s < m.ed.length ∧ k ≤ bs.length ∧ o ++ rchF m (bs.drop k) s k = R
theorem rhI_step {m : Mc} {bs R o o' : List Nat} {s k : Nat} {b : Bool} (hv : Vld m) (h : o ++ rchF m (bs.drop k) s k = R) (hb : (m.ac[s]?).getD false = b) (ho : o' = if b = true then o ++ [k] else o) :
    (bs.length ≤ k → o' = R) ∧ ∀ hk : k < bs.length, RhI m bs R o' (nxF m s bs[k]) (k + 1) := by
  constructor
  · intro hk
    rw [List.drop_eq_nil_of_le hk, rchF, hb] at h
    rw [ho, ← h]
    cases b <;> simp
  · intro hk
    rw [List.drop_eq_getElem_cons hk, rchF, hb, ← List.append_assoc] at h
    have h2 : o ++ (if b = true then [k] else []) = o' := by rw [ho]; cases b <;> simp
    rw [h2] at h
    unfold RhI nxF
    cases ht : trn (rowM m s) bs[k] with
    | none =>
      rw [ht] at h
      exact .inl ⟨rfl, by simpa using h⟩
    | some t =>
      rw [ht] at h
      exact .inr ⟨t, rfl, hv.trn_lt ht, hk, h⟩
set_option maxHeartbeats 2000000 in
theorem reach_any (v vb : Value) (m : Mc) (bs : List Nat) (i : Nat) (w : World) (hm : McIn w v m) (hv : Vld m) (hsm : McSm m) (h1 : 1 ≤ m.ed.length) (hb : ByIn w vb bs) (hbl : bs.length ≤ 900000) (hby : ∀ b ∈ bs, b < 256) (hi : i ≤ bs.length) :
    Calls Tryz.prog 85 #[v, vb, .int .i64 (i : Int)] w (RhPost (rchF m (bs.drop i) 0 i) w) := by
  obtain ⟨ve, va, rfl, he, ha⟩ := id hm
  obtain ⟨Ae, ce, rfl, hce1, hce2⟩ := he.form
  obtain ⟨Aa, ca, rfl, hca1, hca2⟩ := ha.form
  obtain ⟨Ab, cb, rfl, hcb, hbc⟩ := id hb
  obtain ⟨n, hn⟩ : ∃ n, m.ed.length = n := ⟨_, rfl⟩
  have hac : m.ac.length = n := by rw [hv.len, hn]
  obtain ⟨L, hL⟩ : ∃ n, bs.length = n := ⟨_, rfl⟩
  have hnx := fun (s c : Nat) (W : World) (h : Below w.heap.size w W) (hs : s < m.ed.length) => mnext_any _ m s c W (hm.later h) hv hsm hs
  have hnn := hsm.n
  obtain ⟨R, hR⟩ : ∃ R, rchF m (bs.drop i) 0 i = R := ⟨_, rfl⟩
  rw [hn] at hce1 hnn hnx
  rw [hac] at hca1 hnx
  rw [hL] at hcb hbl hi
  have HNX := Lib.hid hnx
  have HA := Lib.hid ha
  have HV := Lib.hid hv
  have HBC := Lib.hid hbc
  have HN := Lib.hid (And.intro hn hac)
  have HL := Lib.hid hL
  have HI0 : Hid (RhI m bs R [] 0 i) := .inr ⟨0, rfl, h1, by rw [hL]; exact hi, hR⟩
  have hW0 : RhW w (.slice Ae n ce) (.slice Aa n ca) (.slice none 0 0) [] (w.alloc (.cells #[.slice Ae n ce, .slice Aa n ca] 76)) := ⟨OR.nil_ _ _ _, (Below.refl _ _).alloc (Nat.le_refl _) _, by simp, heap_alloc_new w _⟩
  have HW0 := Lib.hid hW0
  obtain ⟨i3, hi3, hk0, hk1, hk2⟩ := info_parts info_int
  have hri : RhPost (rchF m (bs.drop i) 0 i) w = RhPost R w := by rw [hR]
  rw [hri, hn, hac, hL]
  clear hnx ha he hv hbc hn hac hL hR hW0 hm hsm hb h1 hri
  go_enter Tryz.func85, Tryz.ntmps85
  go_wp2_with fail
  go_loopg [7, 8, 9] (L + 1 - i) (fun q s7 s8 s9 wr => ∃ (sx : Int) (k : Nat) (o : List Nat), s8 = .int .i64 sx ∧ s9 = .int .i64 (k : Int) ∧ o.length ≤ k ∧ k ≤ L + 1 ∧ q = L + 1 - k ∧ Hid (RhW w (.slice Ae n ce) (.slice Aa n ca) s7 o wr) ∧ Hid (RhI m bs R o sx k))
  case atStart => exact ⟨0, i, [], rfl, rfl, by simp, by omega, rfl, HW0, HI0⟩
  case round =>
    obtain ⟨sx, k, o, rfl, rfl, hok, hkL, hq, HW, HI⟩ := hrel
    have hbx := HW.out.box
    obtain ⟨x0, x1⟩ : wr.cell? ⟨w.heap.size, 0, none⟩ = some (.slice Ae n ce) ∧ wr.cell? ⟨w.heap.size, 1, none⟩ = some (.slice Aa n ca) := by
      constructor <;> (rw [cell_of_row _ _ _ _ _ _ hbx]; rfl)
    have hwz := HW.out.siz
    have hws : w.heap.size < wr.heap.size := by omega
    obtain ⟨Ar, cr, rfl⟩ : ∃ A c, u7 = .slice A o.length c := by
      obtain ⟨A, c, e, -⟩ := own_form (show wr.ownsRow _ _ _ _ _ _ from HW.out.own)
      exact ⟨A, c, e⟩
    clear hbx
    by_cases hsx : sx = -1
    · have hd : decide ((0 : Int) ≤ -1) = false := by decide
      have HR : Hid (o = R) := by
        rcases HI.out with h | ⟨s, h, -⟩
        · exact h.2
        · omega
      subst hsx
      clear HI
      go_wp2_with fail
      go_ret
      exact ⟨_, rfl, HR.out ▸ HW.out.own.mono (by omega), HW.out.bel⟩
    · obtain ⟨s, hsx2, hsm, hkb, hRR⟩ := HI.out.resolve_left (fun h => hsx h.1)
      subst hsx2
      rw [HN.out.1] at hsm
      rw [HL.out] at hkb
      have hsn : s < n := hsm
      have hds : decide (s < n) = true := decide_eq_true hsn
      have hd : decide ((0 : Int) ≤ (s : Int)) = true := decide_eq_true (by omega)
      obtain ⟨g0, f0, rfl, -, hg0, hac0⟩ := HA.out.at_ (k := s) (by rw [HN.out.2]; exact hsn)
      obtain ⟨b, hb⟩ : ∃ b, m.ac[s]'(by rw [HN.out.2]; exact hsn) = b := ⟨_, rfl⟩
      rw [hb] at hac0
      have hbg : (m.ac[s]?).getD false = b := by rw [List.getElem?_eq_getElem (by rw [HN.out.2]; exact hsn), hb]; rfl
      have hacw := (HW.out.bel.cell (p := ⟨g0, f0 + s, none⟩) hg0).trans hac0
      have hg1 : g0 < wr.heap.size := by have := HW.out.bel.size; omega
      have HST := Lib.hid (fun o' => rhI_step (o' := o') HV.out hRR hbg)
      clear hsx hsm hRR hbg hac0 hb HI
      cases b with
      | true =>
        by_cases hkl : k < L
        · have hdk : decide (k < L) = true := decide_eq_true hkl
          have hne : decide (k = L) = false := decide_eq_false (by omega)
          have hnei : decide ((k : Int) = (L : Int)) = false := decide_eq_false (by omega)
          have hneb : (k == L) = false := by simp; omega
          have hnec : ((k : Int) == (L : Int)) = false := by simp; omega
          have hown := HW.out.own
          go_wp2_with (at_builtin; refine app_one inC_E Tryz.underlying22 hi3 hk0 hk1 hk2 rfl (by decide) _ _ _ _ o k _ (w.heap.size + 1) rfl rfl rfl rfl rfl hown (by omega) (by omega) ?_; intro v1 w1 hown1 hb1)
          have HW1 := Lib.hid (HW.out.next hown1 hb1)
          have HT := Lib.hid (HST.out (o ++ [k]) rfl)
          clear hown hown1 hb1 hacw hg1 x0 x1 hwz hws
          have hkb : k < bs.length := by rw [HL.out]; exact hkl
          obtain ⟨g, ff, rfl, hg, hcs⟩ := HBC.out.resolve_left (by intro e; rw [e] at hkb; simp at hkb)
          have hck := hcs k hkb
          obtain ⟨c, hc⟩ : ∃ c, bs[k] = c := ⟨_, rfl⟩
          rw [hc] at hck
          have hnext := HT.out.2 hkb
          rw [hc] at hnext
          have HNEXT := Lib.hid hnext
          have hbW := HW1.out.bel
          have hb1 := HW1.out.box
          have hz1 := HW1.out.siz
          have hd0 : ∀ d' : BelT w1.heap.size w1, d'.val.cell? ⟨w.heap.size, 0, none⟩ = some (.slice Ae n ce) := fun d' => by
            rw [cell_of_row _ _ _ _ _ _ ((d'.property.block w.heap.size (by omega)).trans hb1)]; rfl
          have hd1 : ∀ d' : BelT w1.heap.size w1, d'.val.cell? ⟨w.heap.size, 1, none⟩ = some (.slice (some ⟨g0, f0, none⟩) n ca) := fun d' => by
            rw [cell_of_row _ _ _ _ _ _ ((d'.property.block w.heap.size (by omega)).trans hb1)]; rfl
          have hd2 : ∀ d' : BelT w1.heap.size w1, w.heap.size < d'.val.heap.size := fun d' => by have := d'.property.size; omega
          have hd3 : ∀ d' : BelT w1.heap.size w1, d'.val.cell? ⟨g, ff + k, none⟩ = some (.int .u8 (c : Int)) := fun d' => ((hbW.trans (d'.property.mono hbW.size)).cell (p := ⟨g, ff + k, none⟩) hg).trans hck
          have hd4 : ∀ d' : BelT w1.heap.size w1, g < d'.val.heap.size := fun d' => by have := d'.property.size; have := hbW.size; omega
          have hcall : ∀ d' : BelT w1.heap.size w1, Calls Tryz.prog 116 #[.agg #[.slice Ae n ce, .slice (some ⟨g0, f0, none⟩) n ca], .int .i64 (s : Int), .int .u8 (c : Int)] d'.val fun e w' => e = .returned (.int .i64 (nxF m s c)) ∧ Below d'.val.heap.size d'.val w' := fun d' => HNX.out s c d'.val (hbW.trans (d'.property.mono hbW.size)) hsn
          obtain ⟨x, hx⟩ : ∃ x, nxF m s c = x := ⟨_, rfl⟩
          rw [hx] at hcall HNEXT
          have HCALL := Lib.hid hcall
          clear hck hcs hkb hc hnext hbW hb1 hcall hx
          refine wp_region_below (Below.refl w1.heap.size w1) (by kernel_rfl) (by kernel_rfl) ?_
          repeat (go_big_quiet_step ((go_at_call 116; exact Calls.below_of (Nat.le_refl _) (HCALL.out _))))
          refine wpQuiet_nil ?_
          intro w2 hw'
          have hw2 : Below w1.heap.size w1 w2 := by obtain ⟨d9, rfl⟩ := hw'; exact d9.property
          have HW2 := Lib.hid (HW1.out.later hw2)
          clear hw' hd0 hd1 hd2 hd3 hd4 hw2
          go_wp2_with fail
          go_roundg (L - k)
          case measure => omega
          case rel => exact ⟨x, k + 1, o ++ [k], rfl, by go_num, by (try simp); omega, by omega, by omega, HW2, HNEXT⟩
        · obtain rfl : k = L := by omega
          have hdk : decide (k < k) = false := decide_eq_false (by omega)
          have hne : decide (k = k) = true := decide_eq_true rfl
          have hnei : decide ((k : Int) = (k : Int)) = true := decide_eq_true rfl
          have hown := HW.out.own
          go_wp2_with (at_builtin; refine app_one inC_E Tryz.underlying22 hi3 hk0 hk1 hk2 rfl (by decide) _ _ _ _ o k _ (w.heap.size + 1) rfl rfl rfl rfl rfl hown (by omega) (by omega) ?_; intro v1 w1 hown1 hb1)
          have HW1 := Lib.hid (HW.out.next hown1 hb1)
          have HT := Lib.hid (HST.out (o ++ [k]) rfl)
          clear hown hown1 hb1 hacw hg1 x0 x1
          have HE := Lib.hid (HT.out.1 (Nat.le_of_eq HL.out))
          go_ret
          exact ⟨_, rfl, HE.out ▸ HW1.out.own.mono (by omega), HW1.out.bel⟩
      | false =>
        have HW1 := HW
        have HT := Lib.hid (HST.out o rfl)
        by_cases hkl : k < L
        · have hdk : decide (k < L) = true := decide_eq_true hkl
          have hne : decide (k = L) = false := decide_eq_false (by omega)
          have hnei : decide ((k : Int) = (L : Int)) = false := decide_eq_false (by omega)
          have hneb : (k == L) = false := by simp; omega
          have hnec : ((k : Int) == (L : Int)) = false := by simp; omega
          have hkb : k < bs.length := by rw [HL.out]; exact hkl
          obtain ⟨g, ff, rfl, hg, hcs⟩ := HBC.out.resolve_left (by intro e; rw [e] at hkb; simp at hkb)
          have hck := hcs k hkb
          obtain ⟨c, hc⟩ : ∃ c, bs[k] = c := ⟨_, rfl⟩
          rw [hc] at hck
          have hnext := HT.out.2 hkb
          rw [hc] at hnext
          have HNEXT := Lib.hid hnext
          have hbW := HW1.out.bel
          have hb1 := HW1.out.box
          have hz1 := HW1.out.siz
          have hd0 : ∀ d' : BelT wr.heap.size wr, d'.val.cell? ⟨w.heap.size, 0, none⟩ = some (.slice Ae n ce) := fun d' => by
            rw [cell_of_row _ _ _ _ _ _ ((d'.property.block w.heap.size (by omega)).trans hb1)]; rfl
          have hd1 : ∀ d' : BelT wr.heap.size wr, d'.val.cell? ⟨w.heap.size, 1, none⟩ = some (.slice (some ⟨g0, f0, none⟩) n ca) := fun d' => by
            rw [cell_of_row _ _ _ _ _ _ ((d'.property.block w.heap.size (by omega)).trans hb1)]; rfl
          have hd2 : ∀ d' : BelT wr.heap.size wr, w.heap.size < d'.val.heap.size := fun d' => by have := d'.property.size; omega
          have hd3 : ∀ d' : BelT wr.heap.size wr, d'.val.cell? ⟨g, ff + k, none⟩ = some (.int .u8 (c : Int)) := fun d' => ((hbW.trans (d'.property.mono hbW.size)).cell (p := ⟨g, ff + k, none⟩) hg).trans hck
          have hd4 : ∀ d' : BelT wr.heap.size wr, g < d'.val.heap.size := fun d' => by have := d'.property.size; have := hbW.size; omega
          have hcall : ∀ d' : BelT wr.heap.size wr, Calls Tryz.prog 116 #[.agg #[.slice Ae n ce, .slice (some ⟨g0, f0, none⟩) n ca], .int .i64 (s : Int), .int .u8 (c : Int)] d'.val fun e w' => e = .returned (.int .i64 (nxF m s c)) ∧ Below d'.val.heap.size d'.val w' := fun d' => HNX.out s c d'.val (hbW.trans (d'.property.mono hbW.size)) hsn
          obtain ⟨x, hx⟩ : ∃ x, nxF m s c = x := ⟨_, rfl⟩
          rw [hx] at hcall HNEXT
          have HCALL := Lib.hid hcall
          clear hck hcs hkb hc hnext hbW hb1 hcall hx
          go_wp2_with fail
          try exact absurd (show ((k : Int) == (L : Int)) = true by assumption) (by rw [hnec]; decide)
          refine wp_region_below (Below.refl wr.heap.size wr) (by kernel_rfl) (by kernel_rfl) ?_
          repeat (go_big_quiet_step ((go_at_call 116; exact Calls.below_of (Nat.le_refl _) (HCALL.out _))))
          refine wpQuiet_nil ?_
          intro w2 hw'
          have hw2 : Below wr.heap.size wr w2 := by obtain ⟨d9, rfl⟩ := hw'; exact d9.property
          have HW2 := Lib.hid (HW1.out.later hw2)
          clear hw' hd0 hd1 hd2 hd3 hd4 hw2
          go_wp2_with fail
          go_roundg (L - k)
          case measure => omega
          case rel => exact ⟨x, k + 1, o, rfl, by go_num, by (try simp); omega, by omega, by omega, HW2, HNEXT⟩
        · obtain rfl : k = L := by omega
          have hdk : decide (k < k) = false := decide_eq_false (by omega)
          have hne : decide (k = k) = true := decide_eq_true rfl
          have hnei : decide ((k : Int) = (k : Int)) = true := decide_eq_true rfl
          have HE := Lib.hid (HT.out.1 (Nat.le_of_eq HL.out))
          go_wp2_with fail
          go_ret
          exact ⟨_, rfl, HE.out ▸ HW1.out.own.mono (by omega), HW1.out.bel⟩
end Go.Proofs.YtoaibhacognbjaaGreatDoor
namespace Go.Proofs.YtoaibhacognbjaaGreatDoor
set_option linter.unusedVariables false
set_option linter.unusedSimpArgs false
set_option maxRecDepth 100000
open Go.RowKit
theorem sort_adj : ∀ {r : List Ed} {b : Nat}, SortE b r → ∀ i (hi : i < r.length), r[i].lo ≤ r[i].hi ∧ ∀ j (hj : j + 1 = i), (r[j]'(by omega)).hi < r[i].lo
  | e :: r, b, ⟨h1, h2, h3⟩, 0, _ => ⟨h2, fun j hj => by omega⟩
  | e :: r, b, ⟨h1, h2, h3⟩, i + 1, hi => by
    obtain ⟨q1, q2⟩ := sort_adj h3 i (by simpa using hi)
    refine ⟨by rw [List.getElem_cons_succ]; exact q1, fun j hj => ?_⟩
    cases j with
    | zero =>
      obtain rfl : i = 0 := by omega
      match r, h3, hi with
      | f :: r, h3, _ => exact h3.1
    | succ j =>
      rw [List.getElem_cons_succ, List.getElem_cons_succ]
      exact q2 j (by omega)
end Go.Proofs.YtoaibhacognbjaaGreatDoor
namespace Go.Proofs.YtoaibhacognbjaaGreatDoor
set_option linter.unusedVariables false
set_option linter.unusedSimpArgs false
set_option maxRecDepth 100000
open Go.RowKit
end Go.Proofs.YtoaibhacognbjaaGreatDoor
namespace Go.Proofs.YtoaibhacognbjaaGreatDoor
set_option linter.unusedVariables false
set_option linter.unusedSimpArgs false
set_option maxRecDepth 100000
open Go.RowKit
/-- Two boxes above a world. -/
structure Bx (w : World) (a b c d : Value) (wr : World) : Prop where
  bel : Below w.heap.size w wr
  siz : w.heap.size + 2 ≤ wr.heap.size
  r0 : wr.heap[w.heap.size]? = some (.cells #[a, b] 76 (0, 0))
  r1 : wr.heap[w.heap.size + 1]? = some (.cells #[c, d] 76 (0, 0))
theorem Bx.later {w wr w' : World} {a b c d : Value} (h : Bx w a b c d wr) (hb : Below wr.heap.size wr w') : Bx w a b c d w' :=
  ⟨h.bel.trans (hb.mono h.bel.size), Nat.le_trans h.siz hb.size, (hb.block _ (by have := h.siz; omega)).trans h.r0, (hb.block _ (by have := h.siz; omega)).trans h.r1⟩
theorem Bx.cells {w wr : World} {a b c d : Value} (h : Bx w a b c d wr) : wr.cell? ⟨w.heap.size, 0, none⟩ = some a ∧ wr.cell? ⟨w.heap.size, 1, none⟩ = some b ∧ wr.cell? ⟨w.heap.size + 1, 0, none⟩ = some c ∧ wr.cell? ⟨w.heap.size + 1, 1, none⟩ = some d ∧ w.heap.size < wr.heap.size ∧ w.heap.size + 1 < wr.heap.size := by
  have h1 := h.siz
  refine ⟨?_, ?_, ?_, ?_, by omega, by omega⟩
  · rw [cell_of_row _ _ _ _ _ _ h.r0]; rfl
  · rw [cell_of_row _ _ _ _ _ _ h.r0]; rfl
  · rw [cell_of_row _ _ _ _ _ _ h.r1]; rfl
  · rw [cell_of_row _ _ _ _ _ _ h.r1]; rfl
end Go.Proofs.YtoaibhacognbjaaGreatDoor
namespace Go.Proofs.YtoaibhacognbjaaGreatDoor
set_option linter.unusedVariables false
set_option linter.unusedSimpArgs false
set_option maxRecDepth 100000
open Go.RowKit
structure EdZ where
  lo : Nat
  hi : Nat
  to : Int
structure Mz where
  ed : List (List EdZ)
  ac : List Bool
/-- A slice value that reads as edges. -/
def EdInZ (w : World) (v : Value) (l : List EdZ) : Prop := ∃ A c, v = .slice A l.length c ∧ (l.length ≤ c ∧ c ≤ 9223372036854775807) ∧ (l = [] ∨ ∃ g f, A = some ⟨g, f, none⟩ ∧ g < w.heap.size ∧ ∀ i (h : i < l.length), (w.cell? ⟨g, f + i * 3, none⟩ = some (.int .u8 (l[i].lo : Int)) ∧ w.cell? ⟨g, f + i * 3 + 1, none⟩ = some (.int .u8 (l[i].hi : Int)) ∧ w.cell? ⟨g, f + i * 3 + 2, none⟩ = some (.int .i64 l[i].to)) ∧ l[i].lo < 256 ∧ l[i].hi < 256 ∧ -9223372036854775808 ≤ l[i].to ∧ l[i].to < 9223372036854775808)
def EsInZ (w : World) (v : Value) (l : List (List EdZ)) : Prop := ∃ A c, v = .slice A l.length c ∧ (l.length ≤ c ∧ c ≤ 9223372036854775807) ∧ (l = [] ∨ ∃ g f, A = some ⟨g, f, none⟩ ∧ g < w.heap.size ∧ ∀ i (h : i < l.length), ∃ rv, w.cell? ⟨g, f + i, none⟩ = some rv ∧ EdInZ w rv l[i])
def McInZ (w : World) (v : Value) (m : Mz) : Prop := ∃ ve va, v = .agg #[ve, va] ∧ EsInZ w ve m.ed ∧ BlIn w va m.ac
theorem EdInZ.later {w w' : World} {v : Value} {l : List EdZ} (h : EdInZ w v l) (hb : Below w.heap.size w w') : EdInZ w' v l := by
  obtain ⟨A, c, e, hc, h⟩ := h
  refine ⟨A, c, e, hc, h.imp id ?_⟩
  rintro ⟨g, f, h1, hg, hcell⟩
  refine ⟨g, f, h1, Nat.lt_of_lt_of_le hg hb.size, fun i hi => ?_⟩
  obtain ⟨⟨q0, q1, q2⟩, q3⟩ := hcell i hi
  exact ⟨⟨(hb.cell (p := ⟨g, f + i * 3, none⟩) hg).trans q0, (hb.cell (p := ⟨g, f + i * 3 + 1, none⟩) hg).trans q1, (hb.cell (p := ⟨g, f + i * 3 + 2, none⟩) hg).trans q2⟩, q3⟩
theorem EsInZ.later {w w' : World} {v : Value} {l : List (List EdZ)} (h : EsInZ w v l) (hb : Below w.heap.size w w') : EsInZ w' v l := by
  obtain ⟨A, c, e, hc, h⟩ := h
  refine ⟨A, c, e, hc, h.imp id ?_⟩
  rintro ⟨g, f, h1, hg, hcell⟩
  refine ⟨g, f, h1, Nat.lt_of_lt_of_le hg hb.size, fun i hi => ?_⟩
  obtain ⟨rv, h2, h3⟩ := hcell i hi
  exact ⟨rv, (hb.cell (p := ⟨g, f + i, none⟩) hg).trans h2, h3.later hb⟩
theorem McInZ.later {w w' : World} {v : Value} {m : Mz} (h : McInZ w v m) (hb : Below w.heap.size w w') : McInZ w' v m := by
  obtain ⟨ve, va, e, h1, h2⟩ := h
  exact ⟨ve, va, e, h1.later hb, h2.later hb⟩
theorem EsInZ.form {w : World} {v : Value} {l : List (List EdZ)} (h : EsInZ w v l) : ∃ A c, v = .slice A l.length c ∧ (l.length ≤ c ∧ c ≤ 9223372036854775807) := by
  obtain ⟨A, c, e, hc, -⟩ := h; exact ⟨A, c, e, hc⟩
theorem EsInZ.at_ {w : World} {A : Option Addr} {n c : Nat} {l : List (List EdZ)} (h : EsInZ w (.slice A n c) l) {k : Nat} (hk : k < l.length) : ∃ g f rv, A = some ⟨g, f, none⟩ ∧ n = l.length ∧ g < w.heap.size ∧ w.cell? ⟨g, f + k, none⟩ = some rv ∧ EdInZ w rv l[k] := by
  obtain ⟨A', c', e, hc, h⟩ := h
  injection e with e1 e2 e3
  rcases h with rfl | ⟨g, f, h1, hg, h2⟩
  · cases hk
  · obtain ⟨rv, h3, h4⟩ := h2 k hk
    exact ⟨g, f, rv, e1.trans h1, e2, hg, h3, h4⟩
theorem mcz_form {w : World} {v : Value} {m : Mz} (h : McInZ w v m) : ∃ Ae ce Aa ca, v = .agg #[.slice Ae m.ed.length ce, .slice Aa m.ac.length ca] ∧ (m.ed.length ≤ ce ∧ ce ≤ 9223372036854775807) ∧ (m.ac.length ≤ ca ∧ ca ≤ 9223372036854775807) := by
  obtain ⟨ve, va, rfl, he, ha⟩ := h
  obtain ⟨Ae, ce, rfl, h1⟩ := he.form
  obtain ⟨Aa, ca, rfl, h2⟩ := ha.form
  exact ⟨Ae, ce, Aa, ca, rfl, h1, h2⟩
/-- An edge with a number in a row is right. -/
def edOK (n : Nat) (r : List EdZ) (j : Nat) : Prop := ∀ (h : j < r.length), r[j].lo ≤ r[j].hi ∧ 0 ≤ r[j].to ∧ r[j].to < (n : Int) ∧ ∀ p (hp : p + 1 = j), (r[p]'(by omega)).hi < r[j].lo
structure VldZ (m : Mz) : Prop where
  n1 : 1 ≤ m.ed.length
  n2 : m.ed.length ≤ 2000
  ac : m.ac.length = m.ed.length
  row : ∀ k (h : k < m.ed.length), ∀ j, j < m.ed[k].length → edOK m.ed.length m.ed[k] j
noncomputable def vldZ (m : Mz) : Bool := @decide (VldZ m) (Classical.propDecidable _)
theorem vldZ_true {m : Mz} (h : VldZ m) : vldZ m = true := by unfold vldZ; exact @decide_eq_true _ (Classical.propDecidable _) h
theorem vldZ_false {m : Mz} (h : ¬ VldZ m) : vldZ m = false := by unfold vldZ; exact @decide_eq_false _ (Classical.propDecidable _) h
theorem vldZ_iff {m : Mz} : vldZ m = true ↔ VldZ m := by
  constructor
  · intro h
    by_cases hv : VldZ m
    · exact hv
    · rw [vldZ_false hv] at h; cases h
  · exact vldZ_true
/-- A valid one as a machine. -/
def cvE (e : EdZ) : Ed := ⟨e.lo, e.hi, e.to.toNat⟩
def cvM (m : Mz) : Mc := ⟨m.ed.map (·.map cvE), m.ac⟩
theorem sort_of_adj : ∀ {r : List Ed} {b : Nat}, (∀ (h : 0 < r.length), b ≤ r[0].lo) → (∀ i (hi : i < r.length), r[i].lo ≤ r[i].hi ∧ ∀ j (hj : j + 1 = i), (r[j]'(by omega)).hi < r[i].lo) → SortE b r
  | [], b, _, _ => trivial
  | e :: r, b, h0, h => by
    refine ⟨h0 (by simp), (h 0 (by simp)).1, sort_of_adj (fun hl => ?_) fun i hi => ⟨?_, fun j hj => ?_⟩⟩
    · exact (h 1 (by simpa using hl)).2 0 rfl
    · exact (h (i + 1) (by simpa using hi)).1
    · exact (h (i + 1) (by simpa using hi)).2 (j + 1) (by omega)
theorem VldZ.vld {m : Mz} (h : VldZ m) : Vld (cvM m) := by
  have hl : (cvM m).ed.length = m.ed.length := by simp [cvM]
  refine ⟨by rw [hl]; exact h.ac, fun r hr => ?_, fun r hr e he => ?_⟩
  · obtain ⟨r', hr', rfl⟩ := List.mem_map.1 hr
    obtain ⟨k, hk, rfl⟩ := List.getElem_of_mem hr'
    refine sort_of_adj (fun _ => Nat.zero_le _) fun i hi => ?_
    have hi' : i < m.ed[k].length := by simpa using hi
    have q := h.row k hk i hi' hi'
    refine ⟨by simpa [cvE] using q.1, fun j hj => by simpa [cvE] using q.2.2.2 j hj⟩
  · obtain ⟨r', hr', rfl⟩ := List.mem_map.1 hr
    obtain ⟨k, hk, rfl⟩ := List.getElem_of_mem hr'
    obtain ⟨e', he', rfl⟩ := List.mem_map.1 he
    obtain ⟨i, hi, rfl⟩ := List.getElem_of_mem he'
    have q := h.row k hk i hi hi
    rw [hl]
    show (m.ed[k][i]).to.toNat < _
    omega
theorem McInZ.cv {w : World} {v : Value} {m : Mz} (h : McInZ w v m) (hv : VldZ m) : McIn w v (cvM m) := by
  obtain ⟨ve, va, rfl, ⟨A, c, rfl, hc, h1⟩, h2⟩ := h
  refine ⟨_, va, rfl, ⟨A, c, by simp [cvM], by simpa [cvM] using hc, ?_⟩, h2⟩
  rcases h1 with h1 | ⟨g, f, rfl, hg, hcell⟩
  · exact .inl (by simp [cvM, h1])
  · refine .inr ⟨g, f, rfl, hg, fun i hi => ?_⟩
    have hi' : i < m.ed.length := by simpa [cvM] using hi
    obtain ⟨rv, q1, A', c', rfl, hc', q2⟩ := hcell i hi'
    have he : (cvM m).ed[i] = m.ed[i].map cvE := by simp [cvM]
    refine ⟨_, q1, ?_⟩
    rw [he]
    refine ⟨A', c', by rw [List.length_map], by rw [List.length_map]; exact hc', ?_⟩
    rcases q2 with q2 | ⟨g2, f2, rfl, hg2, q3⟩
    · exact .inl (by simp [q2])
    · refine .inr ⟨g2, f2, rfl, hg2, fun j hj => ?_⟩
      have hj' : j < m.ed[i].length := by simpa using hj
      obtain ⟨⟨p0, p1, p2⟩, -⟩ := q3 j hj'
      have hto := (hv.row i hi' j hj' hj').2.1
      rw [List.getElem_map]
      refine ⟨p0, p1, ?_⟩
      rw [p2]
      show some (Value.int .i64 _) = some (.int .i64 ((m.ed[i][j].to.toNat : Nat) : Int))
      rw [Int.toNat_of_nonneg hto]
theorem McInZ.sm {w : World} {v : Value} {m : Mz} (h : McInZ w v m) (hl : m.ed.length ≤ 2000) (hr : ∀ r ∈ m.ed, r.length ≤ 10000) : McSm (cvM m) := by
  obtain ⟨ve, va, rfl, ⟨A, c, rfl, hc, h1⟩, h2⟩ := h
  refine ⟨fun r hr0 e he => ?_, fun r hr0 => ?_, by simp [cvM]; omega⟩
  · obtain ⟨r', hr', rfl⟩ := List.mem_map.1 hr0
    obtain ⟨k, hk, rfl⟩ := List.getElem_of_mem hr'
    obtain ⟨e', he', rfl⟩ := List.mem_map.1 he
    obtain ⟨i, hi, rfl⟩ := List.getElem_of_mem he'
    rcases h1 with h1 | ⟨g, f, rfl, hg, hcell⟩
    · rw [h1] at hk; exact absurd hk (Nat.not_lt_zero _)
    · obtain ⟨rv, q1, A', c', rfl, hc', q2⟩ := hcell k hk
      rcases q2 with q2 | ⟨g2, f2, rfl, hg2, q3⟩
      · rw [q2] at hi; exact absurd hi (Nat.not_lt_zero _)
      · obtain ⟨-, p1, p2, -⟩ := q3 i hi
        exact ⟨p1, p2⟩
  · obtain ⟨r', hr', rfl⟩ := List.mem_map.1 hr0
    rw [List.length_map]; exact hr r' hr'
end Go.Proofs.YtoaibhacognbjaaGreatDoor
