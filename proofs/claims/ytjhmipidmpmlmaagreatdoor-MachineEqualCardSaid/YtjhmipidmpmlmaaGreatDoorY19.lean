/- Walk: machine.Reach. · Walk: machine.Valid at a valid machine. · Walk: ref06.Valid at a valid machine. · Walk: ref06.Equal at valid machines. · Walk: ref06.Same at valid machines. · Walks: machine.least. Conditions: what machine.classes answers, as laid. · Walks: the reader of patterns at one text: its set. · Rows of bytes in which one byte is changed; a row of bytes as a slice that reads. -/
import Derived.Test.YtjhmipidmpmlmaaGreatDoorY15
import Derived.Test.YtjhmipidmpmlmaaGreatDoorY18
import Derived.Test.YtjhmipidmpmlmaaGreatDoorY05
import Derived.Test.YtjhmipidmpmlmaaGreatDoorY14
import Derived.Test.YtjhmipidmpmlmaaGreatDoorY03
namespace Go.Proofs.YtjhmipidmpmlmaaGreatDoor
set_option linter.unusedVariables false
set_option linter.unusedSimpArgs false
set_option maxRecDepth 100000
open Go.RowKit
/-- The ends at which the machine accepts, from a state and a place on. -/
def rchF (m : Mc) : List Nat → Nat → Nat → List Nat
  | [], s, k => if (m.ac[s]?).getD false = true then [k] else []
  | c :: w, s, k => (if (m.ac[s]?).getD false = true then [k] else []) ++ match trn (rowM m s) c with | none => [] | some t => rchF m w t (k + 1)
def inC (n : Nat) : List Value := [.int .i64 (n : Int)]
theorem inC_E : EncS inC 1 := ⟨by decide, fun _ => rfl, fun x u hu => by simp [inC] at hu; subst hu; rfl⟩
/-- A slice value that reads as bytes. -/
def ByIn (w : World) (v : Value) (l : List Nat) : Prop := ∃ A c, v = .slice A l.length c ∧ (l.length ≤ c ∧ c ≤ 9223372036854775807) ∧ (l = [] ∨ ∃ g f, A = some ⟨g, f, none⟩ ∧ g < w.heap.size ∧ ∀ i (h : i < l.length), w.cell? ⟨g, f + i, none⟩ = some (.int .u8 (l[i] : Int)))
theorem ByIn.later {w w' : World} {v : Value} {l : List Nat} (h : ByIn w v l) (hb : Below w.heap.size w w') : ByIn w' v l := by
  obtain ⟨A, c, e, hc, h⟩ := h
  refine ⟨A, c, e, hc, h.imp id ?_⟩
  rintro ⟨g, f, h1, hg, hcell⟩
  exact ⟨g, f, h1, Nat.lt_of_lt_of_le hg hb.size, fun i hi => (hb.cell (p := ⟨g, f + i, none⟩) hg).trans (hcell i hi)⟩
def RhPost (l : List Nat) (w : World) (e : Ending) (w' : World) : Prop := ∃ rv, e = .returned rv ∧ OR 3 1 inC w.heap.size rv l w' ∧ Below w.heap.size w w'
structure RhW (w : World) (ve va v : Value) (o : List Nat) (wr : World) : Prop where
  own : OR 3 1 inC (w.heap.size + 1) v o wr
  bel : Below w.heap.size w wr
  siz : w.heap.size + 1 ≤ wr.heap.size
  box : wr.heap[w.heap.size]? = some (.cells #[ve, va] 34 (0, 0))
theorem RhW.next {w wr w' : World} {ve va v v' : Value} {o o' : List Nat} (h : RhW w ve va v o wr) (hown : OR 3 1 inC (w.heap.size + 1) v' o' w') (hb : Below (w.heap.size + 1) wr w') : RhW w ve va v' o' w' :=
  ⟨hown, h.bel.trans (hb.mono (by omega)), Nat.le_trans h.siz hb.size, (hb.block _ (by omega)).trans h.box⟩
theorem RhW.later {w wr w' : World} {ve va v : Value} {o : List Nat} (h : RhW w ve va v o wr) (hb : Below wr.heap.size wr w') : RhW w ve va v o w' :=
  h.next (h.own.later hb) (hb.mono h.siz)
/-- Where the loop stands. -/
def RhI (m : Mc) (bs : List Nat) (R : List Nat) (o : List Nat) (sx : Int) (k : Nat) : Prop := (sx = -1 ∧ o = R) ∨ ∃ s : Nat, sx = (s : Int) ∧ s < m.ed.length ∧ k ≤ bs.length ∧ o ++ rchF m (bs.drop k) s k = R
theorem rhI_step {m : Mc} {bs R o o' : List Nat} {s k : Nat} {b : Bool} (hv : Vld m) (h : o ++ rchF m (bs.drop k) s k = R) (hb : (m.ac[s]?).getD false = b) (ho : o' = if b = true then o ++ [k] else o) :
    (bs.length ≤ k → o' = R) ∧ ∀ hk : k < bs.length, RhI m bs R o' (nxF m s bs[k]) (k + 1) := by
  constructor
  · intro hk
    rw [List.drop_eq_nil_of_le hk, rchF, hb] at h
    rw [ho, ← h]
    cases b <;> simp
  · intro hk
    rw [List.drop_eq_getElem_cons hk, rchF, hb, ← List.append_assoc] at h
    have h2 : o ++ (if b = true then [k] else []) = o' := by rw [ho]; cases b <;> simp
    rw [h2] at h
    unfold RhI nxF
    cases ht : trn (rowM m s) bs[k] with
    | none =>
      rw [ht] at h
      exact .inl ⟨rfl, by simpa using h⟩
    | some t =>
      rw [ht] at h
      exact .inr ⟨t, rfl, hv.trn_lt ht, hk, h⟩
set_option maxHeartbeats 2000000 in
theorem reach_any (v vb : Value) (m : Mc) (bs : List Nat) (i : Nat) (w : World) (hm : McIn w v m) (hv : Vld m) (hsm : McSm m) (h1 : 1 ≤ m.ed.length) (hb : ByIn w vb bs) (hbl : bs.length ≤ 900000) (hby : ∀ b ∈ bs, b < 256) (hi : i ≤ bs.length) :
    Calls Tryz.prog 51 #[v, vb, .int .i64 (i : Int)] w (RhPost (rchF m (bs.drop i) 0 i) w) := by
  obtain ⟨ve, va, rfl, he, ha⟩ := id hm
  obtain ⟨Ae, ce, rfl, hce1, hce2⟩ := he.form
  obtain ⟨Aa, ca, rfl, hca1, hca2⟩ := ha.form
  obtain ⟨Ab, cb, rfl, hcb, hbc⟩ := id hb
  obtain ⟨n, hn⟩ : ∃ n, m.ed.length = n := ⟨_, rfl⟩
  have hac : m.ac.length = n := by rw [hv.len, hn]
  obtain ⟨L, hL⟩ : ∃ n, bs.length = n := ⟨_, rfl⟩
  have hnx := fun (s c : Nat) (W : World) (h : Below w.heap.size w W) (hs : s < m.ed.length) => mnext_any _ m s c W (hm.later h) hv hsm hs
  have hnn := hsm.n
  obtain ⟨R, hR⟩ : ∃ R, rchF m (bs.drop i) 0 i = R := ⟨_, rfl⟩
  rw [hn] at hce1 hnn hnx
  rw [hac] at hca1 hnx
  rw [hL] at hcb hbl hi
  have HNX := Lib.hid hnx
  have HA := Lib.hid ha
  have HV := Lib.hid hv
  have HBC := Lib.hid hbc
  have HN := Lib.hid (And.intro hn hac)
  have HL := Lib.hid hL
  have HI0 : Hid (RhI m bs R [] 0 i) := .inr ⟨0, rfl, h1, by rw [hL]; exact hi, hR⟩
  have hW0 : RhW w (.slice Ae n ce) (.slice Aa n ca) (.slice none 0 0) [] (w.alloc (.cells #[.slice Ae n ce, .slice Aa n ca] 34)) := ⟨OR.nil_ _ _ _, (Below.refl _ _).alloc (Nat.le_refl _) _, by simp, heap_alloc_new w _⟩
  have HW0 := Lib.hid hW0
  obtain ⟨i3, hi3, hk0, hk1, hk2⟩ := info_parts info_int
  have hri : RhPost (rchF m (bs.drop i) 0 i) w = RhPost R w := by rw [hR]
  rw [hri, hn, hac, hL]
  clear hnx ha he hv hbc hn hac hL hR hW0 hm hsm hb h1 hri
  go_enter Tryz.func51, Tryz.ntmps51
  go_wp2_with fail
  go_loopg [7, 8, 9] (L + 1 - i) (fun q s7 s8 s9 wr => ∃ (sx : Int) (k : Nat) (o : List Nat), s8 = .int .i64 sx ∧ s9 = .int .i64 (k : Int) ∧ o.length ≤ k ∧ k ≤ L + 1 ∧ q = L + 1 - k ∧ Hid (RhW w (.slice Ae n ce) (.slice Aa n ca) s7 o wr) ∧ Hid (RhI m bs R o sx k))
  case atStart => exact ⟨0, i, [], rfl, rfl, by simp, by omega, rfl, HW0, HI0⟩
  case round =>
    obtain ⟨sx, k, o, rfl, rfl, hok, hkL, hq, HW, HI⟩ := hrel
    have hbx := HW.out.box
    obtain ⟨x0, x1⟩ : wr.cell? ⟨w.heap.size, 0, none⟩ = some (.slice Ae n ce) ∧ wr.cell? ⟨w.heap.size, 1, none⟩ = some (.slice Aa n ca) := by
      constructor <;> (rw [cell_of_row _ _ _ _ _ _ hbx]; rfl)
    have hwz := HW.out.siz
    have hws : w.heap.size < wr.heap.size := by omega
    obtain ⟨Ar, cr, rfl⟩ : ∃ A c, u7 = .slice A o.length c := by
      obtain ⟨A, c, e, -⟩ := own_form (show wr.ownsRow _ _ _ _ _ _ from HW.out.own)
      exact ⟨A, c, e⟩
    clear hbx
    by_cases hsx : sx = -1
    · have hd : decide ((0 : Int) ≤ -1) = false := by decide
      have HR : Hid (o = R) := by
        rcases HI.out with h | ⟨s, h, -⟩
        · exact h.2
        · omega
      subst hsx
      clear HI
      go_wp2_with fail
      go_ret
      exact ⟨_, rfl, HR.out ▸ HW.out.own.mono (by omega), HW.out.bel⟩
    · obtain ⟨s, hsx2, hsm, hkb, hRR⟩ := HI.out.resolve_left (fun h => hsx h.1)
      subst hsx2
      rw [HN.out.1] at hsm
      rw [HL.out] at hkb
      have hsn : s < n := hsm
      have hds : decide (s < n) = true := decide_eq_true hsn
      have hd : decide ((0 : Int) ≤ (s : Int)) = true := decide_eq_true (by omega)
      obtain ⟨g0, f0, rfl, -, hg0, hac0⟩ := HA.out.at_ (k := s) (by rw [HN.out.2]; exact hsn)
      obtain ⟨b, hb⟩ : ∃ b, m.ac[s]'(by rw [HN.out.2]; exact hsn) = b := ⟨_, rfl⟩
      rw [hb] at hac0
      have hbg : (m.ac[s]?).getD false = b := by rw [List.getElem?_eq_getElem (by rw [HN.out.2]; exact hsn), hb]; rfl
      have hacw := (HW.out.bel.cell (p := ⟨g0, f0 + s, none⟩) hg0).trans hac0
      have hg1 : g0 < wr.heap.size := by have := HW.out.bel.size; omega
      have HST := Lib.hid (fun o' => rhI_step (o' := o') HV.out hRR hbg)
      clear hsx hsm hRR hbg hac0 hb HI
      cases b with
      | true =>
        by_cases hkl : k < L
        · have hdk : decide (k < L) = true := decide_eq_true hkl
          have hne : decide (k = L) = false := decide_eq_false (by omega)
          have hnei : decide ((k : Int) = (L : Int)) = false := decide_eq_false (by omega)
          have hneb : (k == L) = false := by simp; omega
          have hnec : ((k : Int) == (L : Int)) = false := by simp; omega
          have hown := HW.out.own
          go_wp2_with (at_builtin; refine app_one inC_E Tryz.underlying22 hi3 hk0 hk1 hk2 rfl (by decide) _ _ _ _ o k _ (w.heap.size + 1) rfl rfl rfl rfl rfl hown (by omega) (by omega) ?_; intro v1 w1 hown1 hb1)
          have HW1 := Lib.hid (HW.out.next hown1 hb1)
          have HT := Lib.hid (HST.out (o ++ [k]) rfl)
          clear hown hown1 hb1 hacw hg1 x0 x1 hwz hws
          have hkb : k < bs.length := by rw [HL.out]; exact hkl
          obtain ⟨g, ff, rfl, hg, hcs⟩ := HBC.out.resolve_left (by intro e; rw [e] at hkb; simp at hkb)
          have hck := hcs k hkb
          obtain ⟨c, hc⟩ : ∃ c, bs[k] = c := ⟨_, rfl⟩
          rw [hc] at hck
          have hnext := HT.out.2 hkb
          rw [hc] at hnext
          have HNEXT := Lib.hid hnext
          have hbW := HW1.out.bel
          have hb1 := HW1.out.box
          have hz1 := HW1.out.siz
          have hd0 : ∀ d' : BelT w1.heap.size w1, d'.val.cell? ⟨w.heap.size, 0, none⟩ = some (.slice Ae n ce) := fun d' => by
            rw [cell_of_row _ _ _ _ _ _ ((d'.property.block w.heap.size (by omega)).trans hb1)]; rfl
          have hd1 : ∀ d' : BelT w1.heap.size w1, d'.val.cell? ⟨w.heap.size, 1, none⟩ = some (.slice (some ⟨g0, f0, none⟩) n ca) := fun d' => by
            rw [cell_of_row _ _ _ _ _ _ ((d'.property.block w.heap.size (by omega)).trans hb1)]; rfl
          have hd2 : ∀ d' : BelT w1.heap.size w1, w.heap.size < d'.val.heap.size := fun d' => by have := d'.property.size; omega
          have hd3 : ∀ d' : BelT w1.heap.size w1, d'.val.cell? ⟨g, ff + k, none⟩ = some (.int .u8 (c : Int)) := fun d' => ((hbW.trans (d'.property.mono hbW.size)).cell (p := ⟨g, ff + k, none⟩) hg).trans hck
          have hd4 : ∀ d' : BelT w1.heap.size w1, g < d'.val.heap.size := fun d' => by have := d'.property.size; have := hbW.size; omega
          have hcall : ∀ d' : BelT w1.heap.size w1, Calls Tryz.prog 81 #[.agg #[.slice Ae n ce, .slice (some ⟨g0, f0, none⟩) n ca], .int .i64 (s : Int), .int .u8 (c : Int)] d'.val fun e w' => e = .returned (.int .i64 (nxF m s c)) ∧ Below d'.val.heap.size d'.val w' := fun d' => HNX.out s c d'.val (hbW.trans (d'.property.mono hbW.size)) hsn
          obtain ⟨x, hx⟩ : ∃ x, nxF m s c = x := ⟨_, rfl⟩
          rw [hx] at hcall HNEXT
          have HCALL := Lib.hid hcall
          clear hck hcs hkb hc hnext hbW hb1 hcall hx
          refine wp_region_below (Below.refl w1.heap.size w1) (by kernel_rfl) (by kernel_rfl) ?_
          repeat (go_big_quiet_step ((go_at_call 81; exact Calls.below_of (Nat.le_refl _) (HCALL.out _))))
          refine wpQuiet_nil ?_
          intro w2 hw'
          have hw2 : Below w1.heap.size w1 w2 := by obtain ⟨d9, rfl⟩ := hw'; exact d9.property
          have HW2 := Lib.hid (HW1.out.later hw2)
          clear hw' hd0 hd1 hd2 hd3 hd4 hw2
          go_wp2_with fail
          go_roundg (L - k)
          case measure => omega
          case rel => exact ⟨x, k + 1, o ++ [k], rfl, by go_num, by (try simp); omega, by omega, by omega, HW2, HNEXT⟩
        · obtain rfl : k = L := by omega
          have hdk : decide (k < k) = false := decide_eq_false (by omega)
          have hne : decide (k = k) = true := decide_eq_true rfl
          have hnei : decide ((k : Int) = (k : Int)) = true := decide_eq_true rfl
          have hown := HW.out.own
          go_wp2_with (at_builtin; refine app_one inC_E Tryz.underlying22 hi3 hk0 hk1 hk2 rfl (by decide) _ _ _ _ o k _ (w.heap.size + 1) rfl rfl rfl rfl rfl hown (by omega) (by omega) ?_; intro v1 w1 hown1 hb1)
          have HW1 := Lib.hid (HW.out.next hown1 hb1)
          have HT := Lib.hid (HST.out (o ++ [k]) rfl)
          clear hown hown1 hb1 hacw hg1 x0 x1
          have HE := Lib.hid (HT.out.1 (Nat.le_of_eq HL.out))
          go_ret
          exact ⟨_, rfl, HE.out ▸ HW1.out.own.mono (by omega), HW1.out.bel⟩
      | false =>
        have HW1 := HW
        have HT := Lib.hid (HST.out o rfl)
        by_cases hkl : k < L
        · have hdk : decide (k < L) = true := decide_eq_true hkl
          have hne : decide (k = L) = false := decide_eq_false (by omega)
          have hnei : decide ((k : Int) = (L : Int)) = false := decide_eq_false (by omega)
          have hneb : (k == L) = false := by simp; omega
          have hnec : ((k : Int) == (L : Int)) = false := by simp; omega
          have hkb : k < bs.length := by rw [HL.out]; exact hkl
          obtain ⟨g, ff, rfl, hg, hcs⟩ := HBC.out.resolve_left (by intro e; rw [e] at hkb; simp at hkb)
          have hck := hcs k hkb
          obtain ⟨c, hc⟩ : ∃ c, bs[k] = c := ⟨_, rfl⟩
          rw [hc] at hck
          have hnext := HT.out.2 hkb
          rw [hc] at hnext
          have HNEXT := Lib.hid hnext
          have hbW := HW1.out.bel
          have hb1 := HW1.out.box
          have hz1 := HW1.out.siz
          have hd0 : ∀ d' : BelT wr.heap.size wr, d'.val.cell? ⟨w.heap.size, 0, none⟩ = some (.slice Ae n ce) := fun d' => by
            rw [cell_of_row _ _ _ _ _ _ ((d'.property.block w.heap.size (by omega)).trans hb1)]; rfl
          have hd1 : ∀ d' : BelT wr.heap.size wr, d'.val.cell? ⟨w.heap.size, 1, none⟩ = some (.slice (some ⟨g0, f0, none⟩) n ca) := fun d' => by
            rw [cell_of_row _ _ _ _ _ _ ((d'.property.block w.heap.size (by omega)).trans hb1)]; rfl
          have hd2 : ∀ d' : BelT wr.heap.size wr, w.heap.size < d'.val.heap.size := fun d' => by have := d'.property.size; omega
          have hd3 : ∀ d' : BelT wr.heap.size wr, d'.val.cell? ⟨g, ff + k, none⟩ = some (.int .u8 (c : Int)) := fun d' => ((hbW.trans (d'.property.mono hbW.size)).cell (p := ⟨g, ff + k, none⟩) hg).trans hck
          have hd4 : ∀ d' : BelT wr.heap.size wr, g < d'.val.heap.size := fun d' => by have := d'.property.size; have := hbW.size; omega
          have hcall : ∀ d' : BelT wr.heap.size wr, Calls Tryz.prog 81 #[.agg #[.slice Ae n ce, .slice (some ⟨g0, f0, none⟩) n ca], .int .i64 (s : Int), .int .u8 (c : Int)] d'.val fun e w' => e = .returned (.int .i64 (nxF m s c)) ∧ Below d'.val.heap.size d'.val w' := fun d' => HNX.out s c d'.val (hbW.trans (d'.property.mono hbW.size)) hsn
          obtain ⟨x, hx⟩ : ∃ x, nxF m s c = x := ⟨_, rfl⟩
          rw [hx] at hcall HNEXT
          have HCALL := Lib.hid hcall
          clear hck hcs hkb hc hnext hbW hb1 hcall hx
          go_wp2_with fail
          try exact absurd (show ((k : Int) == (L : Int)) = true by assumption) (by rw [hnec]; decide)
          refine wp_region_below (Below.refl wr.heap.size wr) (by kernel_rfl) (by kernel_rfl) ?_
          repeat (go_big_quiet_step ((go_at_call 81; exact Calls.below_of (Nat.le_refl _) (HCALL.out _))))
          refine wpQuiet_nil ?_
          intro w2 hw'
          have hw2 : Below wr.heap.size wr w2 := by obtain ⟨d9, rfl⟩ := hw'; exact d9.property
          have HW2 := Lib.hid (HW1.out.later hw2)
          clear hw' hd0 hd1 hd2 hd3 hd4 hw2
          go_wp2_with fail
          go_roundg (L - k)
          case measure => omega
          case rel => exact ⟨x, k + 1, o, rfl, by go_num, by (try simp); omega, by omega, by omega, HW2, HNEXT⟩
        · obtain rfl : k = L := by omega
          have hdk : decide (k < k) = false := decide_eq_false (by omega)
          have hne : decide (k = k) = true := decide_eq_true rfl
          have hnei : decide ((k : Int) = (k : Int)) = true := decide_eq_true rfl
          have HE := Lib.hid (HT.out.1 (Nat.le_of_eq HL.out))
          go_wp2_with fail
          go_ret
          exact ⟨_, rfl, HE.out ▸ HW1.out.own.mono (by omega), HW1.out.bel⟩
end Go.Proofs.YtjhmipidmpmlmaaGreatDoor
namespace Go.Proofs.YtjhmipidmpmlmaaGreatDoor
set_option linter.unusedVariables false
set_option linter.unusedSimpArgs false
set_option maxRecDepth 100000
open Go.RowKit
theorem sort_adj : ∀ {r : List Ed} {b : Nat}, SortE b r → ∀ i (hi : i < r.length), r[i].lo ≤ r[i].hi ∧ ∀ j (hj : j + 1 = i), (r[j]'(by omega)).hi < r[i].lo
  | e :: r, b, ⟨h1, h2, h3⟩, 0, _ => ⟨h2, fun j hj => by omega⟩
  | e :: r, b, ⟨h1, h2, h3⟩, i + 1, hi => by
    obtain ⟨q1, q2⟩ := sort_adj h3 i (by simpa using hi)
    refine ⟨by rw [List.getElem_cons_succ]; exact q1, fun j hj => ?_⟩
    cases j with
    | zero =>
      obtain rfl : i = 0 := by omega
      match r, h3, hi with
      | f :: r, h3, _ => exact h3.1
    | succ j =>
      rw [List.getElem_cons_succ, List.getElem_cons_succ]
      exact q2 j (by omega)
set_option maxHeartbeats 2000000 in
theorem mvalid_any (v : Value) (m : Mc) (w : World) (hm : McIn w v m) (hv : Vld m) (hsm : McSm m) (h1 : 1 ≤ m.ed.length) (h2 : m.ed.length ≤ 2000) :
    Calls Tryz.prog 27 #[v] w fun e w' => e = .returned (.bool true) ∧ Below w.heap.size w w' := by
  obtain ⟨ve, va, rfl, he, ha⟩ := id hm
  obtain ⟨Ae, ce, rfl, hce1, hce2⟩ := he.form
  obtain ⟨Aa, ca, rfl, hca1, hca2⟩ := ha.form
  obtain ⟨n, hn⟩ : ∃ n, m.ed.length = n := ⟨_, rfl⟩
  have hac : m.ac.length = n := by rw [hv.len, hn]
  have HE := Lib.hid he
  have HV := Lib.hid hv
  have HS := Lib.hid hsm
  have HN := Lib.hid (And.intro hn hac)
  rw [hn] at hce1 h1 h2
  rw [hac] at hca1
  rw [hn, hac]
  have hb0 : Below w.heap.size w (w.alloc (.cells #[.slice Ae n ce, .slice Aa n ca] 34)) := (Below.refl _ _).alloc (Nat.le_refl _) _
  have HB0 := Lib.hid hb0
  clear he ha hv hsm hn hac hm hb0
  have hd1 : decide (n < 1) = false := decide_eq_false (by omega)
  have hd1i : decide ((n : Int) < 1) = false := decide_eq_false (by omega)
  have hd2 : decide (2000 < n) = false := decide_eq_false (by omega)
  have hd2i : decide (2000 < (n : Int)) = false := decide_eq_false (by omega)
  go_enter Tryz.func27, Tryz.ntmps27
  go_wp2_with fail
  go_loopw [27] (fun v wr => ∃ k : Nat, k ≤ n ∧ v = .int .i64 (k : Int) ∧ Hid (Below w.heap.size w wr)) (fun v _ => n - (intOf v).toNat)
  case atStart => exact ⟨0, by omega, rfl, HB0⟩
  case round =>
    obtain ⟨k, hk, rfl, HB⟩ := hrel
    by_cases hlt : k < n
    · have hd : decide ((k : Int) < (n : Int)) = true := decide_eq_true (by omega)
      have hdn : decide (k < n) = true := decide_eq_true hlt
      have hkm : k < m.ed.length := by rw [HN.out.1]; exact hlt
      obtain ⟨g, f, rv, rfl, -, hg, hcE, hed⟩ := HE.out.at_ hkm
      have hcE2 := (HB.out.cell (p := ⟨g, f + k, none⟩) hg).trans hcE
      obtain ⟨row, hrow⟩ : ∃ r, m.ed[k] = r := ⟨_, rfl⟩
      rw [hrow] at hed
      have hsr : SortE 0 row := by rw [← hrow]; exact HV.out.srt _ (List.getElem_mem hkm)
      have hto : ∀ e ∈ row, e.to < n := fun e he => by rw [← HN.out.1]; exact HV.out.to _ (by rw [← hrow]; exact List.getElem_mem hkm) e he
      have hrl : row.length ≤ 10000 := HS.out.rl _ (by rw [← hrow]; exact List.getElem_mem hkm)
      obtain ⟨Ar, cr, rfl, hrc, hrcell⟩ := hed
      obtain ⟨L, hL⟩ : ∃ L, row.length = L := ⟨_, rfl⟩
      rw [hL] at hrc hcE hcE2 hrl
      have HR := Lib.hid (And.intro hsr (And.intro hto hL))
      have HRC := Lib.hid hrcell
      have hgw : g < wr.heap.size := by have := HB.out.size; omega
      clear hsr hto hL hrcell hrow hkm hcE
      go_wp2_with fail
      go_loopw [33] (fun v wr => ∃ j : Nat, j ≤ L ∧ v = .int .i64 (j : Int) ∧ Hid (Below w.heap.size w wr)) (fun v _ => L - (intOf v).toNat)
      case atStart => exact ⟨0, by omega, rfl, HB⟩
      case round =>
        obtain ⟨j, hj, rfl, HB2⟩ := hrel
        by_cases hjl : j < L
        · have hdj : decide ((j : Int) < (L : Int)) = true := decide_eq_true (by omega)
          have hdjn : decide (j < L) = true := decide_eq_true hjl
          have hjm : j < row.length := by rw [HR.out.2.2]; exact hjl
          obtain ⟨g2, f2, rfl, hg2, hcs⟩ := HRC.out.resolve_left (by intro e; rw [e] at hjm; simp at hjm)
          obtain ⟨p0, p1, p2⟩ := hcs j hjm
          obtain ⟨⟨lo, hi, to⟩, he⟩ : ∃ e, row[j] = e := ⟨_, rfl⟩
          have hlh := (sort_adj HR.out.1 j hjm).1
          have hprev := (sort_adj HR.out.1 j hjm).2
          have hto := HR.out.2.1 _ (List.getElem_mem hjm)
          rw [he] at p0 p1 p2 hlh hprev hto
          simp only at hlh hprev hto p0 p1 p2
          have q0 := (HB2.out.cell (p := ⟨g2, f2 + j * 3, none⟩) hg2).trans p0
          have q1 := (HB2.out.cell (p := ⟨g2, f2 + j * 3 + 1, none⟩) hg2).trans p1
          have q2 := (HB2.out.cell (p := ⟨g2, f2 + j * 3 + 2, none⟩) hg2).trans p2
          have hgw2 : g2 < wr.heap.size := by have := HB2.out.size; omega
          have HP := Lib.hid (And.intro hlh (And.intro hprev hto))
          have HCS := Lib.hid hcs
          clear p0 p1 p2 hlh hprev hto hcs he
          go_wp2_with fail
          refine wp_named fun W hW => ?_
          have hbW : Below wr.heap.size wr W := by rw [hW]; exact (Below.refl _ _).alloc (Nat.le_refl _) _
          have hrow : W.heap[wr.heap.size]? = some (.cells #[.int .u8 (lo : Int), .int .u8 (hi : Int), .int .i64 (to : Int)] 58 (0, 0)) := by rw [hW]; exact heap_alloc_new wr _
          have hzW : W.heap.size = wr.heap.size + 1 := by rw [hW]; simp
          have hd0 : ∀ d : BelT W.heap.size W, d.val.cell? ⟨wr.heap.size, 0, none⟩ = some (.int .u8 (lo : Int)) := fun d => by
            rw [cell_of_row _ _ _ _ _ _ ((d.property.block wr.heap.size (by omega)).trans hrow)]; rfl
          have hd1 : ∀ d : BelT W.heap.size W, d.val.cell? ⟨wr.heap.size, 1, none⟩ = some (.int .u8 (hi : Int)) := fun d => by
            rw [cell_of_row _ _ _ _ _ _ ((d.property.block wr.heap.size (by omega)).trans hrow)]; rfl
          have hd2 : ∀ d : BelT W.heap.size W, d.val.cell? ⟨wr.heap.size, 2, none⟩ = some (.int .i64 (to : Int)) := fun d => by
            rw [cell_of_row _ _ _ _ _ _ ((d.property.block wr.heap.size (by omega)).trans hrow)]; rfl
          have hd3 : ∀ d : BelT W.heap.size W, wr.heap.size < d.val.heap.size := fun d => by have := d.property.size; omega
          have t1 : decide ((hi : Int) < (lo : Int)) = false := decide_eq_false (by have := HP.out.1; omega)
          have t1n : decide (hi < lo) = false := decide_eq_false (by have := HP.out.1; omega)
          have t2 : decide ((to : Int) < 0) = false := decide_eq_false (by omega)
          have t3 : decide ((n : Int) ≤ (to : Int)) = false := decide_eq_false (by have := HP.out.2.2; omega)
          have t3n : decide (n ≤ to) = false := decide_eq_false (by have := HP.out.2.2; omega)
          have HBW := Lib.hid (HB2.out.trans (hbW.mono HB2.out.size))
          by_cases hj0 : 0 < j
          · have t4 : decide (0 < (j : Int)) = true := decide_eq_true (by omega)
            have t4n : decide (0 < j) = true := decide_eq_true hj0
            obtain ⟨p, hp⟩ : ∃ p, p + 1 = j := ⟨j - 1, by omega⟩
            have hw : IntKind.i64.wrap ((j : Int) - 1) = (p : Int) := by rw [IntWalk.i64_in _ (by omega)]; omega
            have hw2 : ((j : Int) - 1) = (p : Int) := by omega
            have hpl : p < L := by omega
            have t5 : decide (p < L) = true := decide_eq_true hpl
            obtain ⟨-, p1, -⟩ := HCS.out p (by rw [HR.out.2.2]; exact hpl)
            have hph := HP.out.2.1 p hp
            obtain ⟨ph, hph2⟩ : ∃ x, (row[p]'(by rw [HR.out.2.2]; exact hpl)).hi = x := ⟨_, rfl⟩
            rw [hph2] at p1 hph
            have t6 : decide ((lo : Int) ≤ (ph : Int)) = false := decide_eq_false (by omega)
            have t6n : decide (lo ≤ ph) = false := decide_eq_false (by omega)
            have hd4 : ∀ d : BelT W.heap.size W, d.val.cell? ⟨g2, f2 + p * 3 + 1, none⟩ = some (.int .u8 (ph : Int)) := fun d => ((HBW.out.trans (d.property.mono HBW.out.size)).cell (p := ⟨g2, f2 + p * 3 + 1, none⟩) hg2).trans p1
            have hd5 : ∀ d : BelT W.heap.size W, g2 < d.val.heap.size := fun d => by have := d.property.size; omega
            clear hrow hbW hW hp p1 hph hph2 q0 q1 q2 hcE2
            refine wp_region_below (Below.refl W.heap.size W) (by kernel_rfl) (by kernel_rfl) ?_
            repeat (go_big_quiet_step (fail))
            refine wpQuiet_nil ?_
            intro w2 hw'
            have hw2 : Below W.heap.size W w2 := by obtain ⟨d9, rfl⟩ := hw'; exact d9.property
            have HB3 := Lib.hid (HBW.out.trans (hw2.mono HBW.out.size))
            clear hw' hd0 hd1 hd2 hd3 hd4 hd5 hw2
            go_wp2_with fail
            go_roundw
            case rel => exact ⟨j + 1, by omega, by go_num, HB3⟩
            case measure => simp [intOf]; omega
          · obtain rfl : j = 0 := by omega
            have t4 : decide (0 < ((0 : Nat) : Int)) = false := by decide
            have t4n : decide (0 < 0) = false := by decide
            clear hrow hbW hW q0 q1 q2 hcE2
            refine wp_region_below (Below.refl W.heap.size W) (by kernel_rfl) (by kernel_rfl) ?_
            repeat (go_big_quiet_step (fail))
            refine wpQuiet_nil ?_
            intro w2 hw'
            have hw2 : Below W.heap.size W w2 := by obtain ⟨d9, rfl⟩ := hw'; exact d9.property
            have HB3 := Lib.hid (HBW.out.trans (hw2.mono HBW.out.size))
            clear hw' hd0 hd1 hd2 hd3 hw2
            go_wp2_with fail
            go_roundw
            case rel => exact ⟨1, by omega, rfl, HB3⟩
            case measure => simp [intOf]; omega
        · obtain rfl : j = L := by omega
          have hdj : decide ((j : Int) < (j : Int)) = false := decide_eq_false (by omega)
          have hdjn : decide (j < j) = false := decide_eq_false (by omega)
          go_wp2_with fail
          go_roundw
          case rel => exact ⟨k + 1, by omega, by go_num, HB2⟩
          case measure => simp [intOf]; omega
    · obtain rfl : k = n := by omega
      have hd : decide ((k : Int) < (k : Int)) = false := decide_eq_false (by omega)
      have hdn : decide (k < k) = false := decide_eq_false (by omega)
      go_wp2_with fail
      go_ret
      exact ⟨rfl, HB.out⟩
end Go.Proofs.YtjhmipidmpmlmaaGreatDoor
namespace Go.Proofs.YtjhmipidmpmlmaaGreatDoor
set_option linter.unusedVariables false
set_option linter.unusedSimpArgs false
set_option maxRecDepth 100000
open Go.RowKit
set_option maxHeartbeats 4000000 in
theorem rvalid_any (v : Value) (m : Mc) (w : World) (hm : McIn w v m) (hv : Vld m) (hsm : McSm m) (h1 : 1 ≤ m.ed.length) (h2 : m.ed.length ≤ 2000) :
    Calls Tryz.prog 28 #[v] w fun e w' => e = .returned (.bool true) ∧ Below w.heap.size w w' := by
  obtain ⟨ve, va, rfl, he, ha⟩ := id hm
  obtain ⟨Ae, ce, rfl, hce1, hce2⟩ := he.form
  obtain ⟨Aa, ca, rfl, hca1, hca2⟩ := ha.form
  obtain ⟨n, hn⟩ : ∃ n, m.ed.length = n := ⟨_, rfl⟩
  have hac : m.ac.length = n := by rw [hv.len, hn]
  have HE := Lib.hid he
  have HV := Lib.hid hv
  have HS := Lib.hid hsm
  have HN := Lib.hid (And.intro hn hac)
  rw [hn] at hce1 h1 h2
  rw [hac] at hca1
  rw [hn, hac]
  have hb0 : Below w.heap.size w (w.alloc (.cells #[.slice Ae n ce, .slice Aa n ca] 34)) := (Below.refl _ _).alloc (Nat.le_refl _) _
  have HB0 := Lib.hid (And.intro hb0 (heap_alloc_new w (.cells #[.slice Ae n ce, .slice Aa n ca] 34)))
  clear he ha hv hsm hn hac hm hb0
  have hd1 : decide (n < 1) = false := decide_eq_false (by omega)
  have hd1i : decide ((n : Int) < 1) = false := decide_eq_false (by omega)
  have hd2 : decide (2000 < n) = false := decide_eq_false (by omega)
  have hd2i : decide (2000 < (n : Int)) = false := decide_eq_false (by omega)
  go_enter Tryz.func28, Tryz.ntmps28
  go_wp2_with fail
  go_loopw [3] (fun v wr => ∃ k : Nat, k ≤ n ∧ v = .int .i64 (k : Int) ∧ w.heap.size < wr.heap.size ∧ Hid (Below w.heap.size w wr ∧ wr.heap[w.heap.size]? = some (.cells #[.slice Ae n ce, .slice Aa n ca] 34 (0, 0)))) (fun v _ => n - (intOf v).toNat)
  case atStart => exact ⟨0, by omega, rfl, by simp, HB0⟩
  case round =>
    obtain ⟨k, hk, rfl, hws, HB⟩ := hrel
    have hbx := HB.out.2
    obtain ⟨b0, b1⟩ : wr.cell? ⟨w.heap.size, 0, none⟩ = some (.slice Ae n ce) ∧ wr.cell? ⟨w.heap.size, 1, none⟩ = some (.slice Aa n ca) := by
      constructor <;> (rw [cell_of_row _ _ _ _ _ _ hbx]; rfl)
    clear hbx
    by_cases hlt : k < n
    · have hd : decide ((k : Int) < (n : Int)) = true := decide_eq_true (by omega)
      have hdn : decide (k < n) = true := decide_eq_true hlt
      have hkm : k < m.ed.length := by rw [HN.out.1]; exact hlt
      obtain ⟨g, f, rv, rfl, -, hg, hcE, hed⟩ := HE.out.at_ hkm
      have hcE2 := (HB.out.1.cell (p := ⟨g, f + k, none⟩) hg).trans hcE
      obtain ⟨row, hrow⟩ : ∃ r, m.ed[k] = r := ⟨_, rfl⟩
      rw [hrow] at hed
      have hsr : SortE 0 row := by rw [← hrow]; exact HV.out.srt _ (List.getElem_mem hkm)
      have hto : ∀ e ∈ row, e.to < n := fun e he => by rw [← HN.out.1]; exact HV.out.to _ (by rw [← hrow]; exact List.getElem_mem hkm) e he
      have hrl : row.length ≤ 10000 := HS.out.rl _ (by rw [← hrow]; exact List.getElem_mem hkm)
      obtain ⟨Ar, cr, rfl, hrc, hrcell⟩ := hed
      obtain ⟨L, hL⟩ : ∃ L, row.length = L := ⟨_, rfl⟩
      rw [hL] at hrc hcE hcE2 hrl
      have HR := Lib.hid (And.intro hsr (And.intro hto hL))
      have HRC := Lib.hid hrcell
      have hgw : g < wr.heap.size := by have := HB.out.1.size; omega
      clear hsr hto hL hrcell hrow hkm hcE
      go_wp2_with fail
      go_loopw [5] (fun v wr => ∃ j : Nat, j ≤ L ∧ v = .int .i64 (j : Int) ∧ w.heap.size < wr.heap.size ∧ Hid (Below w.heap.size w wr ∧ wr.heap[w.heap.size]? = some (.cells #[.slice (some ⟨g, f, none⟩) n ce, .slice Aa n ca] 34 (0, 0)))) (fun v _ => L - (intOf v).toNat)
      case atStart => exact ⟨0, by omega, rfl, hws, HB⟩
      case round =>
        obtain ⟨j, hj, rfl, hws2, HB2⟩ := hrel
        by_cases hjl : j < L
        · have hdj : decide ((j : Int) < (L : Int)) = true := decide_eq_true (by omega)
          have hdjn : decide (j < L) = true := decide_eq_true hjl
          have hjm : j < row.length := by rw [HR.out.2.2]; exact hjl
          obtain ⟨g2, f2, rfl, hg2, hcs⟩ := HRC.out.resolve_left (by intro e; rw [e] at hjm; simp at hjm)
          obtain ⟨p0, p1, p2⟩ := hcs j hjm
          obtain ⟨⟨lo, hi, to⟩, he⟩ : ∃ e, row[j] = e := ⟨_, rfl⟩
          have hlh := (sort_adj HR.out.1 j hjm).1
          have hprev := (sort_adj HR.out.1 j hjm).2
          have hto := HR.out.2.1 _ (List.getElem_mem hjm)
          rw [he] at p0 p1 p2 hlh hprev hto
          simp only at hlh hprev hto p0 p1 p2
          have hgw2 : g2 < wr.heap.size := by have := HB2.out.1.size; omega
          have hd0 : ∀ d : BelT wr.heap.size wr, d.val.cell? ⟨g2, f2 + j * 3, none⟩ = some (.int .u8 (lo : Int)) := fun d => ((HB2.out.1.trans (d.property.mono HB2.out.1.size)).cell (p := ⟨g2, f2 + j * 3, none⟩) hg2).trans p0
          have hd1' : ∀ d : BelT wr.heap.size wr, d.val.cell? ⟨g2, f2 + j * 3 + 1, none⟩ = some (.int .u8 (hi : Int)) := fun d => ((HB2.out.1.trans (d.property.mono HB2.out.1.size)).cell (p := ⟨g2, f2 + j * 3 + 1, none⟩) hg2).trans p1
          have hd2' : ∀ d : BelT wr.heap.size wr, d.val.cell? ⟨g2, f2 + j * 3 + 2, none⟩ = some (.int .i64 (to : Int)) := fun d => ((HB2.out.1.trans (d.property.mono HB2.out.1.size)).cell (p := ⟨g2, f2 + j * 3 + 2, none⟩) hg2).trans p2
          have hd3 : ∀ d : BelT wr.heap.size wr, g2 < d.val.heap.size := fun d => by have := d.property.size; omega
          have hd5 : ∀ d : BelT wr.heap.size wr, d.val.cell? ⟨w.heap.size, 0, none⟩ = some (.slice (some ⟨g, f, none⟩) n ce) := fun d => by
            rw [cell_of_row _ _ _ _ _ _ ((d.property.block w.heap.size hws2).trans HB2.out.2)]; rfl
          have hd6 : ∀ d : BelT wr.heap.size wr, w.heap.size < d.val.heap.size := fun d => by have := d.property.size; omega
          have t1 : decide ((hi : Int) < (lo : Int)) = false := decide_eq_false (by omega)
          have t1n : decide (hi < lo) = false := decide_eq_false (by omega)
          have t2 : decide ((to : Int) < 0) = false := decide_eq_false (by omega)
          have t3 : decide ((n : Int) ≤ (to : Int)) = false := decide_eq_false (by omega)
          have t3n : decide (n ≤ to) = false := decide_eq_false (by omega)
          have HP := Lib.hid hprev
          have HCS := Lib.hid hcs
          clear p0 p1 p2 hlh hprev hto hcs he
          by_cases hj0 : 0 < j
          · have t4 : decide (0 < (j : Int)) = true := decide_eq_true (by omega)
            have t4n : decide (0 < j) = true := decide_eq_true hj0
            obtain ⟨p, hp⟩ : ∃ p, p + 1 = j := ⟨j - 1, by omega⟩
            have hw : IntKind.i64.wrap ((j : Int) - 1) = (p : Int) := by rw [IntWalk.i64_in _ (by omega)]; omega
            have hw2 : ((j : Int) - 1) = (p : Int) := by omega
            have hpl : p < L := by omega
            have t5 : decide (p < L) = true := decide_eq_true hpl
            obtain ⟨-, p1, -⟩ := HCS.out p (by rw [HR.out.2.2]; exact hpl)
            have hph := HP.out p hp
            obtain ⟨ph, hph2⟩ : ∃ x, (row[p]'(by rw [HR.out.2.2]; exact hpl)).hi = x := ⟨_, rfl⟩
            rw [hph2] at p1 hph
            have t6 : decide ((lo : Int) ≤ (ph : Int)) = false := decide_eq_false (by omega)
            have t6n : decide (lo ≤ ph) = false := decide_eq_false (by omega)
            have hd4 : ∀ d : BelT wr.heap.size wr, d.val.cell? ⟨g2, f2 + p * 3 + 1, none⟩ = some (.int .u8 (ph : Int)) := fun d => ((HB2.out.1.trans (d.property.mono HB2.out.1.size)).cell (p := ⟨g2, f2 + p * 3 + 1, none⟩) hg2).trans p1
            clear hp p1 hph hph2
            go_wp2_with fail
            refine wp_region_below (Below.refl wr.heap.size wr) (by kernel_rfl) (by kernel_rfl) ?_
            repeat (go_big_quiet_step (fail))
            refine wpQuiet_nil ?_
            intro w2 hw'
            have hw2 : Below wr.heap.size wr w2 := by obtain ⟨d9, rfl⟩ := hw'; exact d9.property
            have HB3 := Lib.hid (And.intro (HB2.out.1.trans (hw2.mono HB2.out.1.size)) ((hw2.block w.heap.size hws2).trans HB2.out.2))
            have hws3 : w.heap.size < w2.heap.size := by have := hw2.size; omega
            clear hw' hd0 hd1' hd2' hd3 hd4 hd5 hd6 hw2
            go_wp2_with fail
            go_roundw
            case rel => exact ⟨j + 1, by omega, by go_num, hws3, HB3⟩
            case measure => simp [intOf]; omega
          · obtain rfl : j = 0 := by omega
            have t4 : decide (0 < ((0 : Nat) : Int)) = false := by decide
            have t4n : decide (0 < 0) = false := by decide
            simp only [Nat.zero_mul, Nat.add_zero] at hd0 hd1' hd2'
            have t4m : decide ((0 : Int) < 0) = false := by decide
            go_wp2_with fail
            refine wp_region_below (Below.refl wr.heap.size wr) (by kernel_rfl) (by kernel_rfl) ?_
            repeat (go_big_quiet_step (fail))
            refine wpQuiet_nil ?_
            intro w2 hw'
            have hw2 : Below wr.heap.size wr w2 := by obtain ⟨d9, rfl⟩ := hw'; exact d9.property
            have HB3 := Lib.hid (And.intro (HB2.out.1.trans (hw2.mono HB2.out.1.size)) ((hw2.block w.heap.size hws2).trans HB2.out.2))
            have hws3 : w.heap.size < w2.heap.size := by have := hw2.size; omega
            clear hw' hd0 hd1' hd2' hd3 hd5 hd6 hw2
            go_wp2_with fail
            go_roundw
            case rel => exact ⟨1, by omega, rfl, hws3, HB3⟩
            case measure => simp [intOf]; omega
        · obtain rfl : j = L := by omega
          have hdj : decide ((j : Int) < (j : Int)) = false := decide_eq_false (by omega)
          have hdjn : decide (j < j) = false := decide_eq_false (by omega)
          go_wp2_with fail
          go_roundw
          case rel => exact ⟨k + 1, by omega, by go_num, hws2, HB2⟩
          case measure => simp [intOf]; omega
    · obtain rfl : k = n := by omega
      have hd : decide ((k : Int) < (k : Int)) = false := decide_eq_false (by omega)
      have hdn : decide (k < k) = false := decide_eq_false (by omega)
      go_wp2_with fail
      go_ret
      exact ⟨rfl, HB.out.1⟩
end Go.Proofs.YtjhmipidmpmlmaaGreatDoor
namespace Go.Proofs.YtjhmipidmpmlmaaGreatDoor
set_option linter.unusedVariables false
set_option linter.unusedSimpArgs false
set_option maxRecDepth 100000
open Go.RowKit
/-- Two boxes above a world. -/
structure Bx (w : World) (a b c d : Value) (wr : World) : Prop where
  bel : Below w.heap.size w wr
  siz : w.heap.size + 2 ≤ wr.heap.size
  r0 : wr.heap[w.heap.size]? = some (.cells #[a, b] 34 (0, 0))
  r1 : wr.heap[w.heap.size + 1]? = some (.cells #[c, d] 34 (0, 0))
theorem Bx.later {w wr w' : World} {a b c d : Value} (h : Bx w a b c d wr) (hb : Below wr.heap.size wr w') : Bx w a b c d w' :=
  ⟨h.bel.trans (hb.mono h.bel.size), Nat.le_trans h.siz hb.size, (hb.block _ (by have := h.siz; omega)).trans h.r0, (hb.block _ (by have := h.siz; omega)).trans h.r1⟩
theorem Bx.cells {w wr : World} {a b c d : Value} (h : Bx w a b c d wr) : wr.cell? ⟨w.heap.size, 0, none⟩ = some a ∧ wr.cell? ⟨w.heap.size, 1, none⟩ = some b ∧ wr.cell? ⟨w.heap.size + 1, 0, none⟩ = some c ∧ wr.cell? ⟨w.heap.size + 1, 1, none⟩ = some d ∧ w.heap.size < wr.heap.size ∧ w.heap.size + 1 < wr.heap.size := by
  have h1 := h.siz
  refine ⟨?_, ?_, ?_, ?_, by omega, by omega⟩
  · rw [cell_of_row _ _ _ _ _ _ h.r0]; rfl
  · rw [cell_of_row _ _ _ _ _ _ h.r0]; rfl
  · rw [cell_of_row _ _ _ _ _ _ h.r1]; rfl
  · rw [cell_of_row _ _ _ _ _ _ h.r1]; rfl
set_option maxHeartbeats 4000000 in
theorem requal_any (v1 v2 : Value) (m1 m2 : Mc) (w : World) (hm1 : McIn w v1 m1) (hm2 : McIn w v2 m2) (hv1 : Vld m1) (hv2 : Vld m2) (hsm1 : McSm m1) (hsm2 : McSm m2) :
    Calls Tryz.prog 16 #[v1, v2] w fun e w' => e = .returned (.bool (decide (m1 = m2))) ∧ Below w.heap.size w w' := by
  obtain ⟨ve1, va1, rfl, he1, ha1⟩ := id hm1
  obtain ⟨Ae1, ce1, rfl, hce1⟩ := he1.form
  obtain ⟨Aa1, ca1, rfl, hca1⟩ := ha1.form
  obtain ⟨ve2, va2, rfl, he2, ha2⟩ := id hm2
  obtain ⟨Ae2, ce2, rfl, hce2⟩ := he2.form
  obtain ⟨Aa2, ca2, rfl, hca2⟩ := ha2.form
  obtain ⟨n1, hn1⟩ : ∃ n, m1.ed.length = n := ⟨_, rfl⟩
  obtain ⟨n2, hn2⟩ : ∃ n, m2.ed.length = n := ⟨_, rfl⟩
  have hac1 : m1.ac.length = n1 := by rw [hv1.len, hn1]
  have hac2 : m2.ac.length = n2 := by rw [hv2.len, hn2]
  obtain ⟨q, hq⟩ : ∃ q, decide (m1 = m2) = q := ⟨_, rfl⟩
  have HB0 : Hid (Bx w (.slice Ae1 n1 ce1) (.slice Aa1 n1 ca1) (.slice Ae2 n2 ce2) (.slice Aa2 n2 ca2) ((w.alloc (.cells #[.slice Ae1 n1 ce1, .slice Aa1 n1 ca1] 34)).alloc (.cells #[.slice Ae2 n2 ce2, .slice Aa2 n2 ca2] 34))) :=
    ⟨((Below.refl _ _).alloc (Nat.le_refl _) _).alloc (by simp) _, by simp, by rw [old_alloc _ _ _ (by simp)]; exact heap_alloc_new w _, by simpa using heap_alloc_new (w.alloc (.cells #[.slice Ae1 n1 ce1, .slice Aa1 n1 ca1] 34)) (.cells #[.slice Ae2 n2 ce2, .slice Aa2 n2 ca2] 34)⟩
  have HE := Lib.hid (And.intro he1 (And.intro he2 (And.intro ha1 ha2)))
  have HN := Lib.hid (And.intro (And.intro hn1 hac1) (And.intro (And.intro hn2 hac2) hq))
  have HS := Lib.hid (And.intro hsm1 hsm2)
  have hnn : n1 ≤ 100000 := by rw [← hn1]; exact hsm1.n
  rw [hq, hn1, hn2, hac1, hac2]
  clear he1 he2 ha1 ha2 hn1 hn2 hac1 hac2 hq hm1 hm2 hv1 hv2 hsm1 hsm2 hce1 hca1 hce2 hca2
  by_cases hnn2 : n1 = n2
  · subst hnn2
    go_enter Tryz.func16, Tryz.ntmps16
    go_wp2_with fail
    go_loopw [5] (fun v wr => ∃ k : Nat, k ≤ n1 ∧ v = .int .i64 (k : Int) ∧ Hid (Bx w (.slice Ae1 n1 ce1) (.slice Aa1 n1 ca1) (.slice Ae2 n1 ce2) (.slice Aa2 n1 ca2) wr) ∧ Hid (∀ i, i < k → m1.ac[i]? = m2.ac[i]?)) (fun v _ => n1 - (intOf v).toNat)
    case atStart => exact ⟨0, by omega, rfl, HB0, fun i hi => absurd hi (Nat.not_lt_zero _)⟩
    case round =>
      obtain ⟨k, hk, rfl, HB, HI⟩ := hrel
      obtain ⟨b0, b1, b2, b3, s0, s1⟩ := HB.out.cells
      by_cases hlt : k < n1
      · have hd : decide ((k : Int) < (n1 : Int)) = true := decide_eq_true (by omega)
        have hdn : decide (k < n1) = true := decide_eq_true hlt
        obtain ⟨g1, f1, rfl, -, hg1, hc1⟩ := HE.out.2.2.1.at_ (k := k) (by rw [HN.out.1.2]; exact hlt)
        obtain ⟨g2, f2, rfl, -, hg2, hc2⟩ := HE.out.2.2.2.at_ (k := k) (by rw [HN.out.2.1.2]; exact hlt)
        obtain ⟨x1, hx1⟩ : ∃ x, m1.ac[k]'(by rw [HN.out.1.2]; exact hlt) = x := ⟨_, rfl⟩
        obtain ⟨x2, hx2⟩ : ∃ x, m2.ac[k]'(by rw [HN.out.2.1.2]; exact hlt) = x := ⟨_, rfl⟩
        rw [hx1] at hc1
        rw [hx2] at hc2
        have HX : Hid (m1.ac[k]? = some x1 ∧ m2.ac[k]? = some x2) := ⟨by rw [List.getElem?_eq_getElem (by rw [HN.out.1.2]; exact hlt), hx1], by rw [List.getElem?_eq_getElem (by rw [HN.out.2.1.2]; exact hlt), hx2]⟩
        have d0 : ∀ d : BelT wr.heap.size wr, d.val.cell? ⟨w.heap.size, 1, none⟩ = some (.slice (some ⟨g1, f1, none⟩) n1 ca1) := fun d => (HB.out.later d.property).cells.2.1
        have d1 : ∀ d : BelT wr.heap.size wr, d.val.cell? ⟨w.heap.size + 1, 1, none⟩ = some (.slice (some ⟨g2, f2, none⟩) n1 ca2) := fun d => (HB.out.later d.property).cells.2.2.2.1
        have d2 : ∀ d : BelT wr.heap.size wr, w.heap.size < d.val.heap.size := fun d => (HB.out.later d.property).cells.2.2.2.2.1
        have d3 : ∀ d : BelT wr.heap.size wr, w.heap.size + 1 < d.val.heap.size := fun d => (HB.out.later d.property).cells.2.2.2.2.2
        have d4 : ∀ d : BelT wr.heap.size wr, d.val.cell? ⟨g1, f1 + k, none⟩ = some (.bool x1) := fun d => ((HB.out.later d.property).bel.cell (p := ⟨g1, f1 + k, none⟩) hg1).trans hc1
        have d5 : ∀ d : BelT wr.heap.size wr, d.val.cell? ⟨g2, f2 + k, none⟩ = some (.bool x2) := fun d => ((HB.out.later d.property).bel.cell (p := ⟨g2, f2 + k, none⟩) hg2).trans hc2
        have d6 : ∀ d : BelT wr.heap.size wr, g1 < d.val.heap.size := fun d => by have := (HB.out.later d.property).bel.size; omega
        have d7 : ∀ d : BelT wr.heap.size wr, g2 < d.val.heap.size := fun d => by have := (HB.out.later d.property).bel.size; omega
        clear hx1 hx2 hc1 hc2
        go_wp2_with fail
        refine wp_region_below (Below.refl wr.heap.size wr) (by kernel_rfl) (by kernel_rfl) ?_
        repeat (go_big_quiet_step (fail))
        refine wpQuiet_nil ?_
        intro w2 hw'
        have hw2 : Below wr.heap.size wr w2 := by obtain ⟨d9, rfl⟩ := hw'; exact d9.property
        have HB3 := Lib.hid (HB.out.later hw2)
        clear hw' d0 d1 d2 d3 d4 d5 d6 d7 hw2
        by_cases hxx : x1 = x2
        · subst hxx
          cases x1
          all_goals
            go_wp2_with fail
            go_roundw
            case rel =>
              refine ⟨k + 1, by omega, by go_num, HB3, fun i hi => ?_⟩
              by_cases hik : i = k
              · subst hik; rw [HX.out.1, HX.out.2]
              · exact HI.out i (by omega)
            case measure => simp [intOf]; omega
        · have HF : Hid (false = q) := by
            rw [← HN.out.2.2]
            refine (decide_eq_false fun e => hxx ?_).symm
            have h1 := HX.out.1
            rw [e, HX.out.2] at h1
            exact (Option.some.inj h1).symm
          cases x1 <;> cases x2
          all_goals first
            | exact absurd rfl hxx
            | (clear hxx
               go_wp2_with fail
               go_ret
               exact ⟨ret_bool HF.out, HB3.out.bel⟩)
      · obtain rfl : k = n1 := by omega
        have hd : decide ((k : Int) < (k : Int)) = false := decide_eq_false (by omega)
        have hdn : decide (k < k) = false := decide_eq_false (by omega)
        have HA : Hid (m1.ac = m2.ac) := by
          apply List.ext_getElem?
          intro i
          by_cases hi : i < k
          · exact HI.out i hi
          · rw [List.getElem?_eq_none (by rw [HN.out.1.2]; omega), List.getElem?_eq_none (by rw [HN.out.2.1.2]; omega)]
        clear HI
        go_wp2_with fail
        go_loopw [6] (fun v wr => ∃ k2 : Nat, k2 ≤ k ∧ v = .int .i64 (k2 : Int) ∧ Hid (Bx w (.slice Ae1 k ce1) (.slice Aa1 k ca1) (.slice Ae2 k ce2) (.slice Aa2 k ca2) wr) ∧ Hid (∀ i, i < k2 → m1.ed[i]? = m2.ed[i]?)) (fun v _ => k - (intOf v).toNat)
        case atStart => exact ⟨0, by omega, rfl, HB, fun i hi => absurd hi (Nat.not_lt_zero _)⟩
        case round =>
          clear b0 b1 b2 b3 s0 s1 HB
          obtain ⟨k2, hk2, rfl, HB, HI⟩ := hrel
          obtain ⟨b0, b1, b2, b3, s0, s1⟩ := HB.out.cells
          by_cases hlt : k2 < k
          · have hd : decide ((k2 : Int) < (k : Int)) = true := decide_eq_true (by omega)
            have hdn : decide (k2 < k) = true := decide_eq_true hlt
            obtain ⟨g1, f1, rv1, rfl, -, hg1, hc1, hed1⟩ := HE.out.1.at_ (k := k2) (by rw [HN.out.1.1]; exact hlt)
            obtain ⟨g2, f2, rv2, rfl, -, hg2, hc2, hed2⟩ := HE.out.2.1.at_ (k := k2) (by rw [HN.out.2.1.1]; exact hlt)
            obtain ⟨r1, hr1⟩ : ∃ x, m1.ed[k2]'(by rw [HN.out.1.1]; exact hlt) = x := ⟨_, rfl⟩
            obtain ⟨r2, hr2⟩ : ∃ x, m2.ed[k2]'(by rw [HN.out.2.1.1]; exact hlt) = x := ⟨_, rfl⟩
            have hrl1 : r1.length ≤ 10000 := by rw [← hr1]; exact HS.out.1.rl _ (List.getElem_mem _)
            rw [hr1] at hed1
            rw [hr2] at hed2
            have HX : Hid (m1.ed[k2]? = some r1 ∧ m2.ed[k2]? = some r2) := ⟨by rw [List.getElem?_eq_getElem (by rw [HN.out.1.1]; exact hlt), hr1], by rw [List.getElem?_eq_getElem (by rw [HN.out.2.1.1]; exact hlt), hr2]⟩
            obtain ⟨A1, c1, rfl, hcr1, hcs1⟩ := hed1
            obtain ⟨A2, c2, rfl, hcr2, hcs2⟩ := hed2
            obtain ⟨L1, hL1⟩ : ∃ n, r1.length = n := ⟨_, rfl⟩
            obtain ⟨L2, hL2⟩ : ∃ n, r2.length = n := ⟨_, rfl⟩
            rw [hL1] at hc1 hrl1
            rw [hL2] at hc2
            have HL := Lib.hid (And.intro hL1 hL2)
            have HCS := Lib.hid (And.intro hcs1 hcs2)
            have HCC := Lib.hid (And.intro (And.intro hg1 hc1) (And.intro hg2 hc2))
            have d0 : ∀ d : BelT wr.heap.size wr, d.val.cell? ⟨w.heap.size, 0, none⟩ = some (.slice (some ⟨g1, f1, none⟩) k ce1) := fun d => (HB.out.later d.property).cells.1
            have d1 : ∀ d : BelT wr.heap.size wr, d.val.cell? ⟨w.heap.size + 1, 0, none⟩ = some (.slice (some ⟨g2, f2, none⟩) k ce2) := fun d => (HB.out.later d.property).cells.2.2.1
            have d2 : ∀ d : BelT wr.heap.size wr, w.heap.size < d.val.heap.size := fun d => (HB.out.later d.property).cells.2.2.2.2.1
            have d3 : ∀ d : BelT wr.heap.size wr, w.heap.size + 1 < d.val.heap.size := fun d => (HB.out.later d.property).cells.2.2.2.2.2
            have d4 : ∀ d : BelT wr.heap.size wr, d.val.cell? ⟨g1, f1 + k2, none⟩ = some (.slice A1 L1 c1) := fun d => ((HB.out.later d.property).bel.cell (p := ⟨g1, f1 + k2, none⟩) hg1).trans hc1
            have d5 : ∀ d : BelT wr.heap.size wr, d.val.cell? ⟨g2, f2 + k2, none⟩ = some (.slice A2 L2 c2) := fun d => ((HB.out.later d.property).bel.cell (p := ⟨g2, f2 + k2, none⟩) hg2).trans hc2
            have d6 : ∀ d : BelT wr.heap.size wr, g1 < d.val.heap.size := fun d => by have := (HB.out.later d.property).bel.size; omega
            have d7 : ∀ d : BelT wr.heap.size wr, g2 < d.val.heap.size := fun d => by have := (HB.out.later d.property).bel.size; omega
            clear hr1 hr2 hc1 hc2 hL1 hL2 hcs1 hcs2 hcr1 hcr2
            go_wp2_with fail
            refine wp_region_below (Below.refl wr.heap.size wr) (by kernel_rfl) (by kernel_rfl) ?_
            repeat (go_big_quiet_step (fail))
            refine wpQuiet_nil ?_
            intro w2 hw'
            have hw2 : Below wr.heap.size wr w2 := by obtain ⟨d9, rfl⟩ := hw'; exact d9.property
            have HB3 := Lib.hid (HB.out.later hw2)
            clear hw' d0 d1 d2 d3 d4 d5 d6 d7 hw2
            by_cases hLL : L1 = L2
            · subst hLL
              go_wp2_with fail
              go_loopw [7] (fun v wr => ∃ j : Nat, j ≤ L1 ∧ v = .int .i64 (j : Int) ∧ Hid (Bx w (.slice (some ⟨g1, f1, none⟩) k ce1) (.slice Aa1 k ca1) (.slice (some ⟨g2, f2, none⟩) k ce2) (.slice Aa2 k ca2) wr) ∧ Hid (∀ i, i < j → r1[i]? = r2[i]?)) (fun v _ => L1 - (intOf v).toNat)
              case atStart => exact ⟨0, by omega, rfl, HB3, fun i hi => absurd hi (Nat.not_lt_zero _)⟩
              case round =>
                clear b0 b1 b2 b3 s0 s1
                obtain ⟨j, hj, rfl, HB5, HI5⟩ := hrel
                obtain ⟨b0, b1, b2, b3, s0, s1⟩ := HB5.out.cells
                have e0 := (HB5.out.bel.cell (p := ⟨g1, f1 + k2, none⟩) HCC.out.1.1).trans HCC.out.1.2
                have e1 : g1 < wr.heap.size := by have := HB5.out.bel.size; omega
                by_cases hjl : j < L1
                · have hdj : decide ((j : Int) < (L1 : Int)) = true := decide_eq_true (by omega)
                  have hdjn : decide (j < L1) = true := decide_eq_true hjl
                  have hj1 : j < r1.length := by rw [HL.out.1]; exact hjl
                  have hj2 : j < r2.length := by rw [HL.out.2]; exact hjl
                  obtain ⟨p1, o1, rfl, hp1, hq1⟩ := HCS.out.1.resolve_left (by intro e; rw [e] at hj1; simp at hj1)
                  obtain ⟨p2, o2, rfl, hp2, hq2⟩ := HCS.out.2.resolve_left (by intro e; rw [e] at hj2; simp at hj2)
                  obtain ⟨a0, a1, a2⟩ := hq1 j hj1
                  obtain ⟨z0, z1, z2⟩ := hq2 j hj2
                  have HX2 : Hid (r1[j]? = some r1[j] ∧ r2[j]? = some r2[j]) := ⟨List.getElem?_eq_getElem hj1, List.getElem?_eq_getElem hj2⟩
                  obtain ⟨⟨l1, h1, t1⟩, hx1⟩ : ∃ x, r1[j] = x := ⟨_, rfl⟩
                  obtain ⟨⟨l2, h2, t2⟩, hx2⟩ : ∃ x, r2[j] = x := ⟨_, rfl⟩
                  rw [hx1, hx2] at HX2
                  rw [hx1] at a0 a1 a2
                  rw [hx2] at z0 z1 z2
                  simp only at a0 a1 a2 z0 z1 z2
                  have d0 : ∀ d : BelT wr.heap.size wr, d.val.cell? ⟨w.heap.size, 0, none⟩ = some (.slice (some ⟨g1, f1, none⟩) k ce1) := fun d => (HB5.out.later d.property).cells.1
                  have d1 : ∀ d : BelT wr.heap.size wr, d.val.cell? ⟨w.heap.size + 1, 0, none⟩ = some (.slice (some ⟨g2, f2, none⟩) k ce2) := fun d => (HB5.out.later d.property).cells.2.2.1
                  have d2 : ∀ d : BelT wr.heap.size wr, w.heap.size < d.val.heap.size := fun d => (HB5.out.later d.property).cells.2.2.2.2.1
                  have d3 : ∀ d : BelT wr.heap.size wr, w.heap.size + 1 < d.val.heap.size := fun d => (HB5.out.later d.property).cells.2.2.2.2.2
                  have d4 : ∀ d : BelT wr.heap.size wr, d.val.cell? ⟨g1, f1 + k2, none⟩ = some (.slice (some ⟨p1, o1, none⟩) L1 c1) := fun d => ((HB5.out.later d.property).bel.cell (p := ⟨g1, f1 + k2, none⟩) HCC.out.1.1).trans HCC.out.1.2
                  have d5 : ∀ d : BelT wr.heap.size wr, d.val.cell? ⟨g2, f2 + k2, none⟩ = some (.slice (some ⟨p2, o2, none⟩) L1 c2) := fun d => ((HB5.out.later d.property).bel.cell (p := ⟨g2, f2 + k2, none⟩) HCC.out.2.1).trans HCC.out.2.2
                  have d6 : ∀ d : BelT wr.heap.size wr, g1 < d.val.heap.size := fun d => by have := (HB5.out.later d.property).bel.size; omega
                  have d7 : ∀ d : BelT wr.heap.size wr, g2 < d.val.heap.size := fun d => by have := (HB5.out.later d.property).bel.size; omega
                  have y0 : ∀ d : BelT wr.heap.size wr, d.val.cell? ⟨p1, o1 + j * 3, none⟩ = some (.int .u8 (l1 : Int)) := fun d => ((HB5.out.later d.property).bel.cell (p := ⟨p1, o1 + j * 3, none⟩) hp1).trans a0
                  have y1 : ∀ d : BelT wr.heap.size wr, d.val.cell? ⟨p1, o1 + j * 3 + 1, none⟩ = some (.int .u8 (h1 : Int)) := fun d => ((HB5.out.later d.property).bel.cell (p := ⟨p1, o1 + j * 3 + 1, none⟩) hp1).trans a1
                  have y2 : ∀ d : BelT wr.heap.size wr, d.val.cell? ⟨p1, o1 + j * 3 + 2, none⟩ = some (.int .i64 (t1 : Int)) := fun d => ((HB5.out.later d.property).bel.cell (p := ⟨p1, o1 + j * 3 + 2, none⟩) hp1).trans a2
                  have y3 : ∀ d : BelT wr.heap.size wr, d.val.cell? ⟨p2, o2 + j * 3, none⟩ = some (.int .u8 (l2 : Int)) := fun d => ((HB5.out.later d.property).bel.cell (p := ⟨p2, o2 + j * 3, none⟩) hp2).trans z0
                  have y4 : ∀ d : BelT wr.heap.size wr, d.val.cell? ⟨p2, o2 + j * 3 + 1, none⟩ = some (.int .u8 (h2 : Int)) := fun d => ((HB5.out.later d.property).bel.cell (p := ⟨p2, o2 + j * 3 + 1, none⟩) hp2).trans z1
                  have y5 : ∀ d : BelT wr.heap.size wr, d.val.cell? ⟨p2, o2 + j * 3 + 2, none⟩ = some (.int .i64 (t2 : Int)) := fun d => ((HB5.out.later d.property).bel.cell (p := ⟨p2, o2 + j * 3 + 2, none⟩) hp2).trans z2
                  have y6 : ∀ d : BelT wr.heap.size wr, p1 < d.val.heap.size := fun d => by have := (HB5.out.later d.property).bel.size; omega
                  have y7 : ∀ d : BelT wr.heap.size wr, p2 < d.val.heap.size := fun d => by have := (HB5.out.later d.property).bel.size; omega
                  clear a0 a1 a2 z0 z1 z2 hx1 hx2 hq1 hq2
                  by_cases hz : l1 = l2 ∧ h1 = h2 ∧ t1 = t2
                  · obtain ⟨rfl, rfl, rfl⟩ := hz
                    have HQ : Hid (r1[j]? = r2[j]?) := by
                      rw [HX2.out.1, HX2.out.2]; exact Lib.hid rfl
                    go_wp2_with fail
                    refine wp_region_below (Below.refl wr.heap.size wr) (by kernel_rfl) (by kernel_rfl) ?_
                    repeat (go_big_quiet_step (fail))
                    refine wpQuiet_nil ?_
                    intro w2 hw'
                    have hw2 : Below wr.heap.size wr w2 := by obtain ⟨d9, rfl⟩ := hw'; exact d9.property
                    have HB6 := Lib.hid (HB5.out.later hw2)
                    clear hw' d0 d1 d2 d3 d4 d5 d6 d7 y0 y1 y2 y3 y4 y5 y6 y7 hw2
                    go_wp2_with fail
                    go_roundw
                    case rel =>
                      refine ⟨j + 1, by omega, by go_num, HB6, fun i hi => ?_⟩
                      by_cases hij : i = j
                      · subst hij; exact HQ.out
                      · exact HI5.out i (by omega)
                    case measure => simp [intOf]; omega
                  · have HF : Hid (false = q) := by
                      rw [← HN.out.2.2]
                      refine (decide_eq_false fun e => hz ?_).symm
                      have h3 := HX.out.1
                      rw [e, HX.out.2] at h3
                      have h4 := HX2.out.1
                      rw [← Option.some.inj h3, HX2.out.2] at h4
                      have h5 := Option.some.inj h4
                      injection h5 with e1 e2 e3
                      exact ⟨e1.symm, e2.symm, e3.symm⟩
                    have hcase : (¬ l1 = l2 ∧ ¬ ((l1 : Int) = (l2 : Int))) ∨ (l1 = l2 ∧ ¬ h1 = h2 ∧ ¬ ((h1 : Int) = (h2 : Int))) ∨ (l1 = l2 ∧ h1 = h2 ∧ ¬ t1 = t2 ∧ ¬ ((t1 : Int) = (t2 : Int))) := by omega
                    clear hz
                    rcases hcase with ⟨z1, z2⟩ | ⟨rfl, z1, z2⟩ | ⟨rfl, rfl, z1, z2⟩
                    all_goals
                      go_wp2_with fail
                      refine wp_region_below (Below.refl wr.heap.size wr) (by kernel_rfl) (by kernel_rfl) ?_
                      repeat (go_big_quiet_step (fail))
                      refine wpQuiet_nil ?_
                      intro w2 hw'
                      have hw2 : Below wr.heap.size wr w2 := by obtain ⟨d9, rfl⟩ := hw'; exact d9.property
                      have HB6 := Lib.hid (HB5.out.later hw2)
                      clear hw' d0 d1 d2 d3 d4 d5 d6 d7 y0 y1 y2 y3 y4 y5 y6 y7 hw2
                      go_wp2_with fail
                      go_ret
                      exact ⟨ret_bool HF.out, HB6.out.bel⟩
                · obtain rfl : j = L1 := by omega
                  have hdj : decide ((j : Int) < (j : Int)) = false := decide_eq_false (by omega)
                  have hdjn : decide (j < j) = false := decide_eq_false (by omega)
                  have HR : Hid (r1 = r2) := by
                    apply List.ext_getElem?
                    intro i
                    by_cases hi : i < j
                    · exact HI5.out i hi
                    · rw [List.getElem?_eq_none (by rw [HL.out.1]; omega), List.getElem?_eq_none (by rw [HL.out.2]; omega)]
                  clear HI5
                  go_wp2_with fail
                  go_roundw
                  case rel =>
                    refine ⟨k2 + 1, by omega, by go_num, HB5, fun i hi => ?_⟩
                    by_cases hik : i = k2
                    · subst hik; rw [HX.out.1, HX.out.2, HR.out]
                    · exact HI.out i (by omega)
                  case measure => simp [intOf]; omega
            · have hdL : (L1 == L2) = false := by simpa using hLL
              have hdLi : ((L1 : Int) == (L2 : Int)) = false := by simp; omega
              have HF : Hid (false = q) := by
                rw [← HN.out.2.2]
                refine (decide_eq_false fun e => hLL ?_).symm
                have h1 := HX.out.1
                rw [e, HX.out.2] at h1
                rw [← HL.out.1, ← HL.out.2, Option.some.inj h1]
              go_wp2_with fail
              go_ret
              exact ⟨ret_bool HF.out, HB3.out.bel⟩
          · obtain rfl : k2 = k := by omega
            have hd : decide ((k2 : Int) < (k2 : Int)) = false := decide_eq_false (by omega)
            have hdn : decide (k2 < k2) = false := decide_eq_false (by omega)
            have HT : Hid (true = q) := by
              rw [← HN.out.2.2]
              refine (decide_eq_true ?_).symm
              have h2 : m1.ed = m2.ed := by
                apply List.ext_getElem?
                intro i
                by_cases hi : i < k2
                · exact HI.out i hi
                · rw [List.getElem?_eq_none (by rw [HN.out.1.1]; omega), List.getElem?_eq_none (by rw [HN.out.2.1.1]; omega)]
              have h1 := HA.out
              obtain ⟨x1, y1⟩ := m1
              obtain ⟨x2, y2⟩ := m2
              simp only at h1 h2
              rw [h1, h2]
            go_wp2_with fail
            go_ret
            exact ⟨ret_bool HT.out, HB.out.bel⟩
  · have hd : (n1 == n2) = false := by simpa using hnn2
    have hdi : ((n1 : Int) == (n2 : Int)) = false := by simp; omega
    have hdd : decide ((n1 : Int) = (n2 : Int)) = false := decide_eq_false (by omega)
    have HF : Hid (false = q) := by
      rw [← HN.out.2.2]
      refine (decide_eq_false fun e => hnn2 ?_).symm
      rw [← HN.out.1.1, ← HN.out.2.1.1, e]
    have HBB := Lib.hid HB0.out.bel
    go_enter Tryz.func16, Tryz.ntmps16
    go_wp2_with fail
    go_ret
    exact ⟨ret_bool HF.out, HBB.out⟩
end Go.Proofs.YtjhmipidmpmlmaaGreatDoor
namespace Go.Proofs.YtjhmipidmpmlmaaGreatDoor
set_option linter.unusedVariables false
set_option linter.unusedSimpArgs false
set_option maxRecDepth 100000
open Go.RowKit
theorem rsame_any (v1 v2 : Value) (m1 m2 : Mc) (w : World) (hm1 : McIn w v1 m1) (hm2 : McIn w v2 m2) (hv1 : Vld m1) (hv2 : Vld m2) (hsm1 : McSm m1) (hsm2 : McSm m2)
    (h1 : 1 ≤ m1.ed.length ∧ m1.ed.length ≤ 2000) (h2 : 1 ≤ m2.ed.length ∧ m2.ed.length ≤ 2000) :
    Calls Tryz.prog 10 #[v1, v2] w fun e w' => e = .returned (.bool (decide (m1 = m2))) ∧ Below w.heap.size w w' := by
  obtain ⟨ve1, va1, rfl, he1, ha1⟩ := id hm1
  obtain ⟨Ae1, ce1, rfl, -⟩ := he1.form
  obtain ⟨Aa1, ca1, rfl, -⟩ := ha1.form
  obtain ⟨ve2, va2, rfl, he2, ha2⟩ := id hm2
  obtain ⟨Ae2, ce2, rfl, -⟩ := he2.form
  obtain ⟨Aa2, ca2, rfl, -⟩ := ha2.form
  have HV1 := Lib.hid fun W (h : Below w.heap.size w W) => rvalid_any _ m1 W (hm1.later h) hv1 hsm1 h1.1 h1.2
  have HV2 := Lib.hid fun W (h : Below w.heap.size w W) => rvalid_any _ m2 W (hm2.later h) hv2 hsm2 h2.1 h2.2
  have HQ := Lib.hid fun W (h : Below w.heap.size w W) => requal_any _ _ m1 m2 W (hm1.later h) (hm2.later h) hv1 hv2 hsm1 hsm2
  clear hm1 hm2 hv1 hv2 hsm1 hsm2 h1 h2 he1 ha1 he2 ha2
  generalize m1.ed.length = n1 at *
  generalize m1.ac.length = k1 at *
  generalize m2.ed.length = n2 at *
  generalize m2.ac.length = k2 at *
  obtain ⟨q, hq⟩ : ∃ q, decide (m1 = m2) = q := ⟨_, rfl⟩
  rw [hq] at HQ ⊢
  clear hq
  have HB0 : Hid (Bx w (.slice Ae1 n1 ce1) (.slice Aa1 k1 ca1) (.slice Ae2 n2 ce2) (.slice Aa2 k2 ca2) ((w.alloc (.cells #[.slice Ae1 n1 ce1, .slice Aa1 k1 ca1] 34)).alloc (.cells #[.slice Ae2 n2 ce2, .slice Aa2 k2 ca2] 34))) :=
    ⟨((Below.refl _ _).alloc (Nat.le_refl _) _).alloc (by simp) _, by simp, by rw [old_alloc _ _ _ (by simp)]; exact heap_alloc_new w _, by simpa using heap_alloc_new (w.alloc (.cells #[.slice Ae1 n1 ce1, .slice Aa1 k1 ca1] 34)) (.cells #[.slice Ae2 n2 ce2, .slice Aa2 k2 ca2] 34)⟩
  go_enter Tryz.func10, Tryz.ntmps10
  go_wp2_with fail
  refine (HV1.out _ HB0.out.bel).mono ?_
  rintro e w1 ⟨rfl, hb1⟩
  have HB1 := Lib.hid (HB0.out.later hb1)
  obtain ⟨b0, b1, b2, b3, s0, s1⟩ := HB1.out.cells
  clear hb1
  go_wp2_with fail
  refine (HV2.out _ HB1.out.bel).mono ?_
  rintro e w2 ⟨rfl, hb2⟩
  have HB2 := Lib.hid (HB1.out.later hb2)
  clear hb2 b0 b1 b2 b3 s0 s1
  obtain ⟨b0, b1, b2, b3, s0, s1⟩ := HB2.out.cells
  go_wp2_with fail
  refine (HQ.out _ HB2.out.bel).mono ?_
  rintro e w3 ⟨rfl, hb3⟩
  have HB3 := Lib.hid (HB2.out.later hb3)
  clear hb3
  go_wp2_with fail
  go_ret
  exact ⟨rfl, HB3.out.bel⟩
end Go.Proofs.YtjhmipidmpmlmaaGreatDoor
namespace Go.Proofs.YtjhmipidmpmlmaaGreatDoor
set_option linter.unusedVariables false
set_option linter.unusedSimpArgs false
set_option maxRecDepth 100000
open Go.RowKit
open Go.Maps (Keyed)
theorem nil_cls {cs : List (Option Nat)} {m : Mc} (h : ClsOK m (clF cs)) (h1 : 1 ≤ m.ed.length) (hc : clF cs 0 = none) : ¬ LiveS m 0 := (h.dead 0 (by omega)).1 hc
theorem mcsm_nil : McSm ⟨[[]], [false]⟩ := ⟨fun r hr e he => (by simp at hr; subst hr; cases he), fun r hr => (by simp at hr; subst hr; simp), by simp⟩
theorem info_es : (Tryz.prog.info? 53).map (fun i => (i.zero, i.size, i.bytes)) = some (some (.slice none 0 0), 1, 24) := by kernel_rfl
theorem own_at1 {w : World} {B n c : Nat} {e : TypeId} {xs : List Value} {A : Option Addr} (h : w.ownsRow B e 1 (.slice A n c) n xs) (hn : 0 < n) : ∃ g, A = some ⟨g, 0, none⟩ ∧ B ≤ g ∧ g < w.heap.size ∧ ∀ i, i < n → w.cell? ⟨g, i, none⟩ = xs[i]? := by
  rcases h.2 with ⟨h1, h2⟩ | ⟨g, cap, cur, h1, hB, hg, -⟩
  · exfalso; injection h1 with h1 h1'; omega
  · injection h1 with h1 _ h3
    subst h1
    exact ⟨g, rfl, hB, (Array.getElem?_eq_some_iff.1 hg).1, fun i hi => World.ownsRow.cellAt h i (by omega)⟩
def factL10 (M gs nst cst i s ge fe n ce nrow cr g3 cc : Nat) (Ar : Option Addr) (J : List Ed) (W : World) : Nat → Nat → Value → World → Prop
  | c, 0, x, w => x = .pointer (some ⟨M, 0, none⟩)
  | c, 1, x, w => x = .slice (some ⟨ge, fe, none⟩) n ce
  | c, 2, x, w => x = .slice (some ⟨gs, 0, none⟩) nst cst
  | c, 3, x, w => x = .int .i64 (i : Int)
  | c, 4, x, w => x = .pointer (some ⟨gs, i, none⟩)
  | c, 5, x, w => x = .int .i64 (s : Int)
  | c, 6, x, w => x = .pointer (some ⟨ge, fe + s, none⟩)
  | c, 7, x, w => x = .slice Ar nrow cr
  | c, 8, x, w => x = .slice (some ⟨g3, 0, none⟩) n cc
  | c, 9, x, w => 1 ≤ c → ∃ A c', x = .slice A J.length c' ∧ OR 58 3 edC W.heap.size x J w
  | _, _, _, _ => True
def factL21 (N M gs nst cst i s ga fa n ca nj cj cE cA B0 : Nat) (AE AV Aj : Option Addr) (gv av : List Value) (a : Bool) (W : World) : Nat → Nat → Value → World → Prop
  | c, 0, x, w => x = .pointer (some ⟨N, 0, none⟩)
  | c, 1, x, w => x = .slice AE i cE
  | c, 2, x, w => x = .slice Aj nj cj
  | c, 3, x, w => ∃ g, x = .slice (some ⟨g, 0, none⟩) 1 1 ∧ W.heap.size ≤ g ∧ g < w.heap.size ∧ w.cell? ⟨g, 0, none⟩ = some (.slice Aj nj cj)
  | c, 4, x, w => 1 ≤ c → ∃ A c', x = .slice A (i + 1) c' ∧ w.ownsRow B0 53 1 x (i + 1) (gv ++ [.slice Aj nj cj]) ∧ Fresh x (.slice AE i cE) W.heap.size
  | c, 5, x, w => x = .pointer (some ⟨N, 1, none⟩)
  | c, 6, x, w => x = .slice AV i cA
  | c, 7, x, w => x = .pointer (some ⟨M, 1, none⟩)
  | c, 8, x, w => x = .slice (some ⟨ga, fa, none⟩) n ca
  | c, 9, x, w => x = .slice (some ⟨gs, 0, none⟩) nst cst
  | c, 10, x, w => x = .int .i64 (i : Int)
  | c, 11, x, w => x = .pointer (some ⟨gs, i, none⟩)
  | c, 12, x, w => x = .int .i64 (s : Int)
  | c, 13, x, w => x = .pointer (some ⟨ga, fa + s, none⟩)
  | c, 14, x, w => x = .bool a
  | c, 15, x, w => ∃ g, x = .slice (some ⟨g, 0, none⟩) 1 1 ∧ W.heap.size ≤ g ∧ g < w.heap.size ∧ w.cell? ⟨g, 0, none⟩ = some (.bool a)
  | c, 16, x, w => 2 ≤ c → ∃ A c', x = .slice A (i + 1) c' ∧ w.ownsRow B0 4 1 x (i + 1) (av ++ [.bool a]) ∧ Fresh x (.slice AV i cA) W.heap.size
  | c, 17, x, w => x = .pointer (some ⟨N, 0, none⟩)
  | c, 18, x, w => 3 ≤ c → ∃ A c', w.ownsRow B0 53 1 (.slice A (i + 1) c') (i + 1) (gv ++ [.slice Aj nj cj]) ∧ Fresh (.slice A (i + 1) c') (.slice AE i cE) W.heap.size ∧ w.heap[N]? = some (.cells #[.slice A (i + 1) c', .slice AV i cA] 34 (0, 0))
  | c, 19, x, w => x = .pointer (some ⟨N, 1, none⟩)
  | _, _, _, _ => True
section
variable {N M gs nst cst i s ga fa n ca nj cj cE cA B0 : Nat} {AE AV Aj : Option Addr} {gv av : List Value} {a : Bool} {W u u' : World}
theorem factL21_bl (hb : Below u.heap.size u u') {c j : Nat} {x : Value} (h : factL21 N M gs nst cst i s ga fa n ca nj cj cE cA B0 AE AV Aj gv av a W c j x u) : factL21 N M gs nst cst i s ga fa n ca nj cj cE cA B0 AE AV Aj gv av a W c j x u' := by
  match j with
  | 0 | 1 | 2 | 5 | 6 | 7 | 8 | 9 | 10 | 11 | 12 | 13 | 14 | 17 | 19 => exact h
  | 3 | 15 =>
    obtain ⟨g, e, h1, hg, h0⟩ := h
    exact ⟨g, e, h1, Nat.lt_of_lt_of_le hg hb.size, (hb.cell (p := ⟨g, 0, none⟩) hg).trans h0⟩
  | 4 | 16 =>
    intro hc
    obtain ⟨A, c', e, ho, hf⟩ := h hc
    exact ⟨A, c', e, own_later ho hb, hf⟩
  | 18 =>
    intro hc
    obtain ⟨A, c', ho, hf, hr⟩ := h hc
    exact ⟨A, c', own_later ho hb, hf, (hb.block _ (Array.getElem?_eq_some_iff.1 hr).1).trans hr⟩
  | _ + 20 => exact trivial
theorem factL21_01 (hg : u.grownBy u' (Value.slice AE i cE).ownBlock) (hv : ∀ g, (Value.slice AE i cE).ownBlock = some g → g < W.heap.size) (j : Nat) (x : Value) (hj : j ≠ 4) (h : factL21 N M gs nst cst i s ga fa n ca nj cj cE cA B0 AE AV Aj gv av a W 0 j x u) : factL21 N M gs nst cst i s ga fa n ca nj cj cE cA B0 AE AV Aj gv av a W 1 j x u' := by
  match j with
  | 0 | 1 | 2 | 5 | 6 | 7 | 8 | 9 | 10 | 11 | 12 | 13 | 14 | 17 | 19 => exact h
  | 3 | 15 => exact f814 hg hv h
  | 4 => exact absurd rfl hj
  | 16 | 18 => exact fun hc => by omega
  | _ + 20 => exact trivial
theorem factL21_12 (hg : u.grownBy u' (Value.slice AV i cA).ownBlock) (hv : ∀ g, (Value.slice AV i cA).ownBlock = some g → g < W.heap.size) (hd : ∀ g, (Value.slice AV i cA).ownBlock = some g → (Value.slice AE i cE).ownBlock ≠ some g) (j : Nat) (x : Value) (hj : j ≠ 16) (h : factL21 N M gs nst cst i s ga fa n ca nj cj cE cA B0 AE AV Aj gv av a W 1 j x u) : factL21 N M gs nst cst i s ga fa n ca nj cj cE cA B0 AE AV Aj gv av a W 2 j x u' := by
  match j with
  | 0 | 1 | 2 | 5 | 6 | 7 | 8 | 9 | 10 | 11 | 12 | 13 | 14 | 17 | 19 => exact h
  | 3 | 15 => exact f814 hg hv h
  | 4 =>
    intro _
    obtain ⟨A, c', e, ho, hf⟩ := h (by decide)
    refine ⟨A, c', e, own_same ho fun g hgx => hg.block g (ho.lt g hgx).2 (fun e2 => ?_), hf⟩
    rcases hf with hf | ⟨g', hf, h2⟩
    · rw [hf] at hgx; exact hd g e2.symm hgx
    · rw [hf] at hgx; injection hgx with hgx; have := hv g e2.symm; omega
  | 16 => exact absurd rfl hj
  | 18 => exact fun hc => by omega
  | _ + 20 => exact trivial
theorem factL21_23 (hs : N < W.heap.size) (hsS : (Value.slice AE i cE).ownBlock ≠ some N) (hsF : (Value.slice AV i cA).ownBlock ≠ some N) (v : Value) (j : Nat) (x : Value) (hj : j ≠ 18) (h : factL21 N M gs nst cst i s ga fa n ca nj cj cE cA B0 AE AV Aj gv av a W 2 j x u) : factL21 N M gs nst cst i s ga fa n ca nj cj cE cA B0 AE AV Aj gv av a W 3 j x (u.setCell ⟨N, 0, none⟩ v) := by
  have hset : ∀ k, k ≠ N → (u.setCell ⟨N, 0, none⟩ v).heap[k]? = u.heap[k]? := fun k hk => Below.heap_setCell _ _ _ _ hk
  match j with
  | 0 | 1 | 2 | 5 | 6 | 7 | 8 | 9 | 10 | 11 | 12 | 13 | 14 | 17 | 19 => exact h
  | 3 | 15 =>
    obtain ⟨g, e, h1, h2, h3⟩ := h
    exact ⟨g, e, h1, by simpa [World.setCell] using h2, (World.cell?_of_block (a := ⟨g, 0, none⟩) (hset g (by omega))).trans h3⟩
  | 4 =>
    intro _
    obtain ⟨A, c', e, ho, hf⟩ := h (by decide)
    refine ⟨A, c', e, own_same ho fun g hgx => hset g (fun e2 => ?_), hf⟩
    subst e2
    rcases hf with hf | ⟨g', hf, h2⟩
    · rw [hf] at hgx; exact hsS hgx
    · rw [hf] at hgx; injection hgx with hgx; omega
  | 16 =>
    intro _
    obtain ⟨A, c', e, ho, hf⟩ := h (by decide)
    refine ⟨A, c', e, own_same ho fun g hgx => hset g (fun e2 => ?_), hf⟩
    subst e2
    rcases hf with hf | ⟨g', hf, h2⟩
    · rw [hf] at hgx; exact hsF hgx
    · rw [hf] at hgx; injection hgx with hgx; omega
  | 18 => exact absurd rfl hj
  | _ + 20 => exact trivial
end
set_option maxHeartbeats 16000000 in
theorem least_of (v : Value) (m : Mc) (w : World) (hm : McIn w v m) (hv : Vld m) (hsm : McSm m) (h1 : 1 ≤ m.ed.length)
    (hal : ∀ W, Below w.heap.size w W → Calls Tryz.prog 68 #[v] W (ClPost m m.ed.length W)) : Calls Tryz.prog 39 #[v] w (LePost m w) := by
  obtain ⟨ve, va, rfl, he, ha⟩ := hm
  obtain ⟨Ae, ce, rfl, hce1, hce2⟩ := he.form
  obtain ⟨Aa, ca, rfl, hca1, hca2⟩ := ha.form
  obtain ⟨n, hn⟩ : ∃ n, m.ed.length = n := ⟨_, rfl⟩
  have hac : m.ac.length = n := by rw [hv.len, hn]
  have hnn := hsm.n
  rw [hac] at ha hca1
  rw [hn] at he hce1 h1 hnn
  rw [hn, hac] at hal
  have HAL := Lib.hid hal
  have HE := Lib.hid he
  have HA := Lib.hid ha
  have HV := Lib.hid hv
  have HSM := Lib.hid hsm
  have HN := Lib.hid (And.intro hn hac)
  have HN1 := Lib.hid h1
  have K : Keyed Tryz.prog 3 := Maps.int_keyed Tryz.underlying3
  have hz : ∀ w, (zeroValue 3).run Tryz.prog w = .ok (.int .i64 0) w := fun _ => by kernel_rfl
  have hmm := @run_makeMap Tryz.prog
  obtain ⟨ie, hie, he0, he1, he2⟩ := info_parts info_es
  obtain ⟨ib, hib, hb0, hb1, hb2⟩ := info_parts info_bool
  obtain ⟨ii, hii, hj0, hj1, hj2⟩ := info_parts info_int
  rw [hac, hn]
  clear hal he ha hv hsm hn hac
  go_enter Tryz.func39, Tryz.ntmps39
  go_wp2_with fail
  refine (HAL.out _ ?hb0).mono ?_
  case hb0 => exact ((Below.refl w.heap.size w).alloc (Nat.le_refl _) _).alloc (by simp) _
  rintro e w1 ⟨rv, cs, rfl, hown1, hb1, hl1, hok1, hlt1⟩
  have hsz0 : ((w.alloc (.cells #[.slice Ae n ce, .slice Aa n ca] 34)).alloc (.cells #[.slice none 0 0, .slice none 0 0] 34)).heap.size = w.heap.size + 2 := by simp
  rw [hsz0] at hown1 hb1
  have hbx0 : w1.heap[w.heap.size]? = some (.cells #[.slice Ae n ce, .slice Aa n ca] 34 (0, 0)) := (hb1.block _ (by omega)).trans ((old_alloc _ _ _ (by simp)).trans (heap_alloc_new w _))
  have hbx1 : w1.heap[w.heap.size + 1]? = some (.cells #[.slice none 0 0, .slice none 0 0] 34 (0, 0)) := (hb1.block _ (by omega)).trans (by simpa using heap_alloc_new (w.alloc (.cells #[.slice Ae n ce, .slice Aa n ca] 34)) (.cells #[.slice none 0 0, .slice none 0 0] 34))
  have hz1 := hb1.size
  rw [hsz0] at hz1
  have hbw1 : Below w.heap.size w w1 := (((Below.refl w.heap.size w).alloc (Nat.le_refl _) _).alloc (by simp) _).trans (hb1.mono (by omega))
  obtain ⟨Ac, cc, rfl, hcc, -⟩ : ∃ A c, rv = .slice A n c ∧ n ≤ c ∧ True := by
    obtain ⟨A, c, e, h, -⟩ := hown1.cells clC_E
    exact ⟨A, c, by rw [e, hl1], by omega, trivial⟩
  obtain ⟨g3, rfl⟩ : ∃ g, Ac = some ⟨g, 0, none⟩ := by
    obtain ⟨A, c, e, -, hor⟩ := hown1.cells clC_E
    obtain ⟨g, hA, -⟩ := hor.resolve_left (by rintro rfl; simp at hl1; omega)
    injection e with e1 _ _
    exact ⟨g, by rw [e1, hA]⟩
  obtain ⟨cc0, -⟩ := hown1.cellC 0 (by omega)
  have hg3 := hown1.lt1
  have hd0 : decide (0 < n) = true := decide_eq_true (by omega)
  have HC := Lib.hid hown1
  have HB1 := Lib.hid hbw1
  have HX0 := Lib.hid hbx0
  have HX1 := Lib.hid hbx1
  have HCL := Lib.hid (And.intro hl1 (And.intro hok1 hlt1))
  have lx1 : w.heap.size + 1 < w1.heap.size := by omega
  have lx2 : w.heap.size + 1 < w1.heap.size + 1 := by omega
  obtain ⟨r0, r1⟩ : w1.cell? ⟨w.heap.size + 1, 0, none⟩ = some (.slice none 0 0) ∧ w1.cell? ⟨w.heap.size + 1, 1, none⟩ = some (.slice none 0 0) := by constructor <;> (rw [cell_of_row _ _ _ _ _ _ hbx1]; rfl)
  have fr0 : w1.frozen? ⟨w.heap.size + 1, 0, none⟩ = false := by simp [World.frozen?, hbx1]
  have fr1 : w1.frozen? ⟨w.heap.size + 1, 1, none⟩ = false := by simp [World.frozen?, hbx1]
  clear hown1 hb1 hsz0 hbx0 hbx1 hbw1 hl1 hok1 hlt1
  cases hc0 : clF cs 0 with
  | none =>
    rw [hc0] at cc0
    have cc1 : w1.cell? ⟨g3, 0, none⟩ = some (.int .i64 (-1)) := cc0
    have HC0 := Lib.hid hc0
    clear cc0 hc0
    go_wp2_with fail
    refine post_named fun Wf hWf => ?_
    refine bodyPost_ret (v := .agg #[.slice (some ⟨w1.heap.size, 0, none⟩) 1 1, .slice (some ⟨w1.heap.size + 1, 0, none⟩) 1 1]) (by rw [hWf]; simp [results, Tryz.results39, go_sem, r0, r1, lx1, lx2]; try rfl) rfl ?_
    have hg0 : Wf.heap[w1.heap.size]? = some (.cells #[.slice none 0 0] 53 (0, 0)) := by
      rw [hWf, old_alloc _ _ _ (by simp [World.setCell])]
      have h1 := heap_alloc_new ((w1.setCell ⟨w.heap.size + 1, 0, none⟩ (.slice (some ⟨w1.heap.size, 0, none⟩) 1 1)).setCell ⟨w.heap.size + 1, 1, none⟩ (.slice (some ⟨w1.heap.size + 1, 0, none⟩) 1 1)) (.cells #[.slice none 0 0] 53)
      simpa [World.setCell] using h1
    have hg1 : Wf.heap[w1.heap.size + 1]? = some (.cells #[.bool false] 4 (0, 0)) := by
      rw [hWf]
      have h1 := heap_alloc_new (((w1.setCell ⟨w.heap.size + 1, 0, none⟩ (.slice (some ⟨w1.heap.size, 0, none⟩) 1 1)).setCell ⟨w.heap.size + 1, 1, none⟩ (.slice (some ⟨w1.heap.size + 1, 0, none⟩) 1 1)).alloc (.cells #[.slice none 0 0] 53)) (.cells #[.bool false] 4)
      simpa [World.setCell] using h1
    have hbf : Below w.heap.size w Wf := by
      rw [hWf]
      exact (((HB1.out.setCell (p := ⟨w.heap.size + 1, 0, none⟩) (by show w.heap.size ≤ w.heap.size + 1; omega) _).setCell (p := ⟨w.heap.size + 1, 1, none⟩) (by show w.heap.size ≤ w.heap.size + 1; omega) _).alloc (by simp [World.setCell]; omega) _).alloc (by simp [World.setCell]; omega) _
    have hww1 := HB1.out.size
    have hup : McUp w.heap.size Wf (.agg #[.slice (some ⟨w1.heap.size, 0, none⟩) 1 1, .slice (some ⟨w1.heap.size + 1, 0, none⟩) 1 1]) ⟨[[]], [false]⟩ := fun W' hk => by
      have hg0' := (hk.blk w1.heap.size (Array.getElem?_eq_some_iff.1 hg0).1 (fun h => by have := List.mem_range.1 h; omega)).trans hg0
      have hg1' := (hk.blk (w1.heap.size + 1) (Array.getElem?_eq_some_iff.1 hg1).1 (fun h => by have := List.mem_range.1 h; omega)).trans hg1
      refine ⟨_, _, rfl, ⟨_, _, rfl, ⟨by simp, by simp⟩, .inr ⟨w1.heap.size, 0, rfl, (Array.getElem?_eq_some_iff.1 hg0').1, fun i hi => ?_⟩⟩, ⟨_, _, rfl, ⟨by simp, by simp⟩, .inr ⟨w1.heap.size + 1, 0, rfl, (Array.getElem?_eq_some_iff.1 hg1').1, fun i hi => ?_⟩⟩⟩
      · simp at hi; subst hi
        exact ⟨_, by rw [cell_of_row _ _ _ _ _ _ hg0']; rfl, ⟨none, 0, rfl, ⟨by simp, by simp⟩, .inl rfl⟩⟩
      · simp at hi; subst hi
        rw [cell_of_row _ _ _ _ _ _ hg1']; rfl
    refine ⟨_, ⟨[[]], [false]⟩, rfl, hup, hbf, .inr ⟨nil_cls HCL.out.2.1 (by rw [HN.out.1]; exact HN1.out) HC0.out, rfl⟩, by simp; have := HN1.out; have := HN.out.1; omega, mcsm_nil⟩
  | some c0 =>
    rw [hc0] at cc0
    have cc1 : w1.cell? ⟨g3, 0, none⟩ = some (.int .i64 (c0 : Int)) := cc0
    have hdc : decide ((c0 : Int) < 0) = false := decide_eq_false (by omega)
    have HC0 := Lib.hid hc0
    have hc0n : c0 < n := HCL.out.2.2 0 c0 hc0
    have hkey0 : keyOf Tryz.prog 3 (.int .i64 (c0 : Int)) = some (.int .i64 (c0 : Int)) := Maps.keyOf_int_mk Tryz.underlying3 (WalkArith.wf_i64 (by omega))
    have hmv0 := MV.made Tryz.prog 3
    clear cc0 hc0
    go_wp2_with (refine wpList_ins_MV _ rfl _ _ _ 109 rfl 3 3 K Tryz.underlying109 w1.heap.size 0 (fun _ => none) rfl (hmv0 _) (by decide) _ _ (.int .i64 (c0 : Int)) rfl rfl hkey0 trivial ?_)
    intro w2 hmv2 hg2
    have hsz2 : (w1.alloc (.map #[] 0)).heap.size = w1.heap.size + 1 := by simp
    have hz2 := hg2.size
    rw [hsz2] at hz2
    have hb2 : Below w1.heap.size w1 w2 := ((Below.refl _ w1).alloc (Nat.le_refl _) (.map #[] 0)).grown hg2 (by omega) (fun q hq => by injection hq with hq; omega)
    have HMV2 := Lib.hid hmv2
    have HB2 := Lib.hid hb2
    clear hmv2 hg2 hb2 hsz2 hmv0
    go_wp2_with fail
    refine wp_named fun W hW => ?_
    have hbW : Below w2.heap.size w2 W := by rw [hW]; exact ((Below.refl _ _).alloc (Nat.le_refl _) _).alloc (by simp) _
    have hzW : W.heap.size = w2.heap.size + 2 := by rw [hW]; simp
    have hst0 : OR 3 1 clC w2.heap.size (.slice (some ⟨w2.heap.size, 0, none⟩) 1 1) [some 0] W := by rw [hW]; exact OR.later (zeros_new w2 1 (by omega)) ((Below.refl _ _).alloc (by simp) _)
    have hNW : W.heap[w2.heap.size + 1]? = some (.cells #[.slice none 0 0, .slice none 0 0] 34 (0, 0)) := by rw [hW]; simpa using heap_alloc_new (w2.alloc _) (.cells #[.slice none 0 0, .slice none 0 0] 34)
    have hmb := HMV2.out.lt
    have hL0 : LeS m (clF cs) w1.heap.size (w2.heap.size + 1) w1.heap.size 0 [] [] [] (.slice none 0 0) (.slice none 0 0) [] [] 0 [0] (updV (fun _ => none) (.int .i64 (c0 : Int)) (some (.int .i64 0))) (.slice (some ⟨w2.heap.size, 0, none⟩) 1 1) W := by
      refine ⟨⟨hNW, by omega, World.ownsRow_nil _ _ _ _, fun i hi => (by cases hi), OR.nil_ _ _ _, fun k hk hx => ?_⟩, HMV2.out.kept (hbW.block _ hmb), Nat.le_refl _, SaysC.first HC0.out, ?_, LeI.start (by rw [HC0.out]; simp) (by rw [HN.out.1]; exact HN1.out), rfl⟩
      · have h1 : k = w2.heap.size + 1 := by rcases mem_fpM.1 hk with h | h | h; exact h; cases h; cases h
        rcases List.mem_cons.1 hx with h | h
        · omega
        · simp [blk, Value.ownBlock] at h; omega
      · have := (OR.mono hst0 (show w1.heap.size ≤ w2.heap.size by omega))
        exact this
    have HL0 := Lib.hid hL0
    have HBW := Lib.hid (HB2.out.trans (hbW.mono (by omega)))
    clear hW hbW hst0 hNW hL0 cc1 HC0 hdc hkey0 hd0
    go_wp2_with fail
    go_loopw [7, 5] (fun iv vst wr => ∃ (i : Nat) (st : List Nat) (rs : List (List Ed)) (acs : List Bool) (vE vA : Value) (gv : List Value) (t : Nat) (F : Lit → Option Value), iv = .int .i64 (i : Int) ∧ i ≤ n ∧ Hid (LeS m (clF cs) w1.heap.size (w2.heap.size + 1) w1.heap.size i [] rs acs vE vA gv [] t st F vst wr) ∧ Hid (Below w1.heap.size w1 wr)) (fun iv _ _ => n - (intOf iv).toNat)
    case atStart => exact ⟨0, [0], [], [], _, _, [], 0, _, rfl, Nat.zero_le _, HL0, HBW⟩
    case round =>
      obtain ⟨i, st, rs, acs, vE, vA, gv, t, F, rfl, hin, HL, HB⟩ := hrel
      have hil := HL.out.le.il
      have hstn := HL.out.le.nodup
      rw [HN.out.1] at hstn
      obtain ⟨As, cst, rfl, hcst, -⟩ := own_form HL.out.own
      obtain ⟨nst, hnst⟩ : ∃ x, st.length = x := ⟨_, rfl⟩
      rw [hnst] at hil hstn hcst
      have HNST := Lib.hid hnst
      rw [hnst] at HL ⊢
      clear hnst
      have hwr := HB.out.size
      by_cases hlt : i < nst
      · have hd : decide ((i : Int) < (nst : Int)) = true := decide_eq_true (by omega)
        have hdi : decide (i < nst) = true := decide_eq_true hlt
        obtain ⟨s, hs⟩ : ∃ s, st[i]? = some s := ⟨_, List.getElem?_eq_getElem (show i < st.length by rw [HNST.out]; exact hlt)⟩
        obtain ⟨hsn', -⟩ := HL.out.le.lv s (List.mem_of_getElem? hs)
        have hsn : s < n := by rw [HN.out.1] at hsn'; exact hsn'
        have hown := HL.out.own
        rw [HNST.out] at hown
        obtain ⟨gs, rfl, hgsB, lgs, hgc⟩ := own_at1 hown (by omega)
        have xst : wr.cell? ⟨gs, i, none⟩ = some (.int .i64 (s : Int)) := by rw [hgc i hlt]; unfold ints; rw [List.getElem?_map, hs]; rfl
        have hbw : Below w.heap.size w wr := HB1.out.trans (HB.out.mono HB1.out.size)
        obtain ⟨ge, fe, rv0, rfl, -, hge, hce0, hed0⟩ := HE.out.at_ hsn'
        obtain ⟨ga, fa, rfl, -, hga, hca0⟩ := HA.out.at_ (show s < m.ac.length by rw [HN.out.2]; exact hsn)
        have xrow := (World.cell?_of_block (a := ⟨ge, fe + s, none⟩) (hbw.block ge hge)).trans hce0
        have xac0 := (World.cell?_of_block (a := ⟨ga, fa + s, none⟩) (hbw.block ga hga)).trans hca0
        have hed := hed0.later hbw
        obtain ⟨row, hrow⟩ : ∃ r, m.ed[s] = r := ⟨_, rfl⟩
        obtain ⟨a, haa⟩ : ∃ b, m.ac[s]'(by rw [HN.out.2]; exact hsn) = b := ⟨_, rfl⟩
        rw [hrow] at hed
        rw [haa] at xac0
        have hrm : row ∈ m.ed := by rw [← hrow]; exact List.getElem_mem hsn'
        have hrM : rowM m s = row := by unfold rowM; rw [List.getElem?_eq_getElem hsn', hrow]; rfl
        have haM : (m.ac[s]?).getD false = a := by rw [List.getElem?_eq_getElem (by rw [HN.out.2]; exact hsn), haa]; rfl
        have hjb := joinF_by (cls := clF cs) (HV.out.srt row hrm) (HSM.out.by_ row hrm)
        have HTO := Lib.hid (show ∀ e ∈ row, e.to < cs.length from fun e he => by rw [HCL.out.1, ← HN.out.1]; exact HV.out.to row hrm e he)
        have HBY := Lib.hid (HSM.out.by_ row hrm)
        obtain ⟨J, hJ⟩ : ∃ J, joinF (clF cs) row = J := ⟨_, rfl⟩
        have hJl := Nat.le_trans (joinF_len (clF cs) row) (HSM.out.rl row hrm)
        rw [hJ] at hjb hJl
        have HJB := Lib.hid (show ∀ e ∈ J, ∃ f, f < n ∧ clF cs f = some e.to from fun e he => by
          obtain ⟨-, -, f, hf, h3⟩ := hjb e he
          exact ⟨f.to, by rw [← HN.out.1]; exact HV.out.to row hrm f hf, h3⟩)
        have HJE := Lib.hid hJ
        have hrl := HSM.out.rl row hrm
        obtain ⟨Ar, cr, hrf, -⟩ := hed.form
        obtain ⟨nrow, hnrow⟩ : ∃ n, row.length = n := ⟨_, rfl⟩
        rw [hnrow] at hrf hrl
        have HNR := Lib.hid hnrow
        subst hrf
        have hed' : EdIn wr (.slice Ar nrow cr) row := hed
        have hM := (HB.out.block w.heap.size (by omega)).trans HX0.out
        obtain ⟨xm0, xm1⟩ : wr.cell? ⟨w.heap.size, 0, none⟩ = some (.slice (some ⟨ge, fe, none⟩) n ce) ∧ wr.cell? ⟨w.heap.size, 1, none⟩ = some (.slice (some ⟨ga, fa, none⟩) n ca) := by constructor <;> (rw [cell_of_row _ _ _ _ _ _ hM]; rfl)
        have hwz := hbw.size
        have lM : w.heap.size < wr.heap.size := (Array.getElem?_eq_some_iff.1 hM).1
        have lge : ge < wr.heap.size := by omega
        have lga : ga < wr.heap.size := by omega
        have HED := Lib.hid hed'
        have HCI := Lib.hid ((ClIn.of_OR HC.out).later (HB.out.mono (Nat.le_refl _)))
        have hit : i ≤ t := by have := HL.out.le.top; have h9 : t + 1 = st.length := this; have := HNST.out; omega
        have HS := Lib.hid (And.intro hs (And.intro hrM (And.intro haM hit)))
        have HXA := Lib.hid (And.intro xm1 xac0)
        have HGA := Lib.hid (And.intro hga hgsB)
        obtain ⟨W, hWeq⟩ : ∃ W : World, W = wr := ⟨_, rfl⟩
        subst hWeq
        have hS0 : Below W.heap.size W W.drew := (Below.refl _ _).drew
        clear hsn' hown hgc hbw hge hga hce0 hca0 hed hed0 hed' hrow haa hrm hrM haM hjb hJ hnrow hM hs hgsB hit xm1 xac0
        go_wp2_with fail
        refine wp_region_chain 10 [9] (factL10 w.heap.size gs nst cst i s ge fe n ce nrow cr g3 cc Ar J W) (fun _ w' => Below W.heap.size W w') (by kernel_rfl) (by kernel_rfl) (by kernel_rfl) (by kernel_rfl) (by kernel_rfl) (by kernel_rfl) (by decide) hS0 ?_ ?_
        · simp only [List.take_succ_cons, List.take_zero]
          refine HSteps.pure (by decide) ?_ (HSteps.pure (by decide) ?_ (HSteps.pure (by decide) ?_ (HSteps.pure (by decide) ?_ (HSteps.pure (by decide) ?_ (HSteps.pure (by decide) ?_ (HSteps.pure (by decide) ?_ (HSteps.pure (by decide) ?_ (HSteps.pure (by decide) ?_ (HSteps.eff 0 rfl ?_ (HSteps.nil))))))))))
          · intro v wz c hlo hS hE K hK
            simp only [putAll, Act.put, List.setIfInBounds_toArray, List.set_cons_zero, List.set_cons_succ, Nat.zero_add, Nat.reduceAdd, List.take_succ_cons, List.take_zero] at hK ⊢
            have HX := Lib.hid hS
            clear hS hE hlo
            go_wp2_with fail
            exact hK.out _ rfl
          · intro v wz c hlo hS hE K hK
            simp only [putAll, Act.put, List.setIfInBounds_toArray, List.set_cons_zero, List.set_cons_succ, Nat.zero_add, Nat.reduceAdd, List.take_succ_cons, List.take_zero] at hK ⊢
            have e0 : v 0 = _ := hE.1 rfl
            rw [e0] at hK ⊢
            have c1 := (hS.cell (p := ⟨w.heap.size, 0, none⟩) lM).trans xm0
            have l1 : w.heap.size < wz.heap.size := by have := hS.size; omega
            have HX := Lib.hid hS
            clear hS hE hlo
            go_wp2_with fail
            exact hK.out _ rfl
          · intro v wz c hlo hS hE K hK
            simp only [putAll, Act.put, List.setIfInBounds_toArray, List.set_cons_zero, List.set_cons_succ, Nat.zero_add, Nat.reduceAdd, List.take_succ_cons, List.take_zero] at hK ⊢
            have HX := Lib.hid hS
            clear hS hE hlo
            go_wp2_with fail
            exact hK.out _ rfl
          · intro v wz c hlo hS hE K hK
            simp only [putAll, Act.put, List.setIfInBounds_toArray, List.set_cons_zero, List.set_cons_succ, Nat.zero_add, Nat.reduceAdd, List.take_succ_cons, List.take_zero] at hK ⊢
            have HX := Lib.hid hS
            clear hS hE hlo
            go_wp2_with fail
            exact hK.out _ rfl
          · intro v wz c hlo hS hE K hK
            simp only [putAll, Act.put, List.setIfInBounds_toArray, List.set_cons_zero, List.set_cons_succ, Nat.zero_add, Nat.reduceAdd, List.take_succ_cons, List.take_zero] at hK ⊢
            have e2 : v 2 = _ := hE.1 rfl
            have e3 : v 3 = _ := hE.2.1 rfl
            rw [e2, e3] at hK ⊢
            have HX := Lib.hid hS
            clear hS hE hlo
            go_wp2_with fail
            exact hK.out _ rfl
          · intro v wz c hlo hS hE K hK
            simp only [putAll, Act.put, List.setIfInBounds_toArray, List.set_cons_zero, List.set_cons_succ, Nat.zero_add, Nat.reduceAdd, List.take_succ_cons, List.take_zero] at hK ⊢
            have e4 : v 4 = _ := hE.1 rfl
            rw [e4] at hK ⊢
            have c1 := (hS.cell (p := ⟨gs, i, none⟩) lgs).trans xst
            have l1 : gs < wz.heap.size := by have := hS.size; omega
            have HX := Lib.hid hS
            clear hS hE hlo
            go_wp2_with fail
            exact hK.out _ rfl
          · intro v wz c hlo hS hE K hK
            simp only [putAll, Act.put, List.setIfInBounds_toArray, List.set_cons_zero, List.set_cons_succ, Nat.zero_add, Nat.reduceAdd, List.take_succ_cons, List.take_zero] at hK ⊢
            have e1 : v 1 = _ := hE.1 rfl
            have e5 : v 5 = _ := hE.2.1 rfl
            rw [e1, e5] at hK ⊢
            have HX := Lib.hid hS
            clear hS hE hlo
            go_wp2_with fail
            exact hK.out _ rfl
          · intro v wz c hlo hS hE K hK
            simp only [putAll, Act.put, List.setIfInBounds_toArray, List.set_cons_zero, List.set_cons_succ, Nat.zero_add, Nat.reduceAdd, List.take_succ_cons, List.take_zero] at hK ⊢
            have e6 : v 6 = _ := hE.1 rfl
            rw [e6] at hK ⊢
            have c1 := (hS.cell (p := ⟨ge, fe + s, none⟩) lge).trans xrow
            have l1 : ge < wz.heap.size := by have := hS.size; omega
            have HX := Lib.hid hS
            clear hS hE hlo
            go_wp2_with fail
            exact hK.out _ rfl
          · intro v wz c hlo hS hE K hK
            simp only [putAll, Act.put, List.setIfInBounds_toArray, List.set_cons_zero, List.set_cons_succ, Nat.zero_add, Nat.reduceAdd, List.take_succ_cons, List.take_zero] at hK ⊢
            have HX := Lib.hid hS
            clear hS hE hlo
            go_wp2_with fail
            exact hK.out _ rfl
          · intro v wz hS hE K hK
            simp only [putAll, Act.put, List.setIfInBounds_toArray, List.set_cons_zero, List.set_cons_succ, Nat.zero_add, Nat.reduceAdd, List.take_succ_cons, List.take_zero] at hK ⊢
            have e7 : v 7 = _ := hE.1 rfl
            have e8 : v 8 = _ := hE.2.1 rfl
            rw [e7, e8] at hK ⊢
            have hcall := joined_any (.slice Ar nrow cr) (.slice (some ⟨g3, 0, none⟩) n cc) row cs wz (HED.out.later hS) (HCI.out.later hS) HTO.out HBY.out (by rw [HNR.out]; omega)
            have HC := Lib.hid hcall
            have HX := Lib.hid hS
            clear hS hE hcall
            go_wp2_with fail
            refine HC.out.mono ?_
            rintro e wy ⟨jv, rfl, ho, hb⟩
            obtain ⟨Aj, cj, rfl, -⟩ := (EdIn.of_OR ho).form
            have HBY2 := Lib.hid (HX.out.trans (hb.mono HX.out.size))
            have HJ := Lib.hid (ho.mono HX.out.size)
            rw [HJE.out] at HJ ⊢
            clear ho hb
            go_wp2_with fail
            refine hK.out _ _ (fun j z hj h => ?_) HBY2.out (fun _ => ⟨Aj, cj, rfl, HJ.out⟩)
            match j with
            | 0 | 1 | 2 | 3 | 4 | 5 | 6 | 7 | 8 => exact h
            | 9 => exact absurd rfl hj
            | _ + 10 => exact trivial
        · intro v wz hS hF
          have e0 : v 0 = _ := hF 0 (by decide)
          have e1 : v 1 = _ := hF 1 (by decide)
          have e2 : v 2 = _ := hF 2 (by decide)
          have e3 : v 3 = _ := hF 3 (by decide)
          have e4 : v 4 = _ := hF 4 (by decide)
          have e5 : v 5 = _ := hF 5 (by decide)
          have e6 : v 6 = _ := hF 6 (by decide)
          have e7 : v 7 = _ := hF 7 (by decide)
          have e8 : v 8 = _ := hF 8 (by decide)
          have E9 := hF 9 (by decide)
          simp only [putAll, Act.put, List.setIfInBounds_toArray, List.set_cons_zero, List.set_cons_succ, Nat.zero_add, Nat.reduceAdd, List.take_succ_cons, List.take_zero, List.drop_succ_cons, List.drop_zero, e0, e1, e2, e3, e4, e5, e6, e7, e8]
          clear hF e0 e1 e2 e3 e4 e5 e6 e7 e8
          obtain ⟨Aj, cj, e9, hoj⟩ := E9 (Nat.le_refl _)
          rw [e9] at hoj ⊢
          have hK0 := HL.out.begin hS HB.out hoj
          obtain ⟨nj, hnj⟩ : ∃ n, J.length = n := ⟨_, rfl⟩
          rw [hnj] at hK0 hJl ⊢
          have HK0 := Lib.hid hK0
          have HNJ := Lib.hid hnj
          obtain ⟨BL, hBL⟩ : ∃ B, W.heap.size = B := ⟨_, rfl⟩
          rw [hBL] at HK0
          clear hS hoj hK0 hnj e9 E9 xrow xst xm0 HL HB hS0 HED HCI HTO HBY
          go_wp2_with fail
          go_loopw [46, 5] (fun kv vst wr => ∃ (k : Nat) (st' : List Nat) (F' : Lit → Option Value), kv = .int .i64 (k : Int) ∧ k ≤ nj ∧ Hid (LeK m (clF cs) (w2.heap.size + 1) w1.heap.size i BL rs acs vE vA gv J t st (.slice Aj nj cj) w1 k k st' F' vst wr)) (fun kv _ _ => nj - (intOf kv).toNat)
          case atStart => exact ⟨0, st, F, rfl, Nat.zero_le _, HK0⟩
          case round =>
            obtain ⟨k, st', F', rfl, hk, HK⟩ := hrel
            have hstn2 := HK.out.le.le.nodup
            rw [HN.out.1] at hstn2
            have hwr2 := HK.out.bl.size
            obtain ⟨As2, cst2, rfl, hcst2, -⟩ := own_form HK.out.le.own
            obtain ⟨ns2, hns2⟩ : ∃ x, st'.length = x := ⟨_, rfl⟩
            have hown2 := HK.out.le.own
            rw [hns2] at hown2 hcst2 hstn2 HK ⊢
            have HOW := Lib.hid hown2
            have HNS := Lib.hid hns2
            clear hns2 hown2
            by_cases hlt2 : k < nj
            · have hd2 : decide ((k : Int) < (nj : Int)) = true := decide_eq_true (by omega)
              have hkd : decide (k < nj) = true := decide_eq_true hlt2
              have hkJ : k < J.length := by rw [HNJ.out]; exact hlt2
              obtain ⟨gl, rfl⟩ : ∃ g, Aj = some ⟨g, 0, none⟩ := by
                obtain ⟨A, c, e, -, hor⟩ := HK.out.row.cells edC_E
                obtain ⟨g, hA, -⟩ := hor.resolve_left (by intro e2; have := ren_len (numC (clF cs) st') J k (by omega); rw [e2] at this; simp at this; omega)
                injection e with e1 _ _
                exact ⟨g, by rw [e1, hA]⟩
              have HKJ : Hid (LeK m (clF cs) (w2.heap.size + 1) w1.heap.size i BL rs acs vE vA gv J t st (.slice (some ⟨gl, 0, none⟩) J.length cj) w1 k k st' F' (.slice As2 ns2 cst2) wr) := by rw [HNJ.out]; exact HK
              obtain ⟨⟨e0, e1, e2⟩, ef, lgl⟩ := HKJ.out.cells hkJ
              obtain ⟨q, hq⟩ : ∃ e, J[k] = e := ⟨_, rfl⟩
              have hqm : q ∈ J := by rw [← hq]; exact List.getElem_mem hkJ
              obtain ⟨f0, hf0n, hf0⟩ := HJB.out q hqm
              have hqc := HCL.out.2.2 _ _ hf0
              obtain ⟨lo, hi, cl⟩ := q
              rw [hq] at e0 e1 e2
              simp only at e0 e1 e2 hf0 hqc
              have hb0 : Below wr.heap.size wr (wr.alloc (.cells #[.int .u8 (lo : Int), .int .u8 (hi : Int), .int .i64 (cl : Int)] 58)) := (Below.refl _ _).alloc (Nat.le_refl _) _
              have hK1 := HKJ.out.later hb0
              have hkey : keyOf Tryz.prog 3 (.int .i64 (cl : Int)) = some (.int .i64 (cl : Int)) := Maps.keyOf_int_mk Tryz.underlying3 (WalkArith.wf_i64 (by omega))
              have hmv := hK1.le.mv
              have hsy := hK1.le.say cl
              have hne3 : gl ≠ wr.heap.size := by omega
              have HQ := Lib.hid hq
              by_cases hinn : some cl ∈ st'.map (clF cs)
              · rw [if_pos hinn] at hsy
                have hlook : (Instr.lookup 109 (.map (some w1.heap.size)) (.int .i64 (cl : Int)) true).run Tryz.prog (wr.alloc (.cells #[.int .u8 (lo : Int), .int .u8 (hi : Int), .int .i64 (cl : Int)] 58)) = .ok (.tuple #[.int .i64 ((numC (clF cs) st' cl : Nat) : Int), .bool true]) (wr.alloc (.cells #[.int .u8 (lo : Int), .int .u8 (hi : Int), .int .i64 (cl : Int)] 58)) := by
                  have h1 := hmv.look_ok K Tryz.underlying109 hz hkey trivial
                  rw [hsy] at h1
                  exact h1
                obtain ⟨x, hx⟩ : ∃ x, numC (clF cs) st' cl = x := ⟨_, rfl⟩
                rw [hx] at hlook
                have hb9 : Below (wr.setCell ⟨gl, k * 3 + 2, none⟩ (.int .i64 (x : Int))).heap.size (wr.setCell ⟨gl, k * 3 + 2, none⟩ (.int .i64 (x : Int))) ((wr.setCell ⟨gl, k * 3 + 2, none⟩ (.int .i64 (x : Int))).alloc (.cells #[.int .u8 (lo : Int), .int .u8 (hi : Int), .int .i64 (cl : Int)] 58)) := (Below.refl _ _).alloc (Nat.le_refl _) _
                have hK3 := ((HKJ.out.old hkJ (by rw [hq]; exact hinn)).put hkJ (x := (x : Int)) (by rw [hq, ← hx])).later hb9
                rw [HNJ.out] at hK3
                have HK3 := Lib.hid hK3
                clear hK1 hmv hsy hinn hx hK3 hb9 hq hqm hf0 hf0n hb0 HKJ
                go_wp2_with fail
                go_roundw
                case rel => exact ⟨k + 1, st', F', by go_num, by omega, HK3⟩
                case measure => simp [intOf]; omega
              · rw [if_neg hinn] at hsy
                have hlook : (Instr.lookup 109 (.map (some w1.heap.size)) (.int .i64 (cl : Int)) true).run Tryz.prog (wr.alloc (.cells #[.int .u8 (lo : Int), .int .u8 (hi : Int), .int .i64 (cl : Int)] 58)) = .ok (.tuple #[.int .i64 0, .bool false]) (wr.alloc (.cells #[.int .u8 (lo : Int), .int .u8 (hi : Int), .int .i64 (cl : Int)] 58)) := by
                  have h1 := hmv.look_ok K Tryz.underlying109 hz hkey trivial
                  rw [hsy] at h1
                  exact h1
                have HMV := Lib.hid hmv
                have HK1 := Lib.hid hK1
                have HNI := Lib.hid hinn
                have HEX := Lib.hid (show ∃ s, s < n ∧ clF cs s = some cl from ⟨f0, hf0n, hf0⟩)
                have hns0 : st'.length < maxLen := by unfold maxLen; have := HNS.out; omega
                have hmv' : MV Tryz.prog 3 w1.heap.size ns2 F' (wr.alloc (.cells #[.int .u8 (lo : Int), .int .u8 (hi : Int), .int .i64 (cl : Int)] 58)) := by rw [← HNS.out]; exact hmv
                have HMV' := Lib.hid hmv'
                have hownE := World.ownsRow.alloc HOW.out (.cells #[.int .u8 (lo : Int), .int .u8 (hi : Int), .int .i64 (cl : Int)] 58)
                have HOE := Lib.hid hownE
                have hmlt : w1.heap.size < wr.heap.size := HKJ.out.le.mv.lt
                clear hK1 hmv hmv' hsy hinn hq hqm hf0 hf0n hb0 hownE hns0
                go_wp2_with (at_mapUpdate; refine wpList_put_MV _ rfl _ _ _ 109 rfl 3 3 K Tryz.underlying109 w1.heap.size ns2 F' rfl HMV'.out (by unfold maxLen; omega) _ _ _ rfl rfl hkey trivial ?_)
                intro wm hmvm hgm
                have hzm := hgm.size
                have hsz0 : (wr.alloc (.cells #[.int .u8 (lo : Int), .int .u8 (hi : Int), .int .i64 (cl : Int)] 58)).heap.size = wr.heap.size + 1 := by simp
                rw [hsz0] at hzm
                have hec : wm.cell? ⟨wr.heap.size, 2, none⟩ = some (.int .i64 (cl : Int)) := (World.cell?_of_block (a := ⟨wr.heap.size, 2, none⟩) (hgm.block _ (by simp) (fun e => by injection e with e; have e' : wr.heap.size = w1.heap.size := e; omega))).trans (by rw [cell_of_row _ _ _ _ _ _ (heap_alloc_new wr _)]; rfl)
                have hownM : wm.ownsRow w1.heap.size 3 1 (.slice As2 ns2 cst2) ns2 (ints st') := own_same HOE.out fun g hg => hgm.block g (HOE.out.lt g hg).2 fun e => mv_ne HMV'.out HOE.out (by rw [hg, e])
                have hbm : Below w1.heap.size w1 wm := HK1.out.bl.grown hgm HK1.out.bl.size (fun q hq => by injection hq with hq; omega)
                have hix := index_cls _ g3 n cc cl cs wm (OR.later HC.out hbm) HCL.out.1 (by omega) HEX.out
                have HIX := Lib.hid hix
                have HGM := Lib.hid (And.intro hmvm hgm)
                have HOM := Lib.hid hownM
                clear hix hmvm hgm hownM hbm hsz0
                go_wp2_with fail
                refine HIX.out.mono ?_
                rintro e wy ⟨s2, rfl, hwy, hs2n, hs2c⟩
                rw [hwy]
                clear hwy
                have hownA := World.ownsRow.alloc HOM.out (.cells #[.int .i64 (s2 : Int)] 3)
                have hcx : ∀ j u, ([.int .i64 (s2 : Int)] : List Value)[j]? = some u → (wm.alloc (.cells #[.int .i64 (s2 : Int)] 3)).cell? ((⟨wm.heap.size, 0, none⟩ : Addr).add j) = some u := fun j u hj => by
                  match j, hj with
                  | 0, hj => simp at hj; rw [← hj, Addr.add_lit, cell_of_row _ _ _ _ _ _ (heap_alloc_new wm _)]; rfl
                have hbz : w1.heap.size ≤ (wm.alloc (.cells #[.int .i64 (s2 : Int)] 3)).heap.size := by simp; omega
                have HB7 := Lib.hid (show Below wm.heap.size wm (wm.alloc (.cells #[.int .i64 (s2 : Int)] 3)) from (Below.refl _ _).alloc (Nat.le_refl _) _)
                go_wp2_with (at_builtin; refine appI_at rfl _ _ 22 rfl w1.heap.size 3 ii _ 1 8 Tryz.underlying22 hii hj0 hj1 hj2 rfl (by decide) _ ns2 (ints st') rfl hownA ⟨wm.heap.size, 0, none⟩ 1 1 [.int .i64 (s2 : Int)] rfl rfl hcx (by intro u hu; simp at hu; subst hu; rfl) (by unfold maxLen; omega) (by omega) hbz ?_)
                intro vst' w4 hown4 hg4 hf4
                have hf4' : Fresh vst' (.slice As2 ns2 cst2) (wm.alloc (.cells #[.int .i64 (s2 : Int)] 3)).heap.size := by rw [show (wm.alloc (.cells #[.int .i64 (s2 : Int)] 3)).heap.size = wm.heap.size + 1 by simp]; exact hf4
                obtain ⟨hk5, hnum⟩ := HK1.out.new hkJ HGM.out.2 (by rw [HQ.out, HNS.out]; exact HGM.out.1) HB7.out hg4 (by rw [HNS.out]; exact hown4) hf4' (by rw [HQ.out]; exact HNI.out) (by rw [HN.out.1]; exact hs2n) (by rw [HQ.out]; exact hs2c)
                rw [HNS.out] at hk5 hnum
                obtain ⟨A4, c4, rfl, -, -⟩ := own_form hown4
                obtain ⟨⟨-, -, f2⟩, ff, lgl4⟩ := hk5.cells hkJ
                have hk6 := hk5.put hkJ (x := (ns2 : Int)) (by rw [hnum])
                rw [HNJ.out] at hk6
                have HK6 := Lib.hid hk6
                clear hown4 hg4 hf4 hf4' hk5 hnum hk6 hownA hcx hbz hec
                go_wp2_with fail
                go_roundw
                case rel => exact ⟨k + 1, st' ++ [s2], _, by go_num, by omega, HK6⟩
                case measure => simp [intOf]; omega
            · have hkn : k = nj := by omega
              have hd2 : decide ((k : Int) < (nj : Int)) = false := decide_eq_false (by omega)
              have hle := HK.out.le
              have hrow := HK.out.row
              rw [List.take_of_length_le (by rw [HNJ.out]; omega)] at hle
              rw [List.take_of_length_le (by rw [HNJ.out]; omega), List.drop_of_length_le (by rw [HNJ.out]; omega), List.append_nil] at hrow
              have hpl : ∃ more, st' = st ++ more := HK.out.pre
              have hil2 := hle.le.il
              have hs2 : st'[i]? = some s := by
                obtain ⟨more, e⟩ := hpl
                rw [e, List.getElem?_append_left (by have := HNST.out; omega)]
                exact HS.out.1
              have hrl2 : rs.length = i := by rw [hle.le.rows, List.length_map, List.length_take]; omega
              have hal2 : acs.length = i := by rw [hle.ac, List.length_map, List.length_take]; omega
              have hmkE := hle.ma.own
              have hmkA : wr.ownsRow w1.heap.size 4 1 vA acs.length (rowF bC acs) := hle.ma.acc
              rw [hrl2] at hmkE
              rw [hal2] at hmkA
              obtain ⟨AE, cE, rfl, -, -⟩ := own_form hmkE
              obtain ⟨AV, cA, rfl, -, -⟩ := own_form hmkA
              obtain ⟨av, hav⟩ : ∃ av, rowF bC acs = av := ⟨_, rfl⟩
              rw [hav] at hmkA
              have hi2 : i < ns2 := by have := (List.getElem?_eq_some_iff.1 hs2).1; rw [HNS.out] at this; exact this
              obtain ⟨gs2, rfl, -, lgs, hgc⟩ := own_at1 HOW.out (by omega)
              have xst : wr.cell? ⟨gs2, i, none⟩ = some (.int .i64 (s : Int)) := by rw [hgc i (by omega)]; unfold ints; rw [List.getElem?_map, hs2]; rfl
              have hM := (HK.out.bl.block w.heap.size (by omega)).trans HX0.out
              have xm1 : wr.cell? ⟨w.heap.size, 1, none⟩ = some (.slice (some ⟨ga, fa, none⟩) n ca) := by rw [cell_of_row _ _ _ _ _ _ hM]; rfl
              have hbw : Below w.heap.size w wr := HB1.out.trans (HK.out.bl.mono HB1.out.size)
              have hacA : (m.ac[s]?).getD false = a := HS.out.2.2.1
              have hca0 : w.cell? ⟨ga, fa + s, none⟩ = some (.bool a) := by
                obtain ⟨ga', fa', e, -, -, h0⟩ := HA.out.at_ (show s < m.ac.length by rw [HN.out.2]; exact hsn)
                injection e with e; injection e with e1 e2
                rw [e1, e2, h0, ← hacA, List.getElem?_eq_getElem (by rw [HN.out.2]; exact hsn)]; rfl
              have xac := (World.cell?_of_block (a := ⟨ga, fa + s, none⟩) (hbw.block ga HGA.out.1)).trans hca0
              have hNr := hle.ma.hN
              obtain ⟨xn0, xn1⟩ : wr.cell? ⟨w2.heap.size + 1, 0, none⟩ = some (.slice AE i cE) ∧ wr.cell? ⟨w2.heap.size + 1, 1, none⟩ = some (.slice AV i cA) := by constructor <;> (rw [cell_of_row _ _ _ _ _ _ hNr]; rfl)
              have hltM := hle.ma.lt
              have hwz2 := hbw.size
              have hsl : w2.heap.size + 1 < wr.heap.size := (hltM _ (mem_fpM.2 (.inl rfl))).2
              have lM : w.heap.size < wr.heap.size := (Array.getElem?_eq_some_iff.1 hM).1
              have lga : ga < wr.heap.size := by have := HGA.out.1; omega
              have hww1 := HB1.out.size
              have nM : w.heap.size ∉ (w2.heap.size + 1) :: (blk (.slice AE i cE) ++ blk (.slice AV i cA)) := fun hm => by have := (hltM _ hm).1; omega
              have nga : ga ∉ (w2.heap.size + 1) :: (blk (.slice AE i cE) ++ blk (.slice AV i cA)) := fun hm => by have := (hltM _ hm).1; have := HGA.out.1; omega
              have ngs : gs2 ∉ (w2.heap.size + 1) :: (blk (.slice AE i cE) ++ blk (.slice AV i cA)) := fun hm => hle.ma.out _ hm (by simp [blk, Value.ownBlock])
              have hne : (∀ g, (Value.slice AE i cE).ownBlock = some g → g < wr.heap.size) ∧ (∀ g, (Value.slice AV i cA).ownBlock = some g → g < wr.heap.size) ∧ (∀ g, (Value.slice AV i cA).ownBlock = some g → (Value.slice AE i cE).ownBlock ≠ some g) ∧ (Value.slice AE i cE).ownBlock ≠ some (w2.heap.size + 1) ∧ (Value.slice AV i cA).ownBlock ≠ some (w2.heap.size + 1) ∧ (∀ g, (Value.slice AV i cA).ownBlock = some g → (Value.slice AE i cE).ownBlock ≠ some g ∧ g < wr.heap.size) := by
                have hd : ∀ g, (Value.slice AV i cA).ownBlock = some g → (Value.slice AE i cE).ownBlock ≠ some g := fun g hg e => hle.ma.neEA g e hg
                exact ⟨fun g hg => (hmkE.lt g hg).2, fun g hg => (hmkA.lt g hg).2, hd, hle.ma.neE, hle.ma.neA, fun g hg => ⟨hd g hg, (hmkA.lt g hg).2⟩⟩
              obtain ⟨W, hWeq⟩ : ∃ W : World, W = wr := ⟨_, rfl⟩
              subst hWeq
              have hS0 : StW6 (w2.heap.size + 1) (.slice AE i cE) (.slice AV i cA) W 0 W.drew := ⟨(KeepF.of_below (Below.refl _ _).drew).weak, fun _ => rfl, fun _ _ _ => rfl, fun _ => (Below.refl _ _).drew⟩
              have HNE := Lib.hid hne
              have HNB := Lib.hid hNr
              have HE1 := Lib.hid hmkE
              have HV1 := Lib.hid hmkA
              have HZ1 := Lib.hid hwr2
              have HLE := Lib.hid (And.intro hle (And.intro hrow hs2))
              have HBE := Lib.hid (And.intro HK.out.bl HK.out.hB)
              have HAV := Lib.hid (And.intro hav (And.intro hrl2 hal2))
              clear hle hrow hpl hil2 hs2 hrl2 hal2 hmkE hmkA hav hgc hM hbw hacA hca0 hNr hltM hne hkn hwr2
              go_wp2_with fail
              refine wp_region_chain 20 [4, 16, 18] (factL21 (w2.heap.size + 1) w.heap.size gs2 ns2 cst2 i s ga fa n ca nj cj cE cA w1.heap.size AE AV Aj gv av a W) (fun c w' => StW6 (w2.heap.size + 1) (.slice AE i cE) (.slice AV i cA) W c w') (by kernel_rfl) (by kernel_rfl) (by kernel_rfl) (by kernel_rfl) (by kernel_rfl) (by kernel_rfl) (by decide) hS0 ?_ ?_
              · simp only [List.take_succ_cons, List.take_zero]
                refine HSteps.pure (by decide) ?_ (HSteps.pure (by decide) ?_ (HSteps.pure (by decide) ?_ (HSteps.free (by decide) ?_ (HSteps.eff 0 rfl ?_ (HSteps.pure (by decide) ?_ (HSteps.pure (by decide) ?_ (HSteps.pure (by decide) ?_ (HSteps.pure (by decide) ?_ (HSteps.pure (by decide) ?_ (HSteps.pure (by decide) ?_ (HSteps.pure (by decide) ?_ (HSteps.pure (by decide) ?_ (HSteps.pure (by decide) ?_ (HSteps.pure (by decide) ?_ (HSteps.free (by decide) ?_ (HSteps.eff 1 rfl ?_ (HSteps.pure (by decide) ?_ (HSteps.eff 2 rfl ?_ (HSteps.pure (by decide) ?_ (HSteps.nil))))))))))))))))))))
                · intro v wz c hlo hS hE K hK
                  simp only [putAll, Act.put, List.setIfInBounds_toArray, List.set_cons_zero, List.set_cons_succ, Nat.zero_add, Nat.reduceAdd, List.take_succ_cons, List.take_zero] at hK ⊢
                  have HX := Lib.hid hS
                  clear hS hE hlo
                  go_wp2_with fail
                  exact hK.out _ rfl
                · intro v wz c hlo hS hE K hK
                  simp only [putAll, Act.put, List.setIfInBounds_toArray, List.set_cons_zero, List.set_cons_succ, Nat.zero_add, Nat.reduceAdd, List.take_succ_cons, List.take_zero] at hK ⊢
                  have e0 : v 0 = _ := hE.1 rfl
                  rw [e0] at hK ⊢
                  have hle := hlo 0 (by kernel_rfl)
                  have c1 := (World.cell?_of_block (a := ⟨w2.heap.size + 1, 0, none⟩) (hS.2.1 (by omega))).trans xn0
                  have l1 : w2.heap.size + 1 < wz.heap.size := by have := hS.1.size; omega
                  have HX := Lib.hid hS
                  clear hS hE hlo
                  go_wp2_with fail
                  exact hK.out _ rfl
                · intro v wz c hlo hS hE K hK
                  simp only [putAll, Act.put, List.setIfInBounds_toArray, List.set_cons_zero, List.set_cons_succ, Nat.zero_add, Nat.reduceAdd, List.take_succ_cons, List.take_zero] at hK ⊢
                  have HX := Lib.hid hS
                  clear hS hE hlo
                  go_wp2_with fail
                  exact hK.out _ rfl
                · intro v wz c hlo hS hE K hK
                  simp only [putAll, Act.put, List.setIfInBounds_toArray, List.set_cons_zero, List.set_cons_succ, Nat.zero_add, Nat.reduceAdd, List.take_succ_cons, List.take_zero] at hK ⊢
                  have e2 : v 2 = _ := hE.1 rfl
                  rw [e2] at hK ⊢
                  have hbz : Below wz.heap.size wz (wz.alloc (.cells #[.slice Aj nj cj] 53)) := (Below.refl _ _).alloc (Nat.le_refl _) _
                  have hzW := hS.1.size
                  have HX := Lib.hid hS
                  have HBZ := Lib.hid hbz
                  clear hS hE hlo hbz
                  go_wp2_with fail
                  exact hK.out _ _ (fun j y _ h => factL21_bl HBZ.out h) (HX.out.later hsl HNE.out.2.1 HBZ.out) ⟨wz.heap.size, rfl, hzW, by simp, by go_simp⟩
                · intro v wz hS hE K hK
                  simp only [putAll, Act.put, List.setIfInBounds_toArray, List.set_cons_zero, List.set_cons_succ, Nat.zero_add, Nat.reduceAdd, List.take_succ_cons, List.take_zero] at hK ⊢
                  have e1 : v 1 = _ := hE.1 rfl
                  rw [e1] at hK ⊢
                  have E3 := hE.2.1 rfl
                  obtain ⟨g, e3, hgW, hgl, hg0⟩ := E3
                  rw [e3] at hK ⊢
                  have hz := hS.2.2.2 rfl
                  have hown : wz.ownsRow w1.heap.size 53 1 (.slice AE i cE) i gv := own_later HE1.out hz
                  have hzz := hz.size
                  clear hz
                  have hcell : ∀ j u, ([.slice Aj nj cj] : List Value)[j]? = some u → wz.cell? ((⟨g, 0, none⟩ : Addr).add j) = some u := fun j u hj => by
                    match j, hj with
                    | 0, hj => simp at hj; rw [← hj, Addr.add_lit]; exact hg0
                  have HX := Lib.hid hS
                  clear hS hE
                  go_wp2_with (at_builtin; refine appI_at rfl _ _ 31 rfl w1.heap.size 53 ie (.slice none 0 0) 1 24 Tryz.underlying31 hie he0 he1 he2 rfl (by decide) _ i gv rfl hown ⟨g, 0, none⟩ 1 1 [.slice Aj nj cj] rfl rfl hcell (by intro u hu; simp at hu; subst hu; rfl) (by unfold maxLen; omega) (by omega) (by have := HZ1.out; omega) ?_)
                  intro v' wx hown1 hg1 hfr
                  obtain ⟨A', c', rfl, -, -⟩ := own_form hown1
                  have hfr2 : Fresh (.slice A' (i + 1) c') (.slice AE i cE) W.heap.size := hfr.imp id fun ⟨g, h1, h2⟩ => ⟨g, h1, Nat.le_trans hzz h2⟩
                  refine hK.out _ _ (factL21_01 hg1 HNE.out.1) (HX.out.s1 hsl hg1 HNE.out.2.2.2.1 HNE.out.2.2.2.2.2) (fun _ => ⟨A', c', rfl, hown1, hfr2⟩)
                · intro v wz c hlo hS hE K hK
                  simp only [putAll, Act.put, List.setIfInBounds_toArray, List.set_cons_zero, List.set_cons_succ, Nat.zero_add, Nat.reduceAdd, List.take_succ_cons, List.take_zero] at hK ⊢
                  have HX := Lib.hid hS
                  clear hS hE hlo
                  go_wp2_with fail
                  exact hK.out _ rfl
                · intro v wz c hlo hS hE K hK
                  simp only [putAll, Act.put, List.setIfInBounds_toArray, List.set_cons_zero, List.set_cons_succ, Nat.zero_add, Nat.reduceAdd, List.take_succ_cons, List.take_zero] at hK ⊢
                  have e5 : v 5 = _ := hE.1 rfl
                  rw [e5] at hK ⊢
                  have hle := hlo 1 (by kernel_rfl)
                  have c1 := (World.cell?_of_block (a := ⟨w2.heap.size + 1, 1, none⟩) (hS.2.1 (by omega))).trans xn1
                  have l1 : w2.heap.size + 1 < wz.heap.size := by have := hS.1.size; omega
                  have HX := Lib.hid hS
                  clear hS hE hlo
                  go_wp2_with fail
                  exact hK.out _ rfl
                · intro v wz c hlo hS hE K hK
                  simp only [putAll, Act.put, List.setIfInBounds_toArray, List.set_cons_zero, List.set_cons_succ, Nat.zero_add, Nat.reduceAdd, List.take_succ_cons, List.take_zero] at hK ⊢
                  have HX := Lib.hid hS
                  clear hS hE hlo
                  go_wp2_with fail
                  exact hK.out _ rfl
                · intro v wz c hlo hS hE K hK
                  simp only [putAll, Act.put, List.setIfInBounds_toArray, List.set_cons_zero, List.set_cons_succ, Nat.zero_add, Nat.reduceAdd, List.take_succ_cons, List.take_zero] at hK ⊢
                  have e7 : v 7 = _ := hE.1 rfl
                  rw [e7] at hK ⊢
                  have c1 := (World.cell?_of_block (a := ⟨w.heap.size, 1, none⟩) (hS.1.blk _ lM nM)).trans xm1
                  have l1 : w.heap.size < wz.heap.size := by have := hS.1.size; omega
                  have HX := Lib.hid hS
                  clear hS hE hlo
                  go_wp2_with fail
                  exact hK.out _ rfl
                · intro v wz c hlo hS hE K hK
                  simp only [putAll, Act.put, List.setIfInBounds_toArray, List.set_cons_zero, List.set_cons_succ, Nat.zero_add, Nat.reduceAdd, List.take_succ_cons, List.take_zero] at hK ⊢
                  have HX := Lib.hid hS
                  clear hS hE hlo
                  go_wp2_with fail
                  exact hK.out _ rfl
                · intro v wz c hlo hS hE K hK
                  simp only [putAll, Act.put, List.setIfInBounds_toArray, List.set_cons_zero, List.set_cons_succ, Nat.zero_add, Nat.reduceAdd, List.take_succ_cons, List.take_zero] at hK ⊢
                  have HX := Lib.hid hS
                  clear hS hE hlo
                  go_wp2_with fail
                  exact hK.out _ rfl
                · intro v wz c hlo hS hE K hK
                  simp only [putAll, Act.put, List.setIfInBounds_toArray, List.set_cons_zero, List.set_cons_succ, Nat.zero_add, Nat.reduceAdd, List.take_succ_cons, List.take_zero] at hK ⊢
                  have e9 : v 9 = _ := hE.1 rfl
                  have e10 : v 10 = _ := hE.2.1 rfl
                  rw [e9, e10] at hK ⊢
                  have HX := Lib.hid hS
                  clear hS hE hlo
                  go_wp2_with fail
                  exact hK.out _ rfl
                · intro v wz c hlo hS hE K hK
                  simp only [putAll, Act.put, List.setIfInBounds_toArray, List.set_cons_zero, List.set_cons_succ, Nat.zero_add, Nat.reduceAdd, List.take_succ_cons, List.take_zero] at hK ⊢
                  have e11 : v 11 = _ := hE.1 rfl
                  rw [e11] at hK ⊢
                  have c1 := (World.cell?_of_block (a := ⟨gs2, i, none⟩) (hS.1.blk _ lgs ngs)).trans xst
                  have l1 : gs2 < wz.heap.size := by have := hS.1.size; omega
                  have HX := Lib.hid hS
                  clear hS hE hlo
                  go_wp2_with fail
                  exact hK.out _ rfl
                · intro v wz c hlo hS hE K hK
                  simp only [putAll, Act.put, List.setIfInBounds_toArray, List.set_cons_zero, List.set_cons_succ, Nat.zero_add, Nat.reduceAdd, List.take_succ_cons, List.take_zero] at hK ⊢
                  have e8 : v 8 = _ := hE.1 rfl
                  have e12 : v 12 = _ := hE.2.1 rfl
                  rw [e8, e12] at hK ⊢
                  have HX := Lib.hid hS
                  clear hS hE hlo
                  go_wp2_with fail
                  exact hK.out _ rfl
                · intro v wz c hlo hS hE K hK
                  simp only [putAll, Act.put, List.setIfInBounds_toArray, List.set_cons_zero, List.set_cons_succ, Nat.zero_add, Nat.reduceAdd, List.take_succ_cons, List.take_zero] at hK ⊢
                  have e13 : v 13 = _ := hE.1 rfl
                  rw [e13] at hK ⊢
                  have c1 := (World.cell?_of_block (a := ⟨ga, fa + s, none⟩) (hS.1.blk _ lga nga)).trans xac
                  have l1 : ga < wz.heap.size := by have := hS.1.size; omega
                  have HX := Lib.hid hS
                  clear hS hE hlo
                  go_wp2_with fail
                  exact hK.out _ rfl
                · intro v wz c hlo hS hE K hK
                  simp only [putAll, Act.put, List.setIfInBounds_toArray, List.set_cons_zero, List.set_cons_succ, Nat.zero_add, Nat.reduceAdd, List.take_succ_cons, List.take_zero] at hK ⊢
                  have e14 : v 14 = _ := hE.1 rfl
                  rw [e14] at hK ⊢
                  have hbz : Below wz.heap.size wz (wz.alloc (.cells #[.bool a] 4)) := (Below.refl _ _).alloc (Nat.le_refl _) _
                  have hzW := hS.1.size
                  have HX := Lib.hid hS
                  have HBZ := Lib.hid hbz
                  clear hS hE hlo hbz
                  go_wp2_with fail
                  exact hK.out _ _ (fun j y _ h => factL21_bl HBZ.out h) (HX.out.later hsl HNE.out.2.1 HBZ.out) ⟨wz.heap.size, rfl, hzW, by simp, by go_simp⟩
                · intro v wz hS hE K hK
                  simp only [putAll, Act.put, List.setIfInBounds_toArray, List.set_cons_zero, List.set_cons_succ, Nat.zero_add, Nat.reduceAdd, List.take_succ_cons, List.take_zero] at hK ⊢
                  have e6 : v 6 = _ := hE.1 rfl
                  rw [e6] at hK ⊢
                  have E15 := hE.2.1 rfl
                  obtain ⟨g, e15, hgW, hgl, hg0⟩ := E15
                  rw [e15] at hK ⊢
                  have hown : wz.ownsRow w1.heap.size 4 1 (.slice AV i cA) i av := own_same HV1.out fun g hg => hS.2.2.1 (by decide) g hg
                  have hzz := hS.1.size
                  have hcell : ∀ j u, ([.bool a] : List Value)[j]? = some u → wz.cell? ((⟨g, 0, none⟩ : Addr).add j) = some u := fun j u hj => by
                    match j, hj with
                    | 0, hj => simp at hj; rw [← hj, Addr.add_lit]; exact hg0
                  have HX := Lib.hid hS
                  clear hS hE
                  go_wp2_with (at_builtin; refine appI_at rfl _ _ 32 rfl w1.heap.size 4 ib (.bool false) 1 1 Tryz.underlying32 hib hb0 hb1 hb2 rfl (by decide) _ i av rfl hown ⟨g, 0, none⟩ 1 1 [.bool a] rfl rfl hcell (by intro u hu; simp at hu; subst hu; rfl) (by unfold maxLen; omega) (by omega) (by have := HZ1.out; omega) ?_)
                  intro v' wx hown1 hg1 hfr
                  obtain ⟨A', c', rfl, -, -⟩ := own_form hown1
                  have hfr2 : Fresh (.slice A' (i + 1) c') (.slice AV i cA) W.heap.size := hfr.imp id fun ⟨g, h1, h2⟩ => ⟨g, h1, Nat.le_trans hzz h2⟩
                  refine hK.out _ _ (factL21_12 hg1 HNE.out.2.1 HNE.out.2.2.1) (HX.out.s2 hsl hg1 HNE.out.2.2.2.2.1) (fun _ => ⟨A', c', rfl, hown1, hfr2⟩)
                · intro v wz c hlo hS hE K hK
                  simp only [putAll, Act.put, List.setIfInBounds_toArray, List.set_cons_zero, List.set_cons_succ, Nat.zero_add, Nat.reduceAdd, List.take_succ_cons, List.take_zero] at hK ⊢
                  have HX := Lib.hid hS
                  clear hS hE hlo
                  go_wp2_with fail
                  exact hK.out _ rfl
                · intro v wz hS hE K hK
                  simp only [putAll, Act.put, List.setIfInBounds_toArray, List.set_cons_zero, List.set_cons_succ, Nat.zero_add, Nat.reduceAdd, List.take_succ_cons, List.take_zero] at hK ⊢
                  have e17 : v 17 = _ := hE.1 rfl
                  rw [e17] at hK ⊢
                  have E4 := hE.2.1 rfl
                  obtain ⟨A, c', ev, ho, hfr⟩ := E4 (by decide)
                  rw [ev] at hK ho hfr ⊢
                  have hrow := (hS.2.1 (by decide)).trans HNB.out
                  have cz : wz.cell? ⟨w2.heap.size + 1, 0, none⟩ = some (.slice AE i cE) := by rw [cell_of_row _ _ _ _ _ _ hrow]; rfl
                  have fz : wz.frozen? ⟨w2.heap.size + 1, 0, none⟩ = false := by simp [World.frozen?, hrow]
                  have HX := Lib.hid hS
                  have HO := Lib.hid (And.intro ho (And.intro hfr hrow))
                  clear hS hE ho hfr hrow ev
                  go_wp2_with fail
                  have hns : ∀ g, (Value.slice A (i + 1) c').ownBlock = some g → g ≠ w2.heap.size + 1 := fun g hg => HO.out.2.1.elim (fun e => by rw [e] at hg; intro e2; subst e2; exact HNE.out.2.2.2.1 hg) fun ⟨g', e, h2⟩ => by rw [e] at hg; injection hg with hg; omega
                  refine hK.out undef _ (factL21_23 hsl HNE.out.2.2.2.1 HNE.out.2.2.2.2.1 _) (HX.out.s3 _) (fun _ => ⟨A, c', own_same HO.out.1 fun g hg => Below.heap_setCell _ _ _ _ (hns g hg), HO.out.2.1, by have := set_row3 HO.out.2.2 0 (.slice A (i + 1) c'); simpa using this⟩)
                · intro v wz c hlo hS hE K hK
                  simp only [putAll, Act.put, List.setIfInBounds_toArray, List.set_cons_zero, List.set_cons_succ, Nat.zero_add, Nat.reduceAdd, List.take_succ_cons, List.take_zero] at hK ⊢
                  have HX := Lib.hid hS
                  clear hS hE hlo
                  go_wp2_with fail
                  exact hK.out _ rfl
              · intro v wz hS hF
                have e0 : v 0 = _ := hF 0 (by decide)
                have e1 : v 1 = _ := hF 1 (by decide)
                have e2 : v 2 = _ := hF 2 (by decide)
                have e5 : v 5 = _ := hF 5 (by decide)
                have e6 : v 6 = _ := hF 6 (by decide)
                have e7 : v 7 = _ := hF 7 (by decide)
                have e8 : v 8 = _ := hF 8 (by decide)
                have e9 : v 9 = _ := hF 9 (by decide)
                have e10 : v 10 = _ := hF 10 (by decide)
                have e11 : v 11 = _ := hF 11 (by decide)
                have e12 : v 12 = _ := hF 12 (by decide)
                have e13 : v 13 = _ := hF 13 (by decide)
                have e14 : v 14 = _ := hF 14 (by decide)
                have e17 : v 17 = _ := hF 17 (by decide)
                have e19 : v 19 = _ := hF 19 (by decide)
                have E3 := hF 3 (by decide)
                have E4 := hF 4 (by decide)
                have E15 := hF 15 (by decide)
                have E16 := hF 16 (by decide)
                have E18 := hF 18 (by decide)
                simp only [putAll, Act.put, List.setIfInBounds_toArray, List.set_cons_zero, List.set_cons_succ, Nat.zero_add, Nat.reduceAdd, List.take_succ_cons, List.take_zero, List.drop_succ_cons, List.drop_zero, e0, e1, e2, e5, e6, e7, e8, e9, e10, e11, e12, e13, e14, e17, e19]
                clear hF e0 e1 e2 e5 e6 e7 e8 e9 e10 e11 e12 e13 e14 e17 e19
                obtain ⟨A18, c18, ho18, hf18, hr18⟩ := E18 (by decide)
                obtain ⟨A16, c16, ev16, ho16, hf16⟩ := E16 (by decide)
                rw [ev16] at ho16 hf16 ⊢
                have hkz := hS.1
                have z1 : wz.cell? ⟨w2.heap.size + 1, 1, none⟩ = some (.slice AV i cA) := by rw [cell_of_row _ _ _ _ _ _ hr18]; rfl
                have fz1 : wz.frozen? ⟨w2.heap.size + 1, 1, none⟩ = false := by simp [World.frozen?, hr18]
                have lNz : w2.heap.size + 1 < wz.heap.size := (Array.getElem?_eq_some_iff.1 hr18).1
                have hset : ∀ k, k ≠ w2.heap.size + 1 → (wz.setCell ⟨w2.heap.size + 1, 1, none⟩ (.slice A16 (i + 1) c16)).heap[k]? = wz.heap[k]? := fun k hk => Below.heap_setCell _ _ _ _ hk
                have hfr : ∀ {v v' : Value}, Fresh v' v W.heap.size → v.ownBlock ≠ some (w2.heap.size + 1) → ∀ g, v'.ownBlock = some g → g ≠ w2.heap.size + 1 := fun hf hn g hg e => by
                  subst e
                  rcases hf with hf | ⟨g', hf, h2⟩
                  · rw [hf] at hg; exact hn hg
                  · rw [hf] at hg; injection hg with hg; omega
                have hks : KeepF (fpM (w2.heap.size + 1) (.slice AE i cE) (.slice AV i cA)) [] W (wz.setCell ⟨w2.heap.size + 1, 1, none⟩ (.slice A16 (i + 1) c16)) :=
                  KeepF.tr (show KeepF (fpM (w2.heap.size + 1) (.slice AE i cE) (.slice AV i cA)) [] W wz from hkz) ⟨rfl, rfl, rfl, by simp [World.setCell], fun k _ hn => hset k (fun e => hn (mem_fpM.2 (.inl e))), fun k hk => by cases hk⟩
                have hfin := HLE.out.1.rowDone HBE.out.2 HLE.out.2.1 hks (by have := set_row3 hr18 1 (.slice A16 (i + 1) c16); simpa using this) (by rw [HAV.out.2.1]; exact own_same ho18 fun g hg => hset g (hfr hf18 HNE.out.2.2.2.1 g hg)) (a := a) (by
                  show World.ownsRow _ _ _ _ _ _ _
                  rw [List.length_append, rowF_app, rowF_single, HAV.out.1, HAV.out.2.2]
                  exact own_same ho16 fun g hg => hset g (hfr hf16 HNE.out.2.2.2.2.1 g hg)) hf18 hf16 HS.out.2.2.2 HLE.out.2.2 (by rw [HS.out.2.1, HJE.out]) HS.out.2.2.1.symm
                have hbf : Below w1.heap.size w1 (wz.setCell ⟨w2.heap.size + 1, 1, none⟩ (.slice A16 (i + 1) c16)) := HBE.out.1.trans (hks.below (fun k hk => (HLE.out.1.ma.lt k hk).1) HZ1.out)
                have HFIN := Lib.hid hfin
                have HBF := Lib.hid hbf
                clear hS hkz hset hfr hks hfin hbf ho18 hf18 hr18 ho16 hf16 ev16 E3 E4 E15 E16 E18
                go_wp2_with fail
                go_roundw
                case rel => exact ⟨i + 1, _, _, _, _, _, _, _, _, by go_num, by omega, HFIN, HBF⟩
                case measure => simp [intOf]; omega
      · have hie : i = nst := by omega
        have hd : decide ((i : Int) < (nst : Int)) = false := decide_eq_false (by omega)
        have hle := HL.out
        have hlei : i = st.length := by rw [HNST.out]; exact hie
        have hmkE := hle.ma.own
        have hmkA : wr.ownsRow w1.heap.size 4 1 vA acs.length (rowF bC acs) := hle.ma.acc
        obtain ⟨AE, cE, rfl, -, -⟩ := own_form hmkE
        obtain ⟨AV, cA, rfl, -, -⟩ := own_form hmkA
        obtain ⟨nE, hnE⟩ : ∃ x, rs.length = x := ⟨_, rfl⟩
        obtain ⟨nV, hnV⟩ : ∃ x, acs.length = x := ⟨_, rfl⟩
        rw [hnE, hnV] at HL
        have hNr := HL.out.ma.hN
        obtain ⟨xn0, xn1⟩ : wr.cell? ⟨w2.heap.size + 1, 0, none⟩ = some (.slice AE nE cE) ∧ wr.cell? ⟨w2.heap.size + 1, 1, none⟩ = some (.slice AV nV cA) := by constructor <;> (rw [cell_of_row _ _ _ _ _ _ hNr]; rfl)
        have hX1 := (HB.out.block (w.heap.size + 1) lx1).trans HX1.out
        obtain ⟨q0, q1⟩ : wr.cell? ⟨w.heap.size + 1, 0, none⟩ = some (.slice none 0 0) ∧ wr.cell? ⟨w.heap.size + 1, 1, none⟩ = some (.slice none 0 0) := by constructor <;> (rw [cell_of_row _ _ _ _ _ _ hX1]; rfl)
        have g0 : wr.frozen? ⟨w.heap.size + 1, 0, none⟩ = false := by simp [World.frozen?, hX1]
        have g1 : wr.frozen? ⟨w.heap.size + 1, 1, none⟩ = false := by simp [World.frozen?, hX1]
        have lNr : w2.heap.size + 1 < wr.heap.size := (Array.getElem?_eq_some_iff.1 hNr).1
        have lXr : w.heap.size + 1 < wr.heap.size := by omega
        have HEI := Lib.hid (And.intro hlei (And.intro hnE hnV))
        clear hle hlei hmkE hmkA hNr hX1 hnE hnV hie
        go_wp2_with fail
        refine post_named fun Wf hWf => ?_
        refine bodyPost_ret (v := .agg #[.slice AE nE cE, .slice AV nV cA]) (by rw [hWf]; simp [results, Tryz.results39, go_sem, q0, q1, lXr]; try rfl) rfl ?_
        have hkl : KeepF [w.heap.size + 1] [] wr Wf := by
          rw [hWf]
          have hne : ∀ k, k ∉ [w.heap.size + 1] → k ≠ w.heap.size + 1 := fun k hn e => hn (List.mem_singleton.2 e)
          exact ⟨rfl, rfl, rfl, by simp [World.setCell], fun k _ hn => (Below.heap_setCell (wr.setCell ⟨w.heap.size + 1, 0, none⟩ (.slice AE nE cE)) ⟨w.heap.size + 1, 1, none⟩ (.slice AV nV cA) k (hne k hn)).trans (Below.heap_setCell wr ⟨w.heap.size + 1, 0, none⟩ (.slice AE nE cE) k (hne k hn)), fun k hk => by cases hk⟩
        have hmk := HL.out.ma.low hkl (fun k hk => by rw [List.mem_singleton] at hk; omega)
        have hle := HL.out.le
        rw [HEI.out.1] at hle
        obtain ⟨d1, d2, d3⟩ := hle.done HV.out HCL.out.2.1
        have hac2 : acs = (leastM m (clF cs) (numC (clF cs) st) st).ac := by rw [HL.out.ac, HEI.out.1, List.take_length]; rfl
        have hm' : (⟨rs, acs⟩ : Mc) = leastM m (clF cs) (numC (clF cs) st) st := by rw [d1, hac2]
        have hww1 := HB1.out.size
        have hbf : Below w.heap.size w Wf := (HB1.out.trans (HB.out.mono HB1.out.size)).trans (hkl.below (fun k hk => by rw [List.mem_singleton] at hk; omega) (by omega))
        refine ⟨_, ⟨rs, acs⟩, rfl, hmk.up.mono hww1, hbf, .inl ⟨?_, by rw [hm']; exact d2, by rw [hm']; exact d3⟩, ?_, ?_⟩
        · by_cases hx : LiveS m 0
          · exact hx
          · exact absurd ((HCL.out.2.1.dead 0 (by rw [HN.out.1]; exact HN1.out)).2 hx) (HL.out.le.lv 0 (List.mem_of_getElem? HL.out.le.zero)).2
        · show rs.length ≤ _
          rw [d1]; unfold leastM; simp; exact HL.out.le.nodup
        · rw [hm']
          have hr : ∀ r ∈ (leastM m (clF cs) (numC (clF cs) st) st).ed, ∃ s ∈ st, r = renE (numC (clF cs) st) (joinF (clF cs) (rowM m s)) := fun r hr => by
            unfold leastM at hr
            obtain ⟨s, h1, h2⟩ := List.mem_map.1 hr
            exact ⟨s, h1, h2.symm⟩
          have hrm : ∀ s ∈ st, rowM m s ∈ m.ed := fun s hs => by
            obtain ⟨h1, -⟩ := HL.out.le.lv s hs
            unfold rowM; rw [List.getElem?_eq_getElem h1]; exact List.getElem_mem h1
          refine ⟨fun r h e he => ?_, fun r h => ?_, ?_⟩
          · obtain ⟨s, h1, rfl⟩ := hr r h
            unfold renE at he
            obtain ⟨f, h2, rfl⟩ := List.mem_map.1 he
            have := joinF_by (cls := clF cs) (HV.out.srt _ (hrm s h1)) (HSM.out.by_ _ (hrm s h1)) f h2
            exact ⟨this.1, this.2.1⟩
          · obtain ⟨s, h1, rfl⟩ := hr r h
            rw [renE_len]
            exact Nat.le_trans (joinF_len _ _) (HSM.out.rl _ (hrm s h1))
          · unfold leastM; simp
            have := HL.out.le.nodup
            have := HSM.out.n
            omega
end Go.Proofs.YtjhmipidmpmlmaaGreatDoor
namespace Go.Proofs.YtjhmipidmpmlmaaGreatDoor
set_option linter.unusedVariables false
set_option linter.unusedSimpArgs false
set_option maxRecDepth 100000
open Go.RowKit
def rgC (r : Nat × Nat) : List Value := [.int .u8 (r.1 : Int), .int .u8 (r.2 : Int)]
theorem rgC_E : EncS rgC 2 := ⟨by decide, fun _ => rfl, fun x u hu => by simp [rgC] at hu; rcases hu with rfl | rfl <;> rfl⟩
theorem info_rge : (Tryz.prog.info? 56).map (fun i => (i.zero, i.size, i.bytes)) = some (some (.agg #[.int .u8 0, .int .u8 0]), 2, 2) := by kernel_rfl
theorem RgIn.of_OR {w : World} {B : Nat} {v : Value} {l : List (Nat × Nat)} (h : OR 56 2 rgC B v l w) (hb : ∀ r ∈ l, r.1 < 256 ∧ r.2 < 256) : RgIn w v l := by
  obtain ⟨A, c, e, hc, hor⟩ := h.cells rgC_E
  have hcm : c ≤ 9223372036854775807 := by
    obtain ⟨A', c', e', -, h'⟩ := own_form (show w.ownsRow _ _ _ _ _ _ from h)
    rw [e] at e'; injection e' with _ _ e3; rw [e3]; exact h'
  refine ⟨A, c, e, ⟨hc, hcm⟩, hor.imp id ?_⟩
  rintro ⟨g, h1, -, hg, hcell⟩
  refine ⟨g, 0, h1, hg, fun i hi => ?_⟩
  have h0 := (hcell i hi 0 (by decide)).1
  have h2 := (hcell i hi 1 (by decide)).1
  rw [Nat.zero_add, Nat.add_zero] at *
  exact ⟨⟨h0, h2⟩, hb l[i] (List.getElem_mem hi)⟩
theorem calls_named {P : Program} {f : FuncId} {args : Array Value} {Q : Ending → World → Prop} {w : World} (h : ∀ W, W = w → Calls P f args W Q) : Calls P f args w Q := h w rfl
set_option maxHeartbeats 4000000 in
theorem set_ab (rb : Nat) (d : Int) (w : World) (h : RdW rb ⟨#[97, 45, 98, 93, 123, 50, 125]⟩ false d w) :
    Calls Tryz.prog 154 #[.pointer (some ⟨rb, 0, none⟩)] w fun e w' => ∃ v, e = .returned (.agg #[.int .i64 1, v, .slice none 0 0, .int .i64 0, .int .i64 0]) ∧ OR 56 2 rgC w.heap.size v [(97, 98)] w' ∧ RdW rb ⟨#[123, 50, 125]⟩ false d w' ∧ KfR rb w w' := by
  obtain ⟨⟨c0, c1, c2⟩, ⟨f0, f1, f2⟩, hl⟩ := h.cells
  obtain ⟨i3, hi3, hk0, hk1, hk2⟩ := info_parts info_rge
  have HR := Lib.hid h
  clear h
  go_enter Tryz.func154, Tryz.ntmps154
  go_wp2_with fail
  refine wp_loop_rounds 2 ?_
  rw [rounds_succ]
  go_wp2_with fail
  refine calls_named fun W0 hW0 => ?_
  have hb0 : Below w.heap.size w W0 := by rw [hW0]; exact ((Below.refl _ _).alloc (Nat.le_refl _) _).alloc (by simp) _
  have hX : W0.heap[w.heap.size + 1]? = some (.cells #[.int .i64 1, .slice none 0 0, .slice none 0 0, .int .i64 0, .int .i64 0] 29 (0, 0)) := by rw [hW0]; simpa using heap_alloc_new (w.alloc _) (.cells #[.int .i64 1, .slice none 0 0, .slice none 0 0, .int .i64 0, .int .i64 0] 29)
  have hY : W0.heap[w.heap.size]? = some (.cells #[.int .i64 0, .slice none 0 0, .slice none 0 0, .int .i64 0, .int .i64 0] 29 (0, 0)) := by rw [hW0, old_alloc _ _ _ (by simp)]; exact heap_alloc_new w _
  have hz0 : W0.heap.size = w.heap.size + 2 := by rw [hW0]; simp
  have hT1 := take_any rb _ ⟨#[97, 45, 98, 93, 123, 50, 125]⟩ ⟨#[93]⟩ false false d W0 (HR.out.later hb0) rfl rfl
  have HT1 := Lib.hid hT1
  have H0 := Lib.hid (And.intro hb0 (And.intro hX hY))
  clear hW0 hb0 hX hY hT1 c0 c1 c2 f0 f1 f2
  refine HT1.out.mono ?_
  rintro e w1 ⟨rfl, hr1, hk1⟩
  have hT2 := one_at rb _ ⟨#[45, 98, 93, 123, 50, 125]⟩ 97 false d w1 hr1 rfl rfl (by decide) rfl (fun _ => by kernel_rfl) rfl
  have HT2 := Lib.hid hT2
  have H1 := Lib.hid hk1
  clear hr1 hk1 hT2
  go_wp2_with fail
  refine HT2.out.mono ?_
  rintro e w2 ⟨rfl, hr2, hk2⟩
  have H2 := Lib.hid (And.intro hr2 (H1.out.tr hk2))
  clear hr2 hk2
  go_wp2_with fail
  refine calls_named fun W3 hW3 => ?_
  have hb3 : Below w2.heap.size w2 W3 := by rw [hW3]; exact (Below.refl _ _).alloc (Nat.le_refl _) _
  have hX3 : W3.heap[w2.heap.size]? = some (.cells #[.int .u8 97, .int .u8 97] 56 (0, 0)) := by rw [hW3]; exact heap_alloc_new w2 _
  have hz2 := H2.out.2.size
  have hT4 := take_any rb _ ⟨#[98, 93, 123, 50, 125]⟩ ⟨#[45]⟩ false true d W3 (H2.out.1.later hb3) rfl rfl
  have HT4 := Lib.hid hT4
  have H3 := Lib.hid (And.intro hX3 (H2.out.2.tr (kfr_below hb3)))
  have hz3 := hb3.size
  have lX3 : w2.heap.size < W3.heap.size := (Array.getElem?_eq_some_iff.1 hX3).1
  clear hW3 hb3 hX3 hT4
  refine HT4.out.mono ?_
  rintro e w4 ⟨rfl, hr4, hk4⟩
  have hT5 := one_at rb _ ⟨#[93, 123, 50, 125]⟩ 98 false d w4 hr4 rfl rfl (by decide) rfl (fun _ => by kernel_rfl) rfl
  have HT5 := Lib.hid hT5
  have H4 := Lib.hid hk4
  clear hr4 hk4 hT5
  go_wp2_with fail
  refine HT5.out.mono ?_
  rintro e w5 ⟨rfl, hr5, hk5⟩
  have hne : ∀ k, w.heap.size ≤ k → k ∉ [rb] := fun k hk hm => by rw [List.mem_singleton] at hm; omega
  have hkk := H4.out.tr hk5
  have hX5 := (hkk.blk w2.heap.size lX3 (hne _ (by omega))).trans H3.out.1
  have hk05 := H3.out.2.tr hkk
  have hN5 := (hk05.blk (w.heap.size + 1) (by omega) (hne _ (by omega))).trans H0.out.2.1
  have hY5 := (hk05.blk w.heap.size (by omega) (hne _ (Nat.le_refl _))).trans H0.out.2.2
  obtain ⟨x0, x1⟩ : w5.cell? ⟨w2.heap.size, 0, none⟩ = some (.int .u8 97) ∧ w5.cell? ⟨w2.heap.size, 1, none⟩ = some (.int .u8 97) := by constructor <;> (rw [cell_of_row _ _ _ _ _ _ hX5]; rfl)
  have fx1 : w5.frozen? ⟨w2.heap.size, 1, none⟩ = false := by simp [World.frozen?, hX5]
  obtain ⟨n0, n1, n2, n3, n4⟩ := cells5 hN5
  have fn1 : w5.frozen? ⟨w.heap.size + 1, 1, none⟩ = false := by simp [World.frozen?, hN5]
  have hz5 := hkk.size
  have l2 : w2.heap.size < w5.heap.size := by omega
  have ln : w.heap.size + 1 < w5.heap.size := by omega
  have ne1 : ¬ w.heap.size + 1 = w2.heap.size := by omega
  have ne2 : ¬ w2.heap.size = w.heap.size + 1 := by omega
  have H5 := Lib.hid (And.intro hr5 (And.intro hk05 (And.intro hN5 hY5)))
  have hown0 : ((w5.setCell ⟨w2.heap.size, 1, none⟩ (.int .u8 98)).alloc (.cells #[.int .u8 97, .int .u8 98] 56)).ownsRow w.heap.size 56 2 (.slice none 0 0) 0 [] := World.ownsRow_nil _ _ _ _
  have hcx : ∀ j u, ([.int .u8 97, .int .u8 98] : List Value)[j]? = some u → ((w5.setCell ⟨w2.heap.size, 1, none⟩ (.int .u8 98)).alloc (.cells #[.int .u8 97, .int .u8 98] 56)).cell? ((⟨w5.heap.size, 0, none⟩ : Addr).add j) = some u := fun j u hj => by
    have hrow : ((w5.setCell ⟨w2.heap.size, 1, none⟩ (.int .u8 98)).alloc (.cells #[.int .u8 97, .int .u8 98] 56)).heap[w5.heap.size]? = some (.cells #[.int .u8 97, .int .u8 98] 56 (0, 0)) := by simpa [World.setCell] using heap_alloc_new (w5.setCell ⟨w2.heap.size, 1, none⟩ (.int .u8 98)) (.cells #[.int .u8 97, .int .u8 98] 56)
    match j, hj with
    | 0, hj => simp at hj; rw [← hj, Addr.add_lit, cell_of_row _ _ _ _ _ _ hrow]; rfl
    | 1, hj => simp at hj; rw [← hj, Addr.add_lit, cell_of_row _ _ _ _ _ _ hrow]; rfl
  clear hr5 hk5 hkk hk05 hX5 hN5 hY5
  go_wp2_with (at_builtin; refine appI_at rfl _ _ 26 rfl w.heap.size 56 i3 _ 2 2 Tryz.underlying26 hi3 hk0 hk1 hk2 rfl (by decide) _ 0 [] rfl hown0 ⟨w5.heap.size, 0, none⟩ 1 1 [.int .u8 97, .int .u8 98] rfl rfl hcx (by intro u hu; simp at hu; rcases hu with rfl | rfl <;> rfl) (by decide) (by decide) (by simp [World.setCell]; omega) ?_)
  intro v' w6 hown6 hg6 hf6
  obtain ⟨A6, c6, rfl, -, -⟩ := own_form hown6
  have hzA : ((w5.setCell ⟨w2.heap.size, 1, none⟩ (.int .u8 98)).alloc (.cells #[.int .u8 97, .int .u8 98] 56)).heap.size = w5.heap.size + 1 := by simp [World.setCell]
  have hz6 := hg6.size
  rw [hzA] at hz6
  have hf6' : ∀ g, (Value.slice A6 1 c6).ownBlock = some g → w5.heap.size + 1 ≤ g := fun g hg => by
    rcases hf6 with h | ⟨g', h, h2⟩
    · rw [h] at hg; cases hg
    · rw [h] at hg; injection hg with hg; first | omega | (simp [World.setCell] at h2; omega)
  have h56 : ∀ k, k < w5.heap.size → k ≠ w2.heap.size → w6.heap[k]? = w5.heap[k]? := fun k hk hn => (hg6.block k (by rw [hzA]; omega) (by simp [Value.ownBlock])).trans ((old_alloc _ _ _ (by simp [World.setCell]; exact hk)).trans (Below.heap_setCell w5 ⟨w2.heap.size, 1, none⟩ (.int .u8 98) k hn))
  have hzz0 := H5.out.2.1.size
  have hwr2 : W0.heap.size ≤ w2.heap.size := H2.out.2.size
  have hk06 : KfR rb W0 w6 := ⟨hg6.os.trans H5.out.2.1.os, hg6.tape.trans H5.out.2.1.tape, hg6.output.trans H5.out.2.1.output, by omega, fun k hk hn => (h56 k (by omega) (by omega)).trans (H5.out.2.1.blk k hk hn), fun k hk => .inl hk⟩
  have hr6 := H5.out.1.keep (h56 rb (by omega) (by omega))
  have hN6 := (h56 (w.heap.size + 1) ln ne1).trans H5.out.2.2.1
  have hY6 := (h56 w.heap.size (by omega) (by omega)).trans H5.out.2.2.2
  have n61 : w6.cell? ⟨w.heap.size + 1, 1, none⟩ = some (.slice none 0 0) := by rw [cell_of_row _ _ _ _ _ _ hN6]; rfl
  have fn6 : w6.frozen? ⟨w.heap.size + 1, 1, none⟩ = false := by simp [World.frozen?, hN6]
  have ln6 : w.heap.size + 1 < w6.heap.size := by omega
  obtain ⟨⟨ra0, ra1, ra2⟩, -, lrb⟩ := hr6.cells
  have nrb1 : ¬ rb = w.heap.size + 1 := by omega
  have nrb2 : ¬ w.heap.size + 1 = rb := by omega
  have H6 := Lib.hid (And.intro hown6 (And.intro hf6' (And.intro hk06 (And.intro hr6 (And.intro hN6 hY6)))))
  clear hown6 hg6 hf6 hf6' h56 hk06 hr6 hN6 hY6 hown0 hcx hzA x0 x1 fx1 n0 n1 n2 n3 n4 fn1
  go_wp2_with fail
  rw [rounds_succ]
  go_wp2_with fail
  refine calls_named fun W7 hW7 => ?_
  have hset : ∀ k, k ≠ w.heap.size + 1 → W7.heap[k]? = w6.heap[k]? := fun k hk => by rw [hW7]; exact Below.heap_setCell _ _ _ _ hk
  have hz7 : W7.heap.size = w6.heap.size := by rw [hW7]; simp [World.setCell]
  have hN7 : W7.heap[w.heap.size + 1]? = some (.cells #[.int .i64 1, .slice A6 1 c6, .slice none 0 0, .int .i64 0, .int .i64 0] 29 (0, 0)) := by
    rw [hW7]
    have := set_row3 H6.out.2.2.2.2.1 1 (.slice A6 1 c6)
    simpa using this
  have hY7 := (hset w.heap.size (by omega)).trans H6.out.2.2.2.2.2
  have hr7 := H6.out.2.2.2.1.keep (hset rb (by omega))
  have ho7 : W7.ownsRow w.heap.size 56 2 (.slice A6 1 c6) 1 [.int .u8 97, .int .u8 98] := own_same H6.out.1 fun g hg => hset g (by have := H6.out.2.1 g hg; omega)
  have hk7 : KeepF [rb, w.heap.size + 1] [] W0 W7 := by
    have h1 := H6.out.2.2.1
    exact ⟨by rw [hW7]; exact h1.os, by rw [hW7]; exact h1.tape, by rw [hW7]; exact h1.output, by rw [hz7]; exact h1.size, fun k hk hn => (hset k (fun e => hn (by simp [e]))).trans (h1.blk k hk (fun h => hn (by simp at h ⊢; exact .inl h))), fun k hk => by cases hk⟩
  have hT8 := take_any rb _ ⟨#[123, 50, 125]⟩ ⟨#[93]⟩ false true d W7 hr7 rfl rfl
  have HT8 := Lib.hid hT8
  have H7 := Lib.hid (And.intro hN7 (And.intro hY7 (And.intro ho7 hk7)))
  clear hW7 hset hN7 hY7 hr7 ho7 hk7 hT8 n61 fn6
  refine HT8.out.mono ?_
  rintro e w8 ⟨rfl, hr8, hk8⟩
  have hN8 := (hk8.blk (w.heap.size + 1) (by omega) (hne _ (by omega))).trans H7.out.1
  have hY8 := (hk8.blk w.heap.size (by omega) (hne _ (Nat.le_refl _))).trans H7.out.2.1
  obtain ⟨n0, n1, n2, n3, n4⟩ := cells5 hN8
  obtain ⟨y0, y1, y2, y3, y4⟩ := cells5 hY8
  have fy0 : w8.frozen? ⟨w.heap.size, 0, none⟩ = false := by simp [World.frozen?, hY8]
  have fy1 : w8.frozen? ⟨w.heap.size, 1, none⟩ = false := by simp [World.frozen?, hY8]
  have fy2 : w8.frozen? ⟨w.heap.size, 2, none⟩ = false := by simp [World.frozen?, hY8]
  have fy3 : w8.frozen? ⟨w.heap.size, 3, none⟩ = false := by simp [World.frozen?, hY8]
  have fy4 : w8.frozen? ⟨w.heap.size, 4, none⟩ = false := by simp [World.frozen?, hY8]
  have hz8 := hk8.size
  have l8 : w.heap.size + 1 < w8.heap.size := by omega
  have l80 : w.heap.size < w8.heap.size := by omega
  have H8 := Lib.hid (And.intro hr8 hk8)
  clear hr8 hk8 hN8 hY8
  go_wp2_with fail
  refine post_named fun Wf hWf => ?_
  refine bodyPost_ret (v := .agg #[.int .i64 1, .slice A6 1 c6, .slice none 0 0, .int .i64 0, .int .i64 0]) (by rw [hWf]; simp [results, Tryz.results154, go_sem, y0, y1, y2, y3, y4, l80]; try rfl) rfl ?_
  have hsetf : ∀ k, k ≠ w.heap.size → Wf.heap[k]? = w8.heap[k]? := fun k hk => by
    rw [hWf]
    simp only [Below.heap_setCell _ _ _ _ (show k ≠ (⟨w.heap.size, 0, none⟩ : Addr).block from hk), Below.heap_setCell _ _ _ _ (show k ≠ (⟨w.heap.size, 1, none⟩ : Addr).block from hk), Below.heap_setCell _ _ _ _ (show k ≠ (⟨w.heap.size, 2, none⟩ : Addr).block from hk), Below.heap_setCell _ _ _ _ (show k ≠ (⟨w.heap.size, 3, none⟩ : Addr).block from hk), Below.heap_setCell _ _ _ _ (show k ≠ (⟨w.heap.size, 4, none⟩ : Addr).block from hk)]
  have hzf : Wf.heap.size = w8.heap.size := by rw [hWf]; simp [World.setCell]
  have hge : ∀ g, (Value.slice A6 1 c6).ownBlock = some g → w5.heap.size + 1 ≤ g := H6.out.2.1
  refine ⟨_, rfl, ?_, H8.out.1.keep (hsetf rb (by omega)), ?_⟩
  · have h1 := own_same H7.out.2.2.1 fun g hg => H8.out.2.blk g (H7.out.2.2.1.lt g hg).2 (hne _ (by have := hge g hg; omega))
    exact own_same h1 fun g hg => hsetf g (by have := hge g hg; omega)
  · have hk9 := H7.out.2.2.2
    have h1 := H8.out.2
    have hos : Wf.os = w8.os ∧ Wf.tape = w8.tape ∧ Wf.output = w8.output := by rw [hWf]; exact ⟨rfl, rfl, rfl⟩
    have hb := H0.out.1
    exact ⟨hos.1.trans (h1.os.trans (hk9.os.trans hb.os)), hos.2.1.trans (h1.tape.trans (hk9.tape.trans hb.tape)), hos.2.2.trans (h1.output.trans (hk9.output.trans hb.output)), by omega, fun k hk hn => by
      rw [hsetf k (by omega), h1.blk k (by omega) hn, hk9.blk k (by omega) (fun hm => by simp at hm; rcases hm with hm | hm; exact hn (by simp [hm]); omega), hb.block k hk], fun k hk => .inl hk⟩
end Go.Proofs.YtjhmipidmpmlmaaGreatDoor
namespace Go.Proofs.YtjhmipidmpmlmaaGreatDoor
set_option linter.unusedVariables false
set_option linter.unusedSimpArgs false
set_option maxRecDepth 100000
open Go.RowKit
theorem OBs.form {e : TypeId} {B : Nat} {v : Value} {l : List UInt8} {w : World} (h : OB e B v l w) : ∃ A c, v = .slice A l.length c ∧ (l.length ≤ c ∧ c ≤ 9223372036854775807) ∧ (0 < l.length → ∃ g, A = some ⟨g, 0, none⟩ ∧ B ≤ g ∧ g < w.heap.size ∧ (∀ j (h : j < l.length), w.cell? ⟨g, j, none⟩ = some (.int .u8 l[j].toNat) ∧ w.frozen? ⟨g, j, none⟩ = false)) := by
  have h' := h
  rcases h.2 with ⟨h1, h0⟩ | ⟨g, cap, cur, rfl, hb, hg, hle, hm, -⟩
  · exact ⟨none, 0, by rw [h1, h0], ⟨by omega, by decide⟩, fun h => by omega⟩
  · refine ⟨_, _, rfl, ⟨hle, by unfold maxLen at hm; omega⟩, fun _ => ⟨g, rfl, hb, (Array.getElem?_eq_some_iff.1 hg).1, fun j hj => ⟨?_, by simp [World.frozen?, hg]⟩⟩⟩
    have := World.ownsRow.cellAt h' j (by simpa using hj)
    rw [this]; simp [hj]
theorem OBs.set {e : TypeId} {B : Nat} {g n c : Nat} {l : List UInt8} {w : World} (h : OB e B (.slice (some ⟨g, 0, none⟩) n c) l w) (j : Nat) (u : UInt8) (x : Int) (hx : x = u.toNat) : OB e B (.slice (some ⟨g, 0, none⟩) n c) (l.set j u) (w.setCell ⟨g, j, none⟩ (.int .u8 x)) := by
  subst hx
  rcases h.2 with ⟨h1, -⟩ | ⟨g', cap, cur, h1, hb, hg, h4, h5, h6, h7⟩
  · cases h1
  · injection h1 with h8 h9 h10
    injection h8 with h8
    injection h8 with h8
    subst h8 h9 h10
    refine ⟨by simp, .inr ⟨g, c, cur.setIfInBounds j (.int .u8 u.toNat), by simp, hb, by simp [World.setCell, Array.getElem?_modify, hg], by simpa using h4, h5, by simpa using h6, ?_⟩⟩
    rw [List.length_set, Array.toList_setIfInBounds, List.take_set, h7, List.map_set]
/-- A row of bytes reads as numbers. -/
theorem OBs.reads {e : TypeId} {B : Nat} {v : Value} {l : List UInt8} {w : World} (h : OB e B v l w) : ByIn w v (l.map UInt8.toNat) := by
  obtain ⟨A, c, rfl, hc, h⟩ := OBs.form h
  refine ⟨A, c, by rw [List.length_map], by rw [List.length_map]; exact hc, ?_⟩
  cases hl : l with
  | nil => exact .inl rfl
  | cons a r =>
    obtain ⟨g, rfl, h1, h2, h3⟩ := h (by rw [hl]; simp)
    refine .inr ⟨g, 0, rfl, h2, fun i hi => ?_⟩
    rw [← hl] at hi
    have hi2 : i < l.length := by simpa using hi
    have := (h3 i hi2).1
    subst hl
    rw [Nat.zero_add, this, List.getElem_map]
end Go.Proofs.YtjhmipidmpmlmaaGreatDoor
