/- Walk: machine.Reach. · Walk: machine.Valid at a valid machine. · Walk: ref06.Valid at a valid machine. · Walk: ref06.Equal at valid machines. · Walk: ref06.Same at valid machines. · Walks: the reader of patterns at one text: its set. · Walks: the reader of patterns at one text: an item. · Walks: the reader of patterns at one text: lists of one part, the sequence, the choice. · Walks: the reader of patterns at one text: the choice. · Walks: machine.Ends, machine.Accepts. · Rows of bytes in which one byte is changed; a row of bytes as a slice that reads. -/
import Derived.Test.YtjhmipidmpmlmaaGreatDoorY16
import Derived.Test.YtjhmipidmpmlmaaGreatDoorY19
import Derived.Test.YtjhmipidmpmlmaaGreatDoorY15
import Derived.Test.YtjhmipidmpmlmaaGreatDoorY05
import Derived.Test.YtjhmipidmpmlmaaGreatDoorY14
import Derived.Test.YtjhmipidmpmlmaaGreatDoorY10
import Derived.Test.YtjhmipidmpmlmaaGreatDoorY03
namespace Go.Proofs.YtjhmipidmpmlmaaGreatDoor
set_option linter.unusedVariables false
set_option linter.unusedSimpArgs false
set_option maxRecDepth 100000
open Go.RowKit
def rchF (m : Mc) : List Nat → Nat → Nat → List Nat
 | [], s, k => if (m.ac[s]?).getD false = true then [k] else []
 | c :: w, s, k => (if (m.ac[s]?).getD false = true then [k] else []) ++ match trn (rowM m s) c with | none => [] | some t => rchF m w t (k + 1)
def inC (n : Nat) : List Value := [.int .i64 (n : Int)]
theorem inC_E : EncS inC 1 := ⟨by decide, fun _ => rfl, fun x u hu => by simp [inC] at hu; subst hu; rfl⟩
def ByIn (w : World) (v : Value) (l : List Nat) : Prop := ∃ A c, v = .slice A l.length c ∧ (l.length ≤ c ∧ c ≤ 9223372036854775807) ∧ (l = [] ∨ ∃ g f, A = some ⟨g, f, none⟩ ∧ g < w.heap.size ∧ ∀ i (h : i < l.length), w.cell? ⟨g, f + i, none⟩ = some (.int .u8 (l[i] : Int)))
theorem ByIn.later {w w' : World} {v : Value} {l : List Nat} (h : ByIn w v l) (hb : Below w.heap.size w w') : ByIn w' v l := by
 obtain ⟨A, c, e, hc, h⟩ := h
 refine ⟨A, c, e, hc, h.imp id ?_⟩
 rintro ⟨g, f, h1, hg, hcell⟩
 exact ⟨g, f, h1, Nat.lt_of_lt_of_le hg hb.size, fun i hi => (hb.cell (p := ⟨g, f + i, none⟩) hg).trans (hcell i hi)⟩
def RhPost (l : List Nat) (w : World) (e : Ending) (w' : World) : Prop := ∃ rv, e = .returned rv ∧ OR 3 1 inC w.heap.size rv l w' ∧ Below w.heap.size w w'
structure RhW (w : World) (ve va v : Value) (o : List Nat) (wr : World) : Prop where
 own : OR 3 1 inC (w.heap.size + 1) v o wr
 bel : Below w.heap.size w wr
 siz : w.heap.size + 1 ≤ wr.heap.size
 box : wr.heap[w.heap.size]? = some (.cells #[ve, va] 34 (0, 0))
theorem RhW.next {w wr w' : World} {ve va v v' : Value} {o o' : List Nat} (h : RhW w ve va v o wr) (hown : OR 3 1 inC (w.heap.size + 1) v' o' w') (hb : Below (w.heap.size + 1) wr w') : RhW w ve va v' o' w' :=
 ⟨hown, h.bel.trans (hb.mono (by omega)), Nat.le_trans h.siz hb.size, (hb.block _ (by omega)).trans h.box⟩
theorem RhW.later {w wr w' : World} {ve va v : Value} {o : List Nat} (h : RhW w ve va v o wr) (hb : Below wr.heap.size wr w') : RhW w ve va v o w' :=
 h.next (h.own.later hb) (hb.mono h.siz)
def RhI (m : Mc) (bs : List Nat) (R : List Nat) (o : List Nat) (sx : Int) (k : Nat) : Prop := (sx = -1 ∧ o = R) ∨ ∃ s : Nat, sx = (s : Int) ∧ s < m.ed.length ∧ k ≤ bs.length ∧ o ++ rchF m (bs.drop k) s k = R
theorem rhI_step {m : Mc} {bs R o o' : List Nat} {s k : Nat} {b : Bool} (hv : Vld m) (h : o ++ rchF m (bs.drop k) s k = R) (hb : (m.ac[s]?).getD false = b) (ho : o' = if b = true then o ++ [k] else o) :
  (bs.length ≤ k → o' = R) ∧ ∀ hk : k < bs.length, RhI m bs R o' (nxF m s bs[k]) (k + 1) := by
 constructor
 ·intro hk
  rw [List.drop_eq_nil_of_le hk, rchF, hb] at h
  rw [ho, ← h]
  cases b <;> simp
 ·intro hk
  rw [List.drop_eq_getElem_cons hk, rchF, hb, ← List.append_assoc] at h
  have h2 : o ++ (if b = true then [k] else []) = o' := by rw [ho]; cases b <;> simp
  rw [h2] at h
  unfold RhI nxF
  cases ht : trn (rowM m s) bs[k] with
  | none =>
   rw [ht] at h
   exact .inl ⟨rfl, by simpa using h⟩
  | some t =>
   rw [ht] at h
   exact .inr ⟨t, rfl, hv.trn_lt ht, hk, h⟩
set_option maxHeartbeats 2000000 in
theorem reach_any (v vb : Value) (m : Mc) (bs : List Nat) (i : Nat) (w : World) (hm : McIn w v m) (hv : Vld m) (hsm : McSm m) (h1 : 1 ≤ m.ed.length) (hb : ByIn w vb bs) (hbl : bs.length ≤ 900000) (hby : ∀ b ∈ bs, b < 256) (hi : i ≤ bs.length) :
  Calls Tryz.prog 51 #[v, vb, .int .i64 (i : Int)] w (RhPost (rchF m (bs.drop i) 0 i) w) := by
 obtain ⟨ve, va, rfl, he, ha⟩ := id hm
 obtain ⟨Ae, ce, rfl, hce1, hce2⟩ := he.form
 obtain ⟨Aa, ca, rfl, hca1, hca2⟩ := ha.form
 obtain ⟨Ab, cb, rfl, hcb, hbc⟩ := id hb
 obtain ⟨n, hn⟩ : ∃ n, m.ed.length = n := ⟨_, rfl⟩
 have hac : m.ac.length = n := by rw [hv.len, hn]
 obtain ⟨L, hL⟩ : ∃ n, bs.length = n := ⟨_, rfl⟩
 have hnx := fun (s c : Nat) (W : World) (h : Below w.heap.size w W) (hs : s < m.ed.length) => mnext_any _ m s c W (hm.later h) hv hsm hs
 have hnn := hsm.n
 obtain ⟨R, hR⟩ : ∃ R, rchF m (bs.drop i) 0 i = R := ⟨_, rfl⟩
 rw [hn] at hce1 hnn hnx
 rw [hac] at hca1 hnx
 rw [hL] at hcb hbl hi
 have HNX := Lib.hid hnx
 have HA := Lib.hid ha
 have HV := Lib.hid hv
 have HBC := Lib.hid hbc
 have HN := Lib.hid (And.intro hn hac)
 have HL := Lib.hid hL
 have HI0 : Hid (RhI m bs R [] 0 i) := .inr ⟨0, rfl, h1, by rw [hL]; exact hi, hR⟩
 have hW0 : RhW w (.slice Ae n ce) (.slice Aa n ca) (.slice none 0 0) [] (w.alloc (.cells #[.slice Ae n ce, .slice Aa n ca] 34)) := ⟨OR.nil_ _ _ _, (Below.refl _ _).alloc (Nat.le_refl _) _, by simp, heap_alloc_new w _⟩
 have HW0 := Lib.hid hW0
 obtain ⟨i3, hi3, hk0, hk1, hk2⟩ := info_parts info_int
 have hri : RhPost (rchF m (bs.drop i) 0 i) w = RhPost R w := by rw [hR]
 rw [hri, hn, hac, hL]
 clear hnx ha he hv hbc hn hac hL hR hW0 hm hsm hb h1 hri
 go_enter Tryz.func51, Tryz.ntmps51
 go_wp2_with fail
 go_loopg [7, 8, 9] (L + 1 - i) (fun q s7 s8 s9 wr => ∃ (sx : Int) (k : Nat) (o : List Nat), s8 = .int .i64 sx ∧ s9 = .int .i64 (k : Int) ∧ o.length ≤ k ∧ k ≤ L + 1 ∧ q = L + 1 - k ∧ Hid (RhW w (.slice Ae n ce) (.slice Aa n ca) s7 o wr) ∧ Hid (RhI m bs R o sx k))
 case atStart => exact ⟨0, i, [], rfl, rfl, by simp, by omega, rfl, HW0, HI0⟩
 case round =>
  obtain ⟨sx, k, o, rfl, rfl, hok, hkL, hq, HW, HI⟩ := hrel
  have hbx := HW.out.box
  obtain ⟨x0, x1⟩ : wr.cell? ⟨w.heap.size, 0, none⟩ = some (.slice Ae n ce) ∧ wr.cell? ⟨w.heap.size, 1, none⟩ = some (.slice Aa n ca) := by
   constructor <;> (rw [cell_of_row _ _ _ _ _ _ hbx]; rfl)
  have hwz := HW.out.siz
  have hws : w.heap.size < wr.heap.size := by omega
  obtain ⟨Ar, cr, rfl⟩ : ∃ A c, u7 = .slice A o.length c := by
   obtain ⟨A, c, e, -⟩ := own_form (show wr.ownsRow _ _ _ _ _ _ from HW.out.own)
   exact ⟨A, c, e⟩
  clear hbx
  by_cases hsx : sx = -1
  ·have hd : decide ((0 : Int) ≤ -1) = false := by decide
   have HR : Hid (o = R) := by
    rcases HI.out with h | ⟨s, h, -⟩
    ·exact h.2
    ·omega
   subst hsx
   clear HI
   go_wp2_with fail
   go_ret
   exact ⟨_, rfl, HR.out ▸ HW.out.own.mono (by omega), HW.out.bel⟩
  ·obtain ⟨s, hsx2, hsm, hkb, hRR⟩ := HI.out.resolve_left (fun h => hsx h.1)
   subst hsx2
   rw [HN.out.1] at hsm
   rw [HL.out] at hkb
   have hsn : s < n := hsm
   have hds : decide (s < n) = true := decide_eq_true hsn
   have hd : decide ((0 : Int) ≤ (s : Int)) = true := decide_eq_true (by omega)
   obtain ⟨g0, f0, rfl, -, hg0, hac0⟩ := HA.out.at_ (k := s) (by rw [HN.out.2]; exact hsn)
   obtain ⟨b, hb⟩ : ∃ b, m.ac[s]'(by rw [HN.out.2]; exact hsn) = b := ⟨_, rfl⟩
   rw [hb] at hac0
   have hbg : (m.ac[s]?).getD false = b := by rw [List.getElem?_eq_getElem (by rw [HN.out.2]; exact hsn), hb]; rfl
   have hacw := (HW.out.bel.cell (p := ⟨g0, f0 + s, none⟩) hg0).trans hac0
   have hg1 : g0 < wr.heap.size := by have := HW.out.bel.size; omega
   have HST := Lib.hid (fun o' => rhI_step (o' := o') HV.out hRR hbg)
   clear hsx hsm hRR hbg hac0 hb HI
   cases b with
   | true =>
    by_cases hkl : k < L
    ·have hdk : decide (k < L) = true := decide_eq_true hkl
     have hne : decide (k = L) = false := decide_eq_false (by omega)
     have hnei : decide ((k : Int) = (L : Int)) = false := decide_eq_false (by omega)
     have hneb : (k == L) = false := by simp; omega
     have hnec : ((k : Int) == (L : Int)) = false := by simp; omega
     have hown := HW.out.own
     go_wp2_with (at_builtin; refine app_one inC_E Tryz.underlying22 hi3 hk0 hk1 hk2 rfl (by decide) _ _ _ _ o k _ (w.heap.size + 1) rfl rfl rfl rfl rfl hown (by omega) (by omega) ?_; intro v1 w1 hown1 hb1)
     have HW1 := Lib.hid (HW.out.next hown1 hb1)
     have HT := Lib.hid (HST.out (o ++ [k]) rfl)
     clear hown hown1 hb1 hacw hg1 x0 x1 hwz hws
     have hkb : k < bs.length := by rw [HL.out]; exact hkl
     obtain ⟨g, ff, rfl, hg, hcs⟩ := HBC.out.resolve_left (by intro e; rw [e] at hkb; simp at hkb)
     have hck := hcs k hkb
     obtain ⟨c, hc⟩ : ∃ c, bs[k] = c := ⟨_, rfl⟩
     rw [hc] at hck
     have hnext := HT.out.2 hkb
     rw [hc] at hnext
     have HNEXT := Lib.hid hnext
     have hbW := HW1.out.bel
     have hb1 := HW1.out.box
     have hz1 := HW1.out.siz
     have hd0 : ∀ d' : BelT w1.heap.size w1, d'.val.cell? ⟨w.heap.size, 0, none⟩ = some (.slice Ae n ce) := fun d' => by
      rw [cell_of_row _ _ _ _ _ _ ((d'.property.block w.heap.size (by omega)).trans hb1)]; rfl
     have hd1 : ∀ d' : BelT w1.heap.size w1, d'.val.cell? ⟨w.heap.size, 1, none⟩ = some (.slice (some ⟨g0, f0, none⟩) n ca) := fun d' => by
      rw [cell_of_row _ _ _ _ _ _ ((d'.property.block w.heap.size (by omega)).trans hb1)]; rfl
     have hd2 : ∀ d' : BelT w1.heap.size w1, w.heap.size < d'.val.heap.size := fun d' => by have := d'.property.size; omega
     have hd3 : ∀ d' : BelT w1.heap.size w1, d'.val.cell? ⟨g, ff + k, none⟩ = some (.int .u8 (c : Int)) := fun d' => ((hbW.trans (d'.property.mono hbW.size)).cell (p := ⟨g, ff + k, none⟩) hg).trans hck
     have hd4 : ∀ d' : BelT w1.heap.size w1, g < d'.val.heap.size := fun d' => by have := d'.property.size; have := hbW.size; omega
     have hcall : ∀ d' : BelT w1.heap.size w1, Calls Tryz.prog 81 #[.agg #[.slice Ae n ce, .slice (some ⟨g0, f0, none⟩) n ca], .int .i64 (s : Int), .int .u8 (c : Int)] d'.val fun e w' => e = .returned (.int .i64 (nxF m s c)) ∧ Below d'.val.heap.size d'.val w' := fun d' => HNX.out s c d'.val (hbW.trans (d'.property.mono hbW.size)) hsn
     obtain ⟨x, hx⟩ : ∃ x, nxF m s c = x := ⟨_, rfl⟩
     rw [hx] at hcall HNEXT
     have HCALL := Lib.hid hcall
     clear hck hcs hkb hc hnext hbW hb1 hcall hx
     refine wp_region_below (Below.refl w1.heap.size w1) (by kernel_rfl) (by kernel_rfl) ?_
     repeat (go_big_quiet_step ((go_at_call 81; exact Calls.below_of (Nat.le_refl _) (HCALL.out _))))
     refine wpQuiet_nil ?_
     intro w2 hw'
     have hw2 : Below w1.heap.size w1 w2 := by obtain ⟨d9, rfl⟩ := hw'; exact d9.property
     have HW2 := Lib.hid (HW1.out.later hw2)
     clear hw' hd0 hd1 hd2 hd3 hd4 hw2
     go_wp2_with fail
     go_roundg (L - k)
     case measure => omega
     case rel => exact ⟨x, k + 1, o ++ [k], rfl, by go_num, by (try simp); omega, by omega, by omega, HW2, HNEXT⟩
    ·obtain rfl : k = L := by omega
     have hdk : decide (k < k) = false := decide_eq_false (by omega)
     have hne : decide (k = k) = true := decide_eq_true rfl
     have hnei : decide ((k : Int) = (k : Int)) = true := decide_eq_true rfl
     have hown := HW.out.own
     go_wp2_with (at_builtin; refine app_one inC_E Tryz.underlying22 hi3 hk0 hk1 hk2 rfl (by decide) _ _ _ _ o k _ (w.heap.size + 1) rfl rfl rfl rfl rfl hown (by omega) (by omega) ?_; intro v1 w1 hown1 hb1)
     have HW1 := Lib.hid (HW.out.next hown1 hb1)
     have HT := Lib.hid (HST.out (o ++ [k]) rfl)
     clear hown hown1 hb1 hacw hg1 x0 x1
     have HE := Lib.hid (HT.out.1 (Nat.le_of_eq HL.out))
     go_ret
     exact ⟨_, rfl, HE.out ▸ HW1.out.own.mono (by omega), HW1.out.bel⟩
   | false =>
    have HW1 := HW
    have HT := Lib.hid (HST.out o rfl)
    by_cases hkl : k < L
    ·have hdk : decide (k < L) = true := decide_eq_true hkl
     have hne : decide (k = L) = false := decide_eq_false (by omega)
     have hnei : decide ((k : Int) = (L : Int)) = false := decide_eq_false (by omega)
     have hneb : (k == L) = false := by simp; omega
     have hnec : ((k : Int) == (L : Int)) = false := by simp; omega
     have hkb : k < bs.length := by rw [HL.out]; exact hkl
     obtain ⟨g, ff, rfl, hg, hcs⟩ := HBC.out.resolve_left (by intro e; rw [e] at hkb; simp at hkb)
     have hck := hcs k hkb
     obtain ⟨c, hc⟩ : ∃ c, bs[k] = c := ⟨_, rfl⟩
     rw [hc] at hck
     have hnext := HT.out.2 hkb
     rw [hc] at hnext
     have HNEXT := Lib.hid hnext
     have hbW := HW1.out.bel
     have hb1 := HW1.out.box
     have hz1 := HW1.out.siz
     have hd0 : ∀ d' : BelT wr.heap.size wr, d'.val.cell? ⟨w.heap.size, 0, none⟩ = some (.slice Ae n ce) := fun d' => by
      rw [cell_of_row _ _ _ _ _ _ ((d'.property.block w.heap.size (by omega)).trans hb1)]; rfl
     have hd1 : ∀ d' : BelT wr.heap.size wr, d'.val.cell? ⟨w.heap.size, 1, none⟩ = some (.slice (some ⟨g0, f0, none⟩) n ca) := fun d' => by
      rw [cell_of_row _ _ _ _ _ _ ((d'.property.block w.heap.size (by omega)).trans hb1)]; rfl
     have hd2 : ∀ d' : BelT wr.heap.size wr, w.heap.size < d'.val.heap.size := fun d' => by have := d'.property.size; omega
     have hd3 : ∀ d' : BelT wr.heap.size wr, d'.val.cell? ⟨g, ff + k, none⟩ = some (.int .u8 (c : Int)) := fun d' => ((hbW.trans (d'.property.mono hbW.size)).cell (p := ⟨g, ff + k, none⟩) hg).trans hck
     have hd4 : ∀ d' : BelT wr.heap.size wr, g < d'.val.heap.size := fun d' => by have := d'.property.size; have := hbW.size; omega
     have hcall : ∀ d' : BelT wr.heap.size wr, Calls Tryz.prog 81 #[.agg #[.slice Ae n ce, .slice (some ⟨g0, f0, none⟩) n ca], .int .i64 (s : Int), .int .u8 (c : Int)] d'.val fun e w' => e = .returned (.int .i64 (nxF m s c)) ∧ Below d'.val.heap.size d'.val w' := fun d' => HNX.out s c d'.val (hbW.trans (d'.property.mono hbW.size)) hsn
     obtain ⟨x, hx⟩ : ∃ x, nxF m s c = x := ⟨_, rfl⟩
     rw [hx] at hcall HNEXT
     have HCALL := Lib.hid hcall
     clear hck hcs hkb hc hnext hbW hb1 hcall hx
     go_wp2_with fail
     try exact absurd (show ((k : Int) == (L : Int)) = true by assumption) (by rw [hnec]; decide)
     refine wp_region_below (Below.refl wr.heap.size wr) (by kernel_rfl) (by kernel_rfl) ?_
     repeat (go_big_quiet_step ((go_at_call 81; exact Calls.below_of (Nat.le_refl _) (HCALL.out _))))
     refine wpQuiet_nil ?_
     intro w2 hw'
     have hw2 : Below wr.heap.size wr w2 := by obtain ⟨d9, rfl⟩ := hw'; exact d9.property
     have HW2 := Lib.hid (HW1.out.later hw2)
     clear hw' hd0 hd1 hd2 hd3 hd4 hw2
     go_wp2_with fail
     go_roundg (L - k)
     case measure => omega
     case rel => exact ⟨x, k + 1, o, rfl, by go_num, by (try simp); omega, by omega, by omega, HW2, HNEXT⟩
    ·obtain rfl : k = L := by omega
     have hdk : decide (k < k) = false := decide_eq_false (by omega)
     have hne : decide (k = k) = true := decide_eq_true rfl
     have hnei : decide ((k : Int) = (k : Int)) = true := decide_eq_true rfl
     have HE := Lib.hid (HT.out.1 (Nat.le_of_eq HL.out))
     go_wp2_with fail
     go_ret
     exact ⟨_, rfl, HE.out ▸ HW1.out.own.mono (by omega), HW1.out.bel⟩
theorem sort_adj : ∀ {r : List Ed} {b : Nat}, SortE b r → ∀ i (hi : i < r.length), r[i].lo ≤ r[i].hi ∧ ∀ j (hj : j + 1 = i), (r[j]'(by omega)).hi < r[i].lo
 | e :: r, b, ⟨h1, h2, h3⟩, 0, _ => ⟨h2, fun j hj => by omega⟩
 | e :: r, b, ⟨h1, h2, h3⟩, i + 1, hi => by
  obtain ⟨q1, q2⟩ := sort_adj h3 i (by simpa using hi)
  refine ⟨by rw [List.getElem_cons_succ]; exact q1, fun j hj => ?_⟩
  cases j with
  | zero =>
   obtain rfl : i = 0 := by omega
   match r, h3, hi with
   | f :: r, h3, _ => exact h3.1
  | succ j =>
   rw [List.getElem_cons_succ, List.getElem_cons_succ]
   exact q2 j (by omega)
set_option maxHeartbeats 2000000 in
theorem mvalid_any (v : Value) (m : Mc) (w : World) (hm : McIn w v m) (hv : Vld m) (hsm : McSm m) (h1 : 1 ≤ m.ed.length) (h2 : m.ed.length ≤ 2000) :
  Calls Tryz.prog 27 #[v] w fun e w' => e = .returned (.bool true) ∧ Below w.heap.size w w' := by
 obtain ⟨ve, va, rfl, he, ha⟩ := id hm
 obtain ⟨Ae, ce, rfl, hce1, hce2⟩ := he.form
 obtain ⟨Aa, ca, rfl, hca1, hca2⟩ := ha.form
 obtain ⟨n, hn⟩ : ∃ n, m.ed.length = n := ⟨_, rfl⟩
 have hac : m.ac.length = n := by rw [hv.len, hn]
 have HE := Lib.hid he
 have HV := Lib.hid hv
 have HS := Lib.hid hsm
 have HN := Lib.hid (And.intro hn hac)
 rw [hn] at hce1 h1 h2
 rw [hac] at hca1
 rw [hn, hac]
 have hb0 : Below w.heap.size w (w.alloc (.cells #[.slice Ae n ce, .slice Aa n ca] 34)) := (Below.refl _ _).alloc (Nat.le_refl _) _
 have HB0 := Lib.hid hb0
 clear he ha hv hsm hn hac hm hb0
 have hd1 : decide (n < 1) = false := decide_eq_false (by omega)
 have hd1i : decide ((n : Int) < 1) = false := decide_eq_false (by omega)
 have hd2 : decide (2000 < n) = false := decide_eq_false (by omega)
 have hd2i : decide (2000 < (n : Int)) = false := decide_eq_false (by omega)
 go_enter Tryz.func27, Tryz.ntmps27
 go_wp2_with fail
 go_loopw [27] (fun v wr => ∃ k : Nat, k ≤ n ∧ v = .int .i64 (k : Int) ∧ Hid (Below w.heap.size w wr)) (fun v _ => n - (intOf v).toNat)
 case atStart => exact ⟨0, by omega, rfl, HB0⟩
 case round =>
  obtain ⟨k, hk, rfl, HB⟩ := hrel
  by_cases hlt : k < n
  ·have hd : decide ((k : Int) < (n : Int)) = true := decide_eq_true (by omega)
   have hdn : decide (k < n) = true := decide_eq_true hlt
   have hkm : k < m.ed.length := by rw [HN.out.1]; exact hlt
   obtain ⟨g, f, rv, rfl, -, hg, hcE, hed⟩ := HE.out.at_ hkm
   have hcE2 := (HB.out.cell (p := ⟨g, f + k, none⟩) hg).trans hcE
   obtain ⟨row, hrow⟩ : ∃ r, m.ed[k] = r := ⟨_, rfl⟩
   rw [hrow] at hed
   have hsr : SortE 0 row := by rw [← hrow]; exact HV.out.srt _ (List.getElem_mem hkm)
   have hto : ∀ e ∈ row, e.to < n := fun e he => by rw [← HN.out.1]; exact HV.out.to _ (by rw [← hrow]; exact List.getElem_mem hkm) e he
   have hrl : row.length ≤ 10000 := HS.out.rl _ (by rw [← hrow]; exact List.getElem_mem hkm)
   obtain ⟨Ar, cr, rfl, hrc, hrcell⟩ := hed
   obtain ⟨L, hL⟩ : ∃ L, row.length = L := ⟨_, rfl⟩
   rw [hL] at hrc hcE hcE2 hrl
   have HR := Lib.hid (And.intro hsr (And.intro hto hL))
   have HRC := Lib.hid hrcell
   have hgw : g < wr.heap.size := by have := HB.out.size; omega
   clear hsr hto hL hrcell hrow hkm hcE
   go_wp2_with fail
   go_loopw [33] (fun v wr => ∃ j : Nat, j ≤ L ∧ v = .int .i64 (j : Int) ∧ Hid (Below w.heap.size w wr)) (fun v _ => L - (intOf v).toNat)
   case atStart => exact ⟨0, by omega, rfl, HB⟩
   case round =>
    obtain ⟨j, hj, rfl, HB2⟩ := hrel
    by_cases hjl : j < L
    ·have hdj : decide ((j : Int) < (L : Int)) = true := decide_eq_true (by omega)
     have hdjn : decide (j < L) = true := decide_eq_true hjl
     have hjm : j < row.length := by rw [HR.out.2.2]; exact hjl
     obtain ⟨g2, f2, rfl, hg2, hcs⟩ := HRC.out.resolve_left (by intro e; rw [e] at hjm; simp at hjm)
     obtain ⟨p0, p1, p2⟩ := hcs j hjm
     obtain ⟨⟨lo, hi, to⟩, he⟩ : ∃ e, row[j] = e := ⟨_, rfl⟩
     have hlh := (sort_adj HR.out.1 j hjm).1
     have hprev := (sort_adj HR.out.1 j hjm).2
     have hto := HR.out.2.1 _ (List.getElem_mem hjm)
     rw [he] at p0 p1 p2 hlh hprev hto
     simp only at hlh hprev hto p0 p1 p2
     have q0 := (HB2.out.cell (p := ⟨g2, f2 + j * 3, none⟩) hg2).trans p0
     have q1 := (HB2.out.cell (p := ⟨g2, f2 + j * 3 + 1, none⟩) hg2).trans p1
     have q2 := (HB2.out.cell (p := ⟨g2, f2 + j * 3 + 2, none⟩) hg2).trans p2
     have hgw2 : g2 < wr.heap.size := by have := HB2.out.size; omega
     have HP := Lib.hid (And.intro hlh (And.intro hprev hto))
     have HCS := Lib.hid hcs
     clear p0 p1 p2 hlh hprev hto hcs he
     go_wp2_with fail
     refine wp_named fun W hW => ?_
     have hbW : Below wr.heap.size wr W := by rw [hW]; exact (Below.refl _ _).alloc (Nat.le_refl _) _
     have hrow : W.heap[wr.heap.size]? = some (.cells #[.int .u8 (lo : Int), .int .u8 (hi : Int), .int .i64 (to : Int)] 58 (0, 0)) := by rw [hW]; exact heap_alloc_new wr _
     have hzW : W.heap.size = wr.heap.size + 1 := by rw [hW]; simp
     have hd0 : ∀ d : BelT W.heap.size W, d.val.cell? ⟨wr.heap.size, 0, none⟩ = some (.int .u8 (lo : Int)) := fun d => by
      rw [cell_of_row _ _ _ _ _ _ ((d.property.block wr.heap.size (by omega)).trans hrow)]; rfl
     have hd1 : ∀ d : BelT W.heap.size W, d.val.cell? ⟨wr.heap.size, 1, none⟩ = some (.int .u8 (hi : Int)) := fun d => by
      rw [cell_of_row _ _ _ _ _ _ ((d.property.block wr.heap.size (by omega)).trans hrow)]; rfl
     have hd2 : ∀ d : BelT W.heap.size W, d.val.cell? ⟨wr.heap.size, 2, none⟩ = some (.int .i64 (to : Int)) := fun d => by
      rw [cell_of_row _ _ _ _ _ _ ((d.property.block wr.heap.size (by omega)).trans hrow)]; rfl
     have hd3 : ∀ d : BelT W.heap.size W, wr.heap.size < d.val.heap.size := fun d => by have := d.property.size; omega
     have t1 : decide ((hi : Int) < (lo : Int)) = false := decide_eq_false (by have := HP.out.1; omega)
     have t1n : decide (hi < lo) = false := decide_eq_false (by have := HP.out.1; omega)
     have t2 : decide ((to : Int) < 0) = false := decide_eq_false (by omega)
     have t3 : decide ((n : Int) ≤ (to : Int)) = false := decide_eq_false (by have := HP.out.2.2; omega)
     have t3n : decide (n ≤ to) = false := decide_eq_false (by have := HP.out.2.2; omega)
     have HBW := Lib.hid (HB2.out.trans (hbW.mono HB2.out.size))
     by_cases hj0 : 0 < j
     ·have t4 : decide (0 < (j : Int)) = true := decide_eq_true (by omega)
      have t4n : decide (0 < j) = true := decide_eq_true hj0
      obtain ⟨p, hp⟩ : ∃ p, p + 1 = j := ⟨j - 1, by omega⟩
      have hw : IntKind.i64.wrap ((j : Int) - 1) = (p : Int) := by rw [IntWalk.i64_in _ (by omega)]; omega
      have hw2 : ((j : Int) - 1) = (p : Int) := by omega
      have hpl : p < L := by omega
      have t5 : decide (p < L) = true := decide_eq_true hpl
      obtain ⟨-, p1, -⟩ := HCS.out p (by rw [HR.out.2.2]; exact hpl)
      have hph := HP.out.2.1 p hp
      obtain ⟨ph, hph2⟩ : ∃ x, (row[p]'(by rw [HR.out.2.2]; exact hpl)).hi = x := ⟨_, rfl⟩
      rw [hph2] at p1 hph
      have t6 : decide ((lo : Int) ≤ (ph : Int)) = false := decide_eq_false (by omega)
      have t6n : decide (lo ≤ ph) = false := decide_eq_false (by omega)
      have hd4 : ∀ d : BelT W.heap.size W, d.val.cell? ⟨g2, f2 + p * 3 + 1, none⟩ = some (.int .u8 (ph : Int)) := fun d => ((HBW.out.trans (d.property.mono HBW.out.size)).cell (p := ⟨g2, f2 + p * 3 + 1, none⟩) hg2).trans p1
      have hd5 : ∀ d : BelT W.heap.size W, g2 < d.val.heap.size := fun d => by have := d.property.size; omega
      clear hrow hbW hW hp p1 hph hph2 q0 q1 q2 hcE2
      refine wp_region_below (Below.refl W.heap.size W) (by kernel_rfl) (by kernel_rfl) ?_
      repeat (go_big_quiet_step (fail))
      refine wpQuiet_nil ?_
      intro w2 hw'
      have hw2 : Below W.heap.size W w2 := by obtain ⟨d9, rfl⟩ := hw'; exact d9.property
      have HB3 := Lib.hid (HBW.out.trans (hw2.mono HBW.out.size))
      clear hw' hd0 hd1 hd2 hd3 hd4 hd5 hw2
      go_wp2_with fail
      go_roundw
      case rel => exact ⟨j + 1, by omega, by go_num, HB3⟩
      case measure => simp [intOf]; omega
     ·obtain rfl : j = 0 := by omega
      have t4 : decide (0 < ((0 : Nat) : Int)) = false := by decide
      have t4n : decide (0 < 0) = false := by decide
      clear hrow hbW hW q0 q1 q2 hcE2
      refine wp_region_below (Below.refl W.heap.size W) (by kernel_rfl) (by kernel_rfl) ?_
      repeat (go_big_quiet_step (fail))
      refine wpQuiet_nil ?_
      intro w2 hw'
      have hw2 : Below W.heap.size W w2 := by obtain ⟨d9, rfl⟩ := hw'; exact d9.property
      have HB3 := Lib.hid (HBW.out.trans (hw2.mono HBW.out.size))
      clear hw' hd0 hd1 hd2 hd3 hw2
      go_wp2_with fail
      go_roundw
      case rel => exact ⟨1, by omega, rfl, HB3⟩
      case measure => simp [intOf]; omega
    ·obtain rfl : j = L := by omega
     have hdj : decide ((j : Int) < (j : Int)) = false := decide_eq_false (by omega)
     have hdjn : decide (j < j) = false := decide_eq_false (by omega)
     go_wp2_with fail
     go_roundw
     case rel => exact ⟨k + 1, by omega, by go_num, HB2⟩
     case measure => simp [intOf]; omega
  ·obtain rfl : k = n := by omega
   have hd : decide ((k : Int) < (k : Int)) = false := decide_eq_false (by omega)
   have hdn : decide (k < k) = false := decide_eq_false (by omega)
   go_wp2_with fail
   go_ret
   exact ⟨rfl, HB.out⟩
structure Bx (w : World) (a b c d : Value) (wr : World) : Prop where
 bel : Below w.heap.size w wr
 siz : w.heap.size + 2 ≤ wr.heap.size
 r0 : wr.heap[w.heap.size]? = some (.cells #[a, b] 34 (0, 0))
 r1 : wr.heap[w.heap.size + 1]? = some (.cells #[c, d] 34 (0, 0))
theorem Bx.later {w wr w' : World} {a b c d : Value} (h : Bx w a b c d wr) (hb : Below wr.heap.size wr w') : Bx w a b c d w' :=
 ⟨h.bel.trans (hb.mono h.bel.size), Nat.le_trans h.siz hb.size, (hb.block _ (by have := h.siz; omega)).trans h.r0, (hb.block _ (by have := h.siz; omega)).trans h.r1⟩
theorem Bx.cells {w wr : World} {a b c d : Value} (h : Bx w a b c d wr) : wr.cell? ⟨w.heap.size, 0, none⟩ = some a ∧ wr.cell? ⟨w.heap.size, 1, none⟩ = some b ∧ wr.cell? ⟨w.heap.size + 1, 0, none⟩ = some c ∧ wr.cell? ⟨w.heap.size + 1, 1, none⟩ = some d ∧ w.heap.size < wr.heap.size ∧ w.heap.size + 1 < wr.heap.size := by
 have h1 := h.siz
 refine ⟨?_, ?_, ?_, ?_, by omega, by omega⟩
 ·rw [cell_of_row _ _ _ _ _ _ h.r0]; rfl
 ·rw [cell_of_row _ _ _ _ _ _ h.r0]; rfl
 ·rw [cell_of_row _ _ _ _ _ _ h.r1]; rfl
 ·rw [cell_of_row _ _ _ _ _ _ h.r1]; rfl
set_option maxHeartbeats 4000000 in
theorem requal_any (v1 v2 : Value) (m1 m2 : Mc) (w : World) (hm1 : McIn w v1 m1) (hm2 : McIn w v2 m2) (hv1 : Vld m1) (hv2 : Vld m2) (hsm1 : McSm m1) (hsm2 : McSm m2) :
  Calls Tryz.prog 16 #[v1, v2] w fun e w' => e = .returned (.bool (decide (m1 = m2))) ∧ Below w.heap.size w w' := by
 obtain ⟨ve1, va1, rfl, he1, ha1⟩ := id hm1
 obtain ⟨Ae1, ce1, rfl, hce1⟩ := he1.form
 obtain ⟨Aa1, ca1, rfl, hca1⟩ := ha1.form
 obtain ⟨ve2, va2, rfl, he2, ha2⟩ := id hm2
 obtain ⟨Ae2, ce2, rfl, hce2⟩ := he2.form
 obtain ⟨Aa2, ca2, rfl, hca2⟩ := ha2.form
 obtain ⟨n1, hn1⟩ : ∃ n, m1.ed.length = n := ⟨_, rfl⟩
 obtain ⟨n2, hn2⟩ : ∃ n, m2.ed.length = n := ⟨_, rfl⟩
 have hac1 : m1.ac.length = n1 := by rw [hv1.len, hn1]
 have hac2 : m2.ac.length = n2 := by rw [hv2.len, hn2]
 obtain ⟨q, hq⟩ : ∃ q, decide (m1 = m2) = q := ⟨_, rfl⟩
 have HB0 : Hid (Bx w (.slice Ae1 n1 ce1) (.slice Aa1 n1 ca1) (.slice Ae2 n2 ce2) (.slice Aa2 n2 ca2) ((w.alloc (.cells #[.slice Ae1 n1 ce1, .slice Aa1 n1 ca1] 34)).alloc (.cells #[.slice Ae2 n2 ce2, .slice Aa2 n2 ca2] 34))) :=
  ⟨((Below.refl _ _).alloc (Nat.le_refl _) _).alloc (by simp) _, by simp, by rw [old_alloc _ _ _ (by simp)]; exact heap_alloc_new w _, by simpa using heap_alloc_new (w.alloc (.cells #[.slice Ae1 n1 ce1, .slice Aa1 n1 ca1] 34)) (.cells #[.slice Ae2 n2 ce2, .slice Aa2 n2 ca2] 34)⟩
 have HE := Lib.hid (And.intro he1 (And.intro he2 (And.intro ha1 ha2)))
 have HN := Lib.hid (And.intro (And.intro hn1 hac1) (And.intro (And.intro hn2 hac2) hq))
 have HS := Lib.hid (And.intro hsm1 hsm2)
 have hnn : n1 ≤ 100000 := by rw [← hn1]; exact hsm1.n
 rw [hq, hn1, hn2, hac1, hac2]
 clear he1 he2 ha1 ha2 hn1 hn2 hac1 hac2 hq hm1 hm2 hv1 hv2 hsm1 hsm2 hce1 hca1 hce2 hca2
 by_cases hnn2 : n1 = n2
 ·subst hnn2
  go_enter Tryz.func16, Tryz.ntmps16
  go_wp2_with fail
  go_loopw [5] (fun v wr => ∃ k : Nat, k ≤ n1 ∧ v = .int .i64 (k : Int) ∧ Hid (Bx w (.slice Ae1 n1 ce1) (.slice Aa1 n1 ca1) (.slice Ae2 n1 ce2) (.slice Aa2 n1 ca2) wr) ∧ Hid (∀ i, i < k → m1.ac[i]? = m2.ac[i]?)) (fun v _ => n1 - (intOf v).toNat)
  case atStart => exact ⟨0, by omega, rfl, HB0, fun i hi => absurd hi (Nat.not_lt_zero _)⟩
  case round =>
   obtain ⟨k, hk, rfl, HB, HI⟩ := hrel
   obtain ⟨b0, b1, b2, b3, s0, s1⟩ := HB.out.cells
   by_cases hlt : k < n1
   ·have hd : decide ((k : Int) < (n1 : Int)) = true := decide_eq_true (by omega)
    have hdn : decide (k < n1) = true := decide_eq_true hlt
    obtain ⟨g1, f1, rfl, -, hg1, hc1⟩ := HE.out.2.2.1.at_ (k := k) (by rw [HN.out.1.2]; exact hlt)
    obtain ⟨g2, f2, rfl, -, hg2, hc2⟩ := HE.out.2.2.2.at_ (k := k) (by rw [HN.out.2.1.2]; exact hlt)
    obtain ⟨x1, hx1⟩ : ∃ x, m1.ac[k]'(by rw [HN.out.1.2]; exact hlt) = x := ⟨_, rfl⟩
    obtain ⟨x2, hx2⟩ : ∃ x, m2.ac[k]'(by rw [HN.out.2.1.2]; exact hlt) = x := ⟨_, rfl⟩
    rw [hx1] at hc1
    rw [hx2] at hc2
    have HX : Hid (m1.ac[k]? = some x1 ∧ m2.ac[k]? = some x2) := ⟨by rw [List.getElem?_eq_getElem (by rw [HN.out.1.2]; exact hlt), hx1], by rw [List.getElem?_eq_getElem (by rw [HN.out.2.1.2]; exact hlt), hx2]⟩
    have d0 : ∀ d : BelT wr.heap.size wr, d.val.cell? ⟨w.heap.size, 1, none⟩ = some (.slice (some ⟨g1, f1, none⟩) n1 ca1) := fun d => (HB.out.later d.property).cells.2.1
    have d1 : ∀ d : BelT wr.heap.size wr, d.val.cell? ⟨w.heap.size + 1, 1, none⟩ = some (.slice (some ⟨g2, f2, none⟩) n1 ca2) := fun d => (HB.out.later d.property).cells.2.2.2.1
    have d2 : ∀ d : BelT wr.heap.size wr, w.heap.size < d.val.heap.size := fun d => (HB.out.later d.property).cells.2.2.2.2.1
    have d3 : ∀ d : BelT wr.heap.size wr, w.heap.size + 1 < d.val.heap.size := fun d => (HB.out.later d.property).cells.2.2.2.2.2
    have d4 : ∀ d : BelT wr.heap.size wr, d.val.cell? ⟨g1, f1 + k, none⟩ = some (.bool x1) := fun d => ((HB.out.later d.property).bel.cell (p := ⟨g1, f1 + k, none⟩) hg1).trans hc1
    have d5 : ∀ d : BelT wr.heap.size wr, d.val.cell? ⟨g2, f2 + k, none⟩ = some (.bool x2) := fun d => ((HB.out.later d.property).bel.cell (p := ⟨g2, f2 + k, none⟩) hg2).trans hc2
    have d6 : ∀ d : BelT wr.heap.size wr, g1 < d.val.heap.size := fun d => by have := (HB.out.later d.property).bel.size; omega
    have d7 : ∀ d : BelT wr.heap.size wr, g2 < d.val.heap.size := fun d => by have := (HB.out.later d.property).bel.size; omega
    clear hx1 hx2 hc1 hc2
    go_wp2_with fail
    refine wp_region_below (Below.refl wr.heap.size wr) (by kernel_rfl) (by kernel_rfl) ?_
    repeat (go_big_quiet_step (fail))
    refine wpQuiet_nil ?_
    intro w2 hw'
    have hw2 : Below wr.heap.size wr w2 := by obtain ⟨d9, rfl⟩ := hw'; exact d9.property
    have HB3 := Lib.hid (HB.out.later hw2)
    clear hw' d0 d1 d2 d3 d4 d5 d6 d7 hw2
    by_cases hxx : x1 = x2
    ·subst hxx
     cases x1
     all_goals
      go_wp2_with fail
      go_roundw
      case rel =>
       refine ⟨k + 1, by omega, by go_num, HB3, fun i hi => ?_⟩
       by_cases hik : i = k
       ·subst hik; rw [HX.out.1, HX.out.2]
       ·exact HI.out i (by omega)
      case measure => simp [intOf]; omega
    ·have HF : Hid (false = q) := by
      rw [← HN.out.2.2]
      refine (decide_eq_false fun e => hxx ?_).symm
      have h1 := HX.out.1
      rw [e, HX.out.2] at h1
      exact (Option.some.inj h1).symm
     cases x1 <;> cases x2
     all_goals first
      | exact absurd rfl hxx
      | (clear hxx
         go_wp2_with fail
         go_ret
         exact ⟨ret_bool HF.out, HB3.out.bel⟩)
   ·obtain rfl : k = n1 := by omega
    have hd : decide ((k : Int) < (k : Int)) = false := decide_eq_false (by omega)
    have hdn : decide (k < k) = false := decide_eq_false (by omega)
    have HA : Hid (m1.ac = m2.ac) := by
     apply List.ext_getElem?
     intro i
     by_cases hi : i < k
     ·exact HI.out i hi
     ·rw [List.getElem?_eq_none (by rw [HN.out.1.2]; omega), List.getElem?_eq_none (by rw [HN.out.2.1.2]; omega)]
    clear HI
    go_wp2_with fail
    go_loopw [6] (fun v wr => ∃ k2 : Nat, k2 ≤ k ∧ v = .int .i64 (k2 : Int) ∧ Hid (Bx w (.slice Ae1 k ce1) (.slice Aa1 k ca1) (.slice Ae2 k ce2) (.slice Aa2 k ca2) wr) ∧ Hid (∀ i, i < k2 → m1.ed[i]? = m2.ed[i]?)) (fun v _ => k - (intOf v).toNat)
    case atStart => exact ⟨0, by omega, rfl, HB, fun i hi => absurd hi (Nat.not_lt_zero _)⟩
    case round =>
     clear b0 b1 b2 b3 s0 s1 HB
     obtain ⟨k2, hk2, rfl, HB, HI⟩ := hrel
     obtain ⟨b0, b1, b2, b3, s0, s1⟩ := HB.out.cells
     by_cases hlt : k2 < k
     ·have hd : decide ((k2 : Int) < (k : Int)) = true := decide_eq_true (by omega)
      have hdn : decide (k2 < k) = true := decide_eq_true hlt
      obtain ⟨g1, f1, rv1, rfl, -, hg1, hc1, hed1⟩ := HE.out.1.at_ (k := k2) (by rw [HN.out.1.1]; exact hlt)
      obtain ⟨g2, f2, rv2, rfl, -, hg2, hc2, hed2⟩ := HE.out.2.1.at_ (k := k2) (by rw [HN.out.2.1.1]; exact hlt)
      obtain ⟨r1, hr1⟩ : ∃ x, m1.ed[k2]'(by rw [HN.out.1.1]; exact hlt) = x := ⟨_, rfl⟩
      obtain ⟨r2, hr2⟩ : ∃ x, m2.ed[k2]'(by rw [HN.out.2.1.1]; exact hlt) = x := ⟨_, rfl⟩
      have hrl1 : r1.length ≤ 10000 := by rw [← hr1]; exact HS.out.1.rl _ (List.getElem_mem _)
      rw [hr1] at hed1
      rw [hr2] at hed2
      have HX : Hid (m1.ed[k2]? = some r1 ∧ m2.ed[k2]? = some r2) := ⟨by rw [List.getElem?_eq_getElem (by rw [HN.out.1.1]; exact hlt), hr1], by rw [List.getElem?_eq_getElem (by rw [HN.out.2.1.1]; exact hlt), hr2]⟩
      obtain ⟨A1, c1, rfl, hcr1, hcs1⟩ := hed1
      obtain ⟨A2, c2, rfl, hcr2, hcs2⟩ := hed2
      obtain ⟨L1, hL1⟩ : ∃ n, r1.length = n := ⟨_, rfl⟩
      obtain ⟨L2, hL2⟩ : ∃ n, r2.length = n := ⟨_, rfl⟩
      rw [hL1] at hc1 hrl1
      rw [hL2] at hc2
      have HL := Lib.hid (And.intro hL1 hL2)
      have HCS := Lib.hid (And.intro hcs1 hcs2)
      have HCC := Lib.hid (And.intro (And.intro hg1 hc1) (And.intro hg2 hc2))
      have d0 : ∀ d : BelT wr.heap.size wr, d.val.cell? ⟨w.heap.size, 0, none⟩ = some (.slice (some ⟨g1, f1, none⟩) k ce1) := fun d => (HB.out.later d.property).cells.1
      have d1 : ∀ d : BelT wr.heap.size wr, d.val.cell? ⟨w.heap.size + 1, 0, none⟩ = some (.slice (some ⟨g2, f2, none⟩) k ce2) := fun d => (HB.out.later d.property).cells.2.2.1
      have d2 : ∀ d : BelT wr.heap.size wr, w.heap.size < d.val.heap.size := fun d => (HB.out.later d.property).cells.2.2.2.2.1
      have d3 : ∀ d : BelT wr.heap.size wr, w.heap.size + 1 < d.val.heap.size := fun d => (HB.out.later d.property).cells.2.2.2.2.2
      have d4 : ∀ d : BelT wr.heap.size wr, d.val.cell? ⟨g1, f1 + k2, none⟩ = some (.slice A1 L1 c1) := fun d => ((HB.out.later d.property).bel.cell (p := ⟨g1, f1 + k2, none⟩) hg1).trans hc1
      have d5 : ∀ d : BelT wr.heap.size wr, d.val.cell? ⟨g2, f2 + k2, none⟩ = some (.slice A2 L2 c2) := fun d => ((HB.out.later d.property).bel.cell (p := ⟨g2, f2 + k2, none⟩) hg2).trans hc2
      have d6 : ∀ d : BelT wr.heap.size wr, g1 < d.val.heap.size := fun d => by have := (HB.out.later d.property).bel.size; omega
      have d7 : ∀ d : BelT wr.heap.size wr, g2 < d.val.heap.size := fun d => by have := (HB.out.later d.property).bel.size; omega
      clear hr1 hr2 hc1 hc2 hL1 hL2 hcs1 hcs2 hcr1 hcr2
      go_wp2_with fail
      refine wp_region_below (Below.refl wr.heap.size wr) (by kernel_rfl) (by kernel_rfl) ?_
      repeat (go_big_quiet_step (fail))
      refine wpQuiet_nil ?_
      intro w2 hw'
      have hw2 : Below wr.heap.size wr w2 := by obtain ⟨d9, rfl⟩ := hw'; exact d9.property
      have HB3 := Lib.hid (HB.out.later hw2)
      clear hw' d0 d1 d2 d3 d4 d5 d6 d7 hw2
      by_cases hLL : L1 = L2
      ·subst hLL
       go_wp2_with fail
       go_loopw [7] (fun v wr => ∃ j : Nat, j ≤ L1 ∧ v = .int .i64 (j : Int) ∧ Hid (Bx w (.slice (some ⟨g1, f1, none⟩) k ce1) (.slice Aa1 k ca1) (.slice (some ⟨g2, f2, none⟩) k ce2) (.slice Aa2 k ca2) wr) ∧ Hid (∀ i, i < j → r1[i]? = r2[i]?)) (fun v _ => L1 - (intOf v).toNat)
       case atStart => exact ⟨0, by omega, rfl, HB3, fun i hi => absurd hi (Nat.not_lt_zero _)⟩
       case round =>
        clear b0 b1 b2 b3 s0 s1
        obtain ⟨j, hj, rfl, HB5, HI5⟩ := hrel
        obtain ⟨b0, b1, b2, b3, s0, s1⟩ := HB5.out.cells
        have e0 := (HB5.out.bel.cell (p := ⟨g1, f1 + k2, none⟩) HCC.out.1.1).trans HCC.out.1.2
        have e1 : g1 < wr.heap.size := by have := HB5.out.bel.size; omega
        by_cases hjl : j < L1
        ·have hdj : decide ((j : Int) < (L1 : Int)) = true := decide_eq_true (by omega)
         have hdjn : decide (j < L1) = true := decide_eq_true hjl
         have hj1 : j < r1.length := by rw [HL.out.1]; exact hjl
         have hj2 : j < r2.length := by rw [HL.out.2]; exact hjl
         obtain ⟨p1, o1, rfl, hp1, hq1⟩ := HCS.out.1.resolve_left (by intro e; rw [e] at hj1; simp at hj1)
         obtain ⟨p2, o2, rfl, hp2, hq2⟩ := HCS.out.2.resolve_left (by intro e; rw [e] at hj2; simp at hj2)
         obtain ⟨a0, a1, a2⟩ := hq1 j hj1
         obtain ⟨z0, z1, z2⟩ := hq2 j hj2
         have HX2 : Hid (r1[j]? = some r1[j] ∧ r2[j]? = some r2[j]) := ⟨List.getElem?_eq_getElem hj1, List.getElem?_eq_getElem hj2⟩
         obtain ⟨⟨l1, h1, t1⟩, hx1⟩ : ∃ x, r1[j] = x := ⟨_, rfl⟩
         obtain ⟨⟨l2, h2, t2⟩, hx2⟩ : ∃ x, r2[j] = x := ⟨_, rfl⟩
         rw [hx1, hx2] at HX2
         rw [hx1] at a0 a1 a2
         rw [hx2] at z0 z1 z2
         simp only at a0 a1 a2 z0 z1 z2
         have d0 : ∀ d : BelT wr.heap.size wr, d.val.cell? ⟨w.heap.size, 0, none⟩ = some (.slice (some ⟨g1, f1, none⟩) k ce1) := fun d => (HB5.out.later d.property).cells.1
         have d1 : ∀ d : BelT wr.heap.size wr, d.val.cell? ⟨w.heap.size + 1, 0, none⟩ = some (.slice (some ⟨g2, f2, none⟩) k ce2) := fun d => (HB5.out.later d.property).cells.2.2.1
         have d2 : ∀ d : BelT wr.heap.size wr, w.heap.size < d.val.heap.size := fun d => (HB5.out.later d.property).cells.2.2.2.2.1
         have d3 : ∀ d : BelT wr.heap.size wr, w.heap.size + 1 < d.val.heap.size := fun d => (HB5.out.later d.property).cells.2.2.2.2.2
         have d4 : ∀ d : BelT wr.heap.size wr, d.val.cell? ⟨g1, f1 + k2, none⟩ = some (.slice (some ⟨p1, o1, none⟩) L1 c1) := fun d => ((HB5.out.later d.property).bel.cell (p := ⟨g1, f1 + k2, none⟩) HCC.out.1.1).trans HCC.out.1.2
         have d5 : ∀ d : BelT wr.heap.size wr, d.val.cell? ⟨g2, f2 + k2, none⟩ = some (.slice (some ⟨p2, o2, none⟩) L1 c2) := fun d => ((HB5.out.later d.property).bel.cell (p := ⟨g2, f2 + k2, none⟩) HCC.out.2.1).trans HCC.out.2.2
         have d6 : ∀ d : BelT wr.heap.size wr, g1 < d.val.heap.size := fun d => by have := (HB5.out.later d.property).bel.size; omega
         have d7 : ∀ d : BelT wr.heap.size wr, g2 < d.val.heap.size := fun d => by have := (HB5.out.later d.property).bel.size; omega
         have y0 : ∀ d : BelT wr.heap.size wr, d.val.cell? ⟨p1, o1 + j * 3, none⟩ = some (.int .u8 (l1 : Int)) := fun d => ((HB5.out.later d.property).bel.cell (p := ⟨p1, o1 + j * 3, none⟩) hp1).trans a0
         have y1 : ∀ d : BelT wr.heap.size wr, d.val.cell? ⟨p1, o1 + j * 3 + 1, none⟩ = some (.int .u8 (h1 : Int)) := fun d => ((HB5.out.later d.property).bel.cell (p := ⟨p1, o1 + j * 3 + 1, none⟩) hp1).trans a1
         have y2 : ∀ d : BelT wr.heap.size wr, d.val.cell? ⟨p1, o1 + j * 3 + 2, none⟩ = some (.int .i64 (t1 : Int)) := fun d => ((HB5.out.later d.property).bel.cell (p := ⟨p1, o1 + j * 3 + 2, none⟩) hp1).trans a2
         have y3 : ∀ d : BelT wr.heap.size wr, d.val.cell? ⟨p2, o2 + j * 3, none⟩ = some (.int .u8 (l2 : Int)) := fun d => ((HB5.out.later d.property).bel.cell (p := ⟨p2, o2 + j * 3, none⟩) hp2).trans z0
         have y4 : ∀ d : BelT wr.heap.size wr, d.val.cell? ⟨p2, o2 + j * 3 + 1, none⟩ = some (.int .u8 (h2 : Int)) := fun d => ((HB5.out.later d.property).bel.cell (p := ⟨p2, o2 + j * 3 + 1, none⟩) hp2).trans z1
         have y5 : ∀ d : BelT wr.heap.size wr, d.val.cell? ⟨p2, o2 + j * 3 + 2, none⟩ = some (.int .i64 (t2 : Int)) := fun d => ((HB5.out.later d.property).bel.cell (p := ⟨p2, o2 + j * 3 + 2, none⟩) hp2).trans z2
         have y6 : ∀ d : BelT wr.heap.size wr, p1 < d.val.heap.size := fun d => by have := (HB5.out.later d.property).bel.size; omega
         have y7 : ∀ d : BelT wr.heap.size wr, p2 < d.val.heap.size := fun d => by have := (HB5.out.later d.property).bel.size; omega
         clear a0 a1 a2 z0 z1 z2 hx1 hx2 hq1 hq2
         by_cases hz : l1 = l2 ∧ h1 = h2 ∧ t1 = t2
         ·obtain ⟨rfl, rfl, rfl⟩ := hz
          have HQ : Hid (r1[j]? = r2[j]?) := by
           rw [HX2.out.1, HX2.out.2]; exact Lib.hid rfl
          go_wp2_with fail
          refine wp_region_below (Below.refl wr.heap.size wr) (by kernel_rfl) (by kernel_rfl) ?_
          repeat (go_big_quiet_step (fail))
          refine wpQuiet_nil ?_
          intro w2 hw'
          have hw2 : Below wr.heap.size wr w2 := by obtain ⟨d9, rfl⟩ := hw'; exact d9.property
          have HB6 := Lib.hid (HB5.out.later hw2)
          clear hw' d0 d1 d2 d3 d4 d5 d6 d7 y0 y1 y2 y3 y4 y5 y6 y7 hw2
          go_wp2_with fail
          go_roundw
          case rel =>
           refine ⟨j + 1, by omega, by go_num, HB6, fun i hi => ?_⟩
           by_cases hij : i = j
           ·subst hij; exact HQ.out
           ·exact HI5.out i (by omega)
          case measure => simp [intOf]; omega
         ·have HF : Hid (false = q) := by
           rw [← HN.out.2.2]
           refine (decide_eq_false fun e => hz ?_).symm
           have h3 := HX.out.1
           rw [e, HX.out.2] at h3
           have h4 := HX2.out.1
           rw [← Option.some.inj h3, HX2.out.2] at h4
           have h5 := Option.some.inj h4
           injection h5 with e1 e2 e3
           exact ⟨e1.symm, e2.symm, e3.symm⟩
          have hcase : (¬ l1 = l2 ∧ ¬ ((l1 : Int) = (l2 : Int))) ∨ (l1 = l2 ∧ ¬ h1 = h2 ∧ ¬ ((h1 : Int) = (h2 : Int))) ∨ (l1 = l2 ∧ h1 = h2 ∧ ¬ t1 = t2 ∧ ¬ ((t1 : Int) = (t2 : Int))) := by omega
          clear hz
          rcases hcase with ⟨z1, z2⟩ | ⟨rfl, z1, z2⟩ | ⟨rfl, rfl, z1, z2⟩
          all_goals
           go_wp2_with fail
           refine wp_region_below (Below.refl wr.heap.size wr) (by kernel_rfl) (by kernel_rfl) ?_
           repeat (go_big_quiet_step (fail))
           refine wpQuiet_nil ?_
           intro w2 hw'
           have hw2 : Below wr.heap.size wr w2 := by obtain ⟨d9, rfl⟩ := hw'; exact d9.property
           have HB6 := Lib.hid (HB5.out.later hw2)
           clear hw' d0 d1 d2 d3 d4 d5 d6 d7 y0 y1 y2 y3 y4 y5 y6 y7 hw2
           go_wp2_with fail
           go_ret
           exact ⟨ret_bool HF.out, HB6.out.bel⟩
        ·obtain rfl : j = L1 := by omega
         have hdj : decide ((j : Int) < (j : Int)) = false := decide_eq_false (by omega)
         have hdjn : decide (j < j) = false := decide_eq_false (by omega)
         have HR : Hid (r1 = r2) := by
          apply List.ext_getElem?
          intro i
          by_cases hi : i < j
          ·exact HI5.out i hi
          ·rw [List.getElem?_eq_none (by rw [HL.out.1]; omega), List.getElem?_eq_none (by rw [HL.out.2]; omega)]
         clear HI5
         go_wp2_with fail
         go_roundw
         case rel =>
          refine ⟨k2 + 1, by omega, by go_num, HB5, fun i hi => ?_⟩
          by_cases hik : i = k2
          ·subst hik; rw [HX.out.1, HX.out.2, HR.out]
          ·exact HI.out i (by omega)
         case measure => simp [intOf]; omega
      ·have hdL : (L1 == L2) = false := by simpa using hLL
       have hdLi : ((L1 : Int) == (L2 : Int)) = false := by simp; omega
       have HF : Hid (false = q) := by
        rw [← HN.out.2.2]
        refine (decide_eq_false fun e => hLL ?_).symm
        have h1 := HX.out.1
        rw [e, HX.out.2] at h1
        rw [← HL.out.1, ← HL.out.2, Option.some.inj h1]
       go_wp2_with fail
       go_ret
       exact ⟨ret_bool HF.out, HB3.out.bel⟩
     ·obtain rfl : k2 = k := by omega
      have hd : decide ((k2 : Int) < (k2 : Int)) = false := decide_eq_false (by omega)
      have hdn : decide (k2 < k2) = false := decide_eq_false (by omega)
      have HT : Hid (true = q) := by
       rw [← HN.out.2.2]
       refine (decide_eq_true ?_).symm
       have h2 : m1.ed = m2.ed := by
        apply List.ext_getElem?
        intro i
        by_cases hi : i < k2
        ·exact HI.out i hi
        ·rw [List.getElem?_eq_none (by rw [HN.out.1.1]; omega), List.getElem?_eq_none (by rw [HN.out.2.1.1]; omega)]
       have h1 := HA.out
       obtain ⟨x1, y1⟩ := m1
       obtain ⟨x2, y2⟩ := m2
       simp only at h1 h2
       rw [h1, h2]
      go_wp2_with fail
      go_ret
      exact ⟨ret_bool HT.out, HB.out.bel⟩
 ·have hd : (n1 == n2) = false := by simpa using hnn2
  have hdi : ((n1 : Int) == (n2 : Int)) = false := by simp; omega
  have hdd : decide ((n1 : Int) = (n2 : Int)) = false := decide_eq_false (by omega)
  have HF : Hid (false = q) := by
   rw [← HN.out.2.2]
   refine (decide_eq_false fun e => hnn2 ?_).symm
   rw [← HN.out.1.1, ← HN.out.2.1.1, e]
  have HBB := Lib.hid HB0.out.bel
  go_enter Tryz.func16, Tryz.ntmps16
  go_wp2_with fail
  go_ret
  exact ⟨ret_bool HF.out, HBB.out⟩
def rgC (r : Nat × Nat) : List Value := [.int .u8 (r.1 : Int), .int .u8 (r.2 : Int)]
theorem rgC_E : EncS rgC 2 := ⟨by decide, fun _ => rfl, fun x u hu => by simp [rgC] at hu; rcases hu with rfl | rfl <;> rfl⟩
theorem info_rge : (Tryz.prog.info? 56).map (fun i => (i.zero, i.size, i.bytes)) = some (some (.agg #[.int .u8 0, .int .u8 0]), 2, 2) := by kernel_rfl
theorem calls_named {P : Program} {f : FuncId} {args : Array Value} {Q : Ending → World → Prop} {w : World} (h : ∀ W, W = w → Calls P f args W Q) : Calls P f args w Q := h w rfl
set_option maxHeartbeats 4000000 in
theorem set_ab (rb : Nat) (d : Int) (w : World) (h : RdW rb ⟨#[97, 45, 98, 93, 123, 50, 125]⟩ false d w) :
  Calls Tryz.prog 154 #[.pointer (some ⟨rb, 0, none⟩)] w fun e w' => ∃ v, e = .returned (.agg #[.int .i64 1, v, .slice none 0 0, .int .i64 0, .int .i64 0]) ∧ OR 56 2 rgC w.heap.size v [(97, 98)] w' ∧ RdW rb ⟨#[123, 50, 125]⟩ false d w' ∧ KfR rb w w' := by
 obtain ⟨⟨c0, c1, c2⟩, ⟨f0, f1, f2⟩, hl⟩ := h.cells
 obtain ⟨i3, hi3, hk0, hk1, hk2⟩ := info_parts info_rge
 have HR := Lib.hid h
 clear h
 go_enter Tryz.func154, Tryz.ntmps154
 go_wp2_with fail
 refine wp_loop_rounds 2 ?_
 rw [rounds_succ]
 go_wp2_with fail
 refine calls_named fun W0 hW0 => ?_
 have hb0 : Below w.heap.size w W0 := by rw [hW0]; exact ((Below.refl _ _).alloc (Nat.le_refl _) _).alloc (by simp) _
 have hX : W0.heap[w.heap.size + 1]? = some (.cells #[.int .i64 1, .slice none 0 0, .slice none 0 0, .int .i64 0, .int .i64 0] 29 (0, 0)) := by rw [hW0]; simpa using heap_alloc_new (w.alloc _) (.cells #[.int .i64 1, .slice none 0 0, .slice none 0 0, .int .i64 0, .int .i64 0] 29)
 have hY : W0.heap[w.heap.size]? = some (.cells #[.int .i64 0, .slice none 0 0, .slice none 0 0, .int .i64 0, .int .i64 0] 29 (0, 0)) := by rw [hW0, old_alloc _ _ _ (by simp)]; exact heap_alloc_new w _
 have hz0 : W0.heap.size = w.heap.size + 2 := by rw [hW0]; simp
 have hT1 := take_any rb _ ⟨#[97, 45, 98, 93, 123, 50, 125]⟩ ⟨#[93]⟩ false false d W0 (HR.out.later hb0) rfl rfl
 have HT1 := Lib.hid hT1
 have H0 := Lib.hid (And.intro hb0 (And.intro hX hY))
 clear hW0 hb0 hX hY hT1 c0 c1 c2 f0 f1 f2
 refine HT1.out.mono ?_
 rintro e w1 ⟨rfl, hr1, hk1⟩
 have hT2 := one_at rb _ ⟨#[45, 98, 93, 123, 50, 125]⟩ 97 false d w1 hr1 rfl rfl (by decide) rfl (fun _ => by kernel_rfl) rfl
 have HT2 := Lib.hid hT2
 have H1 := Lib.hid hk1
 clear hr1 hk1 hT2
 go_wp2_with fail
 refine HT2.out.mono ?_
 rintro e w2 ⟨rfl, hr2, hk2⟩
 have H2 := Lib.hid (And.intro hr2 (H1.out.tr hk2))
 clear hr2 hk2
 go_wp2_with fail
 refine calls_named fun W3 hW3 => ?_
 have hb3 : Below w2.heap.size w2 W3 := by rw [hW3]; exact (Below.refl _ _).alloc (Nat.le_refl _) _
 have hX3 : W3.heap[w2.heap.size]? = some (.cells #[.int .u8 97, .int .u8 97] 56 (0, 0)) := by rw [hW3]; exact heap_alloc_new w2 _
 have hz2 := H2.out.2.size
 have hT4 := take_any rb _ ⟨#[98, 93, 123, 50, 125]⟩ ⟨#[45]⟩ false true d W3 (H2.out.1.later hb3) rfl rfl
 have HT4 := Lib.hid hT4
 have H3 := Lib.hid (And.intro hX3 (H2.out.2.tr (kfr_below hb3)))
 have hz3 := hb3.size
 have lX3 : w2.heap.size < W3.heap.size := (Array.getElem?_eq_some_iff.1 hX3).1
 clear hW3 hb3 hX3 hT4
 refine HT4.out.mono ?_
 rintro e w4 ⟨rfl, hr4, hk4⟩
 have hT5 := one_at rb _ ⟨#[93, 123, 50, 125]⟩ 98 false d w4 hr4 rfl rfl (by decide) rfl (fun _ => by kernel_rfl) rfl
 have HT5 := Lib.hid hT5
 have H4 := Lib.hid hk4
 clear hr4 hk4 hT5
 go_wp2_with fail
 refine HT5.out.mono ?_
 rintro e w5 ⟨rfl, hr5, hk5⟩
 have hne : ∀ k, w.heap.size ≤ k → k ∉ [rb] := fun k hk hm => by rw [List.mem_singleton] at hm; omega
 have hkk := H4.out.tr hk5
 have hX5 := (hkk.blk w2.heap.size lX3 (hne _ (by omega))).trans H3.out.1
 have hk05 := H3.out.2.tr hkk
 have hN5 := (hk05.blk (w.heap.size + 1) (by omega) (hne _ (by omega))).trans H0.out.2.1
 have hY5 := (hk05.blk w.heap.size (by omega) (hne _ (Nat.le_refl _))).trans H0.out.2.2
 obtain ⟨x0, x1⟩ : w5.cell? ⟨w2.heap.size, 0, none⟩ = some (.int .u8 97) ∧ w5.cell? ⟨w2.heap.size, 1, none⟩ = some (.int .u8 97) := by constructor <;> (rw [cell_of_row _ _ _ _ _ _ hX5]; rfl)
 have fx1 : w5.frozen? ⟨w2.heap.size, 1, none⟩ = false := by simp [World.frozen?, hX5]
 obtain ⟨n0, n1, n2, n3, n4⟩ := cells5 hN5
 have fn1 : w5.frozen? ⟨w.heap.size + 1, 1, none⟩ = false := by simp [World.frozen?, hN5]
 have hz5 := hkk.size
 have l2 : w2.heap.size < w5.heap.size := by omega
 have ln : w.heap.size + 1 < w5.heap.size := by omega
 have ne1 : ¬ w.heap.size + 1 = w2.heap.size := by omega
 have ne2 : ¬ w2.heap.size = w.heap.size + 1 := by omega
 have H5 := Lib.hid (And.intro hr5 (And.intro hk05 (And.intro hN5 hY5)))
 have hown0 : ((w5.setCell ⟨w2.heap.size, 1, none⟩ (.int .u8 98)).alloc (.cells #[.int .u8 97, .int .u8 98] 56)).ownsRow w.heap.size 56 2 (.slice none 0 0) 0 [] := World.ownsRow_nil _ _ _ _
 have hcx : ∀ j u, ([.int .u8 97, .int .u8 98] : List Value)[j]? = some u → ((w5.setCell ⟨w2.heap.size, 1, none⟩ (.int .u8 98)).alloc (.cells #[.int .u8 97, .int .u8 98] 56)).cell? ((⟨w5.heap.size, 0, none⟩ : Addr).add j) = some u := fun j u hj => by
  have hrow : ((w5.setCell ⟨w2.heap.size, 1, none⟩ (.int .u8 98)).alloc (.cells #[.int .u8 97, .int .u8 98] 56)).heap[w5.heap.size]? = some (.cells #[.int .u8 97, .int .u8 98] 56 (0, 0)) := by simpa [World.setCell] using heap_alloc_new (w5.setCell ⟨w2.heap.size, 1, none⟩ (.int .u8 98)) (.cells #[.int .u8 97, .int .u8 98] 56)
  match j, hj with
  | 0, hj => simp at hj; rw [← hj, Addr.add_lit, cell_of_row _ _ _ _ _ _ hrow]; rfl
  | 1, hj => simp at hj; rw [← hj, Addr.add_lit, cell_of_row _ _ _ _ _ _ hrow]; rfl
 clear hr5 hk5 hkk hk05 hX5 hN5 hY5
 go_wp2_with (at_builtin; refine appI_at rfl _ _ 26 rfl w.heap.size 56 i3 _ 2 2 Tryz.underlying26 hi3 hk0 hk1 hk2 rfl (by decide) _ 0 [] rfl hown0 ⟨w5.heap.size, 0, none⟩ 1 1 [.int .u8 97, .int .u8 98] rfl rfl hcx (by intro u hu; simp at hu; rcases hu with rfl | rfl <;> rfl) (by decide) (by decide) (by simp [World.setCell]; omega) ?_)
 intro v' w6 hown6 hg6 hf6
 obtain ⟨A6, c6, rfl, -, -⟩ := own_form hown6
 have hzA : ((w5.setCell ⟨w2.heap.size, 1, none⟩ (.int .u8 98)).alloc (.cells #[.int .u8 97, .int .u8 98] 56)).heap.size = w5.heap.size + 1 := by simp [World.setCell]
 have hz6 := hg6.size
 rw [hzA] at hz6
 have hf6' : ∀ g, (Value.slice A6 1 c6).ownBlock = some g → w5.heap.size + 1 ≤ g := fun g hg => by
  rcases hf6 with h | ⟨g', h, h2⟩
  ·rw [h] at hg; cases hg
  ·rw [h] at hg; injection hg with hg; first | omega | (simp [World.setCell] at h2; omega)
 have h56 : ∀ k, k < w5.heap.size → k ≠ w2.heap.size → w6.heap[k]? = w5.heap[k]? := fun k hk hn => (hg6.block k (by rw [hzA]; omega) (by simp [Value.ownBlock])).trans ((old_alloc _ _ _ (by simp [World.setCell]; exact hk)).trans (Below.heap_setCell w5 ⟨w2.heap.size, 1, none⟩ (.int .u8 98) k hn))
 have hzz0 := H5.out.2.1.size
 have hwr2 : W0.heap.size ≤ w2.heap.size := H2.out.2.size
 have hk06 : KfR rb W0 w6 := ⟨hg6.os.trans H5.out.2.1.os, hg6.tape.trans H5.out.2.1.tape, hg6.output.trans H5.out.2.1.output, by omega, fun k hk hn => (h56 k (by omega) (by omega)).trans (H5.out.2.1.blk k hk hn), fun k hk => .inl hk⟩
 have hr6 := H5.out.1.keep (h56 rb (by omega) (by omega))
 have hN6 := (h56 (w.heap.size + 1) ln ne1).trans H5.out.2.2.1
 have hY6 := (h56 w.heap.size (by omega) (by omega)).trans H5.out.2.2.2
 have n61 : w6.cell? ⟨w.heap.size + 1, 1, none⟩ = some (.slice none 0 0) := by rw [cell_of_row _ _ _ _ _ _ hN6]; rfl
 have fn6 : w6.frozen? ⟨w.heap.size + 1, 1, none⟩ = false := by simp [World.frozen?, hN6]
 have ln6 : w.heap.size + 1 < w6.heap.size := by omega
 obtain ⟨⟨ra0, ra1, ra2⟩, -, lrb⟩ := hr6.cells
 have nrb1 : ¬ rb = w.heap.size + 1 := by omega
 have nrb2 : ¬ w.heap.size + 1 = rb := by omega
 have H6 := Lib.hid (And.intro hown6 (And.intro hf6' (And.intro hk06 (And.intro hr6 (And.intro hN6 hY6)))))
 clear hown6 hg6 hf6 hf6' h56 hk06 hr6 hN6 hY6 hown0 hcx hzA x0 x1 fx1 n0 n1 n2 n3 n4 fn1
 go_wp2_with fail
 rw [rounds_succ]
 go_wp2_with fail
 refine calls_named fun W7 hW7 => ?_
 have hset : ∀ k, k ≠ w.heap.size + 1 → W7.heap[k]? = w6.heap[k]? := fun k hk => by rw [hW7]; exact Below.heap_setCell _ _ _ _ hk
 have hz7 : W7.heap.size = w6.heap.size := by rw [hW7]; simp [World.setCell]
 have hN7 : W7.heap[w.heap.size + 1]? = some (.cells #[.int .i64 1, .slice A6 1 c6, .slice none 0 0, .int .i64 0, .int .i64 0] 29 (0, 0)) := by
  rw [hW7]
  have := set_row3 H6.out.2.2.2.2.1 1 (.slice A6 1 c6)
  simpa using this
 have hY7 := (hset w.heap.size (by omega)).trans H6.out.2.2.2.2.2
 have hr7 := H6.out.2.2.2.1.keep (hset rb (by omega))
 have ho7 : W7.ownsRow w.heap.size 56 2 (.slice A6 1 c6) 1 [.int .u8 97, .int .u8 98] := own_same H6.out.1 fun g hg => hset g (by have := H6.out.2.1 g hg; omega)
 have hk7 : KeepF [rb, w.heap.size + 1] [] W0 W7 := by
  have h1 := H6.out.2.2.1
  exact ⟨by rw [hW7]; exact h1.os, by rw [hW7]; exact h1.tape, by rw [hW7]; exact h1.output, by rw [hz7]; exact h1.size, fun k hk hn => (hset k (fun e => hn (by simp [e]))).trans (h1.blk k hk (fun h => hn (by simp at h ⊢; exact .inl h))), fun k hk => by cases hk⟩
 have hT8 := take_any rb _ ⟨#[123, 50, 125]⟩ ⟨#[93]⟩ false true d W7 hr7 rfl rfl
 have HT8 := Lib.hid hT8
 have H7 := Lib.hid (And.intro hN7 (And.intro hY7 (And.intro ho7 hk7)))
 clear hW7 hset hN7 hY7 hr7 ho7 hk7 hT8 n61 fn6
 refine HT8.out.mono ?_
 rintro e w8 ⟨rfl, hr8, hk8⟩
 have hN8 := (hk8.blk (w.heap.size + 1) (by omega) (hne _ (by omega))).trans H7.out.1
 have hY8 := (hk8.blk w.heap.size (by omega) (hne _ (Nat.le_refl _))).trans H7.out.2.1
 obtain ⟨n0, n1, n2, n3, n4⟩ := cells5 hN8
 obtain ⟨y0, y1, y2, y3, y4⟩ := cells5 hY8
 have fy0 : w8.frozen? ⟨w.heap.size, 0, none⟩ = false := by simp [World.frozen?, hY8]
 have fy1 : w8.frozen? ⟨w.heap.size, 1, none⟩ = false := by simp [World.frozen?, hY8]
 have fy2 : w8.frozen? ⟨w.heap.size, 2, none⟩ = false := by simp [World.frozen?, hY8]
 have fy3 : w8.frozen? ⟨w.heap.size, 3, none⟩ = false := by simp [World.frozen?, hY8]
 have fy4 : w8.frozen? ⟨w.heap.size, 4, none⟩ = false := by simp [World.frozen?, hY8]
 have hz8 := hk8.size
 have l8 : w.heap.size + 1 < w8.heap.size := by omega
 have l80 : w.heap.size < w8.heap.size := by omega
 have H8 := Lib.hid (And.intro hr8 hk8)
 clear hr8 hk8 hN8 hY8
 go_wp2_with fail
 refine post_named fun Wf hWf => ?_
 refine bodyPost_ret (v := .agg #[.int .i64 1, .slice A6 1 c6, .slice none 0 0, .int .i64 0, .int .i64 0]) (by rw [hWf]; simp [results, Tryz.results154, go_sem, y0, y1, y2, y3, y4, l80]; try rfl) rfl ?_
 have hsetf : ∀ k, k ≠ w.heap.size → Wf.heap[k]? = w8.heap[k]? := fun k hk => by
  rw [hWf]
  simp only [Below.heap_setCell _ _ _ _ (show k ≠ (⟨w.heap.size, 0, none⟩ : Addr).block from hk), Below.heap_setCell _ _ _ _ (show k ≠ (⟨w.heap.size, 1, none⟩ : Addr).block from hk), Below.heap_setCell _ _ _ _ (show k ≠ (⟨w.heap.size, 2, none⟩ : Addr).block from hk), Below.heap_setCell _ _ _ _ (show k ≠ (⟨w.heap.size, 3, none⟩ : Addr).block from hk), Below.heap_setCell _ _ _ _ (show k ≠ (⟨w.heap.size, 4, none⟩ : Addr).block from hk)]
 have hzf : Wf.heap.size = w8.heap.size := by rw [hWf]; simp [World.setCell]
 have hge : ∀ g, (Value.slice A6 1 c6).ownBlock = some g → w5.heap.size + 1 ≤ g := H6.out.2.1
 refine ⟨_, rfl, ?_, H8.out.1.keep (hsetf rb (by omega)), ?_⟩
 ·have h1 := own_same H7.out.2.2.1 fun g hg => H8.out.2.blk g (H7.out.2.2.1.lt g hg).2 (hne _ (by have := hge g hg; omega))
  exact own_same h1 fun g hg => hsetf g (by have := hge g hg; omega)
 ·have hk9 := H7.out.2.2.2
  have h1 := H8.out.2
  have hos : Wf.os = w8.os ∧ Wf.tape = w8.tape ∧ Wf.output = w8.output := by rw [hWf]; exact ⟨rfl, rfl, rfl⟩
  have hb := H0.out.1
  exact ⟨hos.1.trans (h1.os.trans (hk9.os.trans hb.os)), hos.2.1.trans (h1.tape.trans (hk9.tape.trans hb.tape)), hos.2.2.trans (h1.output.trans (hk9.output.trans hb.output)), by omega, fun k hk hn => by
   rw [hsetf k (by omega), h1.blk k (by omega) hn, hk9.blk k (by omega) (fun hm => by simp at hm; rcases hm with hm | hm; exact hn (by simp [hm]); omega), hb.block k hk], fun k hk => .inl hk⟩
theorem own_type' {w : World} {B k n : Nat} {e : TypeId} {v : Value} {xs : List Value} (h : w.ownsRow B e k v n xs) : ∀ g, v.ownBlock = some g → ∃ cs m, w.heap[g]? = some (.cells cs e m) := fun g hg => by
 rcases h.2 with ⟨h1, -⟩ | ⟨g', cap, cur, h1, -, hg', -⟩
 ·subst h1; simp [Value.ownBlock] at hg
 ·subst h1; simp [Value.ownBlock] at hg; subst hg; exact ⟨_, _, hg'⟩
def ItP (B : Nat) (x : Value) (w' : World) : Prop := ∃ g v, x = .agg #[.int .i64 4, .slice none 0 0, .slice (some ⟨g, 0, none⟩) 1 1, .int .i64 2, .int .i64 2] ∧ B ≤ g ∧ w'.heap[g]? = some (.cells #[.int .i64 1, v, .slice none 0 0, .int .i64 0, .int .i64 0] 29 (0, 0)) ∧ OR 56 2 rgC B v [(97, 98)] w'
theorem ItP.keep {B : Nat} {x : Value} {w w' : World} {L L' : List Nat} (h : ItP B x w) (hk : KeepF L L' w w') (hL : ∀ k ∈ L, k < B) : ItP B x w' := by
 obtain ⟨g, v, h1, h2, h3, h4⟩ := h
 exact ⟨g, v, h1, h2, (hk.blk g (Array.getElem?_eq_some_iff.1 h3).1 fun hm => by have := hL g hm; omega).trans h3, OR.keep h4 fun q hq => hk.blk q (World.ownsRow.lt h4 q hq).2 fun hm => by have := hL q hm; have := (World.ownsRow.lt h4 q hq).1; omega⟩
theorem ItP.mono {B B' : Nat} {x : Value} {w : World} (h : ItP B x w) (hB : B' ≤ B) : ItP B' x w := by
 obtain ⟨g, v, h1, h2, h3, h4⟩ := h
 exact ⟨g, v, h1, Nat.le_trans hB h2, h3, OR.mono h4 hB⟩
def StI10 (rb : Nat) (d : Int) (W : World) (c : Nat) (w' : World) : Prop := KfR rb W w' ∧ (c = 0 → RdW rb ⟨#[50, 125]⟩ false d w')
def factI10 (rb : Nat) (d : Int) (v1 : Value) (W : World) : Nat → Nat → Value → World → Prop
 | c, 0, x, w => x = .agg #[.int .i64 1, v1, .slice none 0 0, .int .i64 0, .int .i64 0]
 | c, 1, x, w => ∃ g, x = .slice (some ⟨g, 0, none⟩) 1 1 ∧ W.heap.size ≤ g ∧ g < w.heap.size ∧ w.heap[g]? = some (.cells #[.int .i64 1, v1, .slice none 0 0, .int .i64 0, .int .i64 0] 29 (0, 0))
 | c, 2, x, w => x = .pointer (some ⟨rb, 0, none⟩)
 | c, 3, x, w => c = 1 → x = .int .i64 2 ∧ RdW rb ⟨#[125]⟩ false d w
 | _, _, _, _ => True
set_option maxHeartbeats 4000000 in
theorem set5 {w Wf : World} {b : Nat} {a0 a1 a2 a3 a4 : Value} (h : Wf = ((((w.setCell ⟨b, 0, none⟩ a0).setCell ⟨b, 1, none⟩ a1).setCell ⟨b, 2, none⟩ a2).setCell ⟨b, 3, none⟩ a3).setCell ⟨b, 4, none⟩ a4) : (∀ k, k ≠ b → Wf.heap[k]? = w.heap[k]?) ∧ Wf.heap.size = w.heap.size ∧ (Wf.os = w.os ∧ Wf.tape = w.tape ∧ Wf.output = w.output) ∧
  ∀ {o0 o1 o2 o3 o4 : Value} {T : TypeId}, w.heap[b]? = some (.cells #[o0, o1, o2, o3, o4] T (0, 0)) → Wf.heap[b]? = some (.cells #[a0, a1, a2, a3, a4] T (0, 0)) := by
 subst h
 refine ⟨fun k hk => ?_, by simp [World.setCell], ⟨rfl, rfl, rfl⟩, fun {o0 o1 o2 o3 o4 T} hb => ?_⟩
 ·exact (Below.heap_setCell _ ⟨b, 4, none⟩ _ k hk).trans ((Below.heap_setCell _ ⟨b, 3, none⟩ _ k hk).trans ((Below.heap_setCell _ ⟨b, 2, none⟩ _ k hk).trans ((Below.heap_setCell _ ⟨b, 1, none⟩ _ k hk).trans (Below.heap_setCell _ ⟨b, 0, none⟩ _ k hk))))
 ·have := set_row3 (set_row3 (set_row3 (set_row3 (set_row3 hb 0 a0) 1 a1) 2 a2) 3 a3) 4 a4
  simpa using this
set_option maxHeartbeats 4000000 in
theorem item_ab (rb : Nat) (d : Int) (w : World) (h : RdW rb ⟨#[91, 97, 45, 98, 93, 123, 50, 125]⟩ false d w) :
  Calls Tryz.prog 142 #[.pointer (some ⟨rb, 0, none⟩)] w fun e w' => ∃ x, e = .returned x ∧ ItP w.heap.size x w' ∧ RdW rb ⟨#[]⟩ false d w' ∧ KfR rb w w' := by
 obtain ⟨-, -, hl⟩ := h.cells
 have HR := Lib.hid h
 clear h
 have hne : ∀ k, w.heap.size ≤ k → k ∉ [rb] := fun k hk hm => by rw [List.mem_singleton] at hm; omega
 go_enter Tryz.func142, Tryz.ntmps142
 go_wp2_with fail
 refine calls_named fun W0 hW0 => ?_
 have hb0 : Below w.heap.size w W0 := by rw [hW0]; exact ((Below.refl _ _).alloc (Nat.le_refl _) _).alloc (by simp) _
 have hX : W0.heap[w.heap.size + 1]? = some (.cells #[.int .i64 0, .slice none 0 0, .slice none 0 0, .int .i64 0, .int .i64 0] 29 (0, 0)) := by rw [hW0]; simpa using heap_alloc_new (w.alloc _) (.cells #[.int .i64 0, .slice none 0 0, .slice none 0 0, .int .i64 0, .int .i64 0] 29)
 have hY : W0.heap[w.heap.size]? = some (.cells #[.int .i64 0, .slice none 0 0, .slice none 0 0, .int .i64 0, .int .i64 0] 29 (0, 0)) := by rw [hW0, old_alloc _ _ _ (by simp)]; exact heap_alloc_new w _
 have hz0 : W0.heap.size = w.heap.size + 2 := by rw [hW0]; simp
 have hT1 := take_any rb _ ⟨#[91, 97, 45, 98, 93, 123, 50, 125]⟩ ⟨#[40]⟩ false false d W0 (HR.out.later hb0) rfl rfl
 have HT1 := Lib.hid hT1
 have H0 := Lib.hid (And.intro hb0 (And.intro hX hY))
 clear hW0 hb0 hX hY hT1
 refine HT1.out.mono ?_
 rintro e w1 ⟨rfl, hr1, hk1⟩
 have HT2 := Lib.hid (take_any rb _ ⟨#[97, 45, 98, 93, 123, 50, 125]⟩ ⟨#[91]⟩ false true d w1 hr1 rfl rfl)
 have H1 := Lib.hid hk1
 clear hr1 hk1
 go_wp2_with fail
 refine HT2.out.mono ?_
 rintro e w2 ⟨rfl, hr2, hk2⟩
 have HT3 := Lib.hid (set_ab rb d w2 hr2)
 have hk02 := H1.out.tr hk2
 have H2 := Lib.hid hk02
 have hz2 := hk02.size
 clear hr2 hk2 hk02
 go_wp2_with fail
 refine HT3.out.mono ?_
 rintro e w3 ⟨v1, rfl, ho3, hr3, hk3⟩
 obtain ⟨A1, c1, rfl, -, -⟩ := own_form (show w3.ownsRow _ _ _ _ _ _ from ho3)
 obtain ⟨n1, hn1⟩ : ∃ n, [((97 : Nat), (98 : Nat))].length = n := ⟨_, rfl⟩
 rw [hn1] at ho3 ⊢
 have hk03 := H2.out.tr hk3
 have hX3 := (hk03.blk (w.heap.size + 1) (by omega) (hne _ (by omega))).trans H0.out.2.1
 have hY3 := (hk03.blk w.heap.size (by omega) (hne _ (Nat.le_refl _))).trans H0.out.2.2
 obtain ⟨x0, x1, x2, x3, x4⟩ := cells5 hX3
 have fx : ∀ j, j < 5 → w3.frozen? ⟨w.heap.size + 1, j, none⟩ = false := fun j _ => by simp [World.frozen?, hX3]
 have fx0 := fx 0 (by decide)
 have fx1 := fx 1 (by decide)
 have fx2 := fx 2 (by decide)
 have fx3 := fx 3 (by decide)
 have fx4 := fx 4 (by decide)
 have hz3 := hk03.size
 have lX3 : w.heap.size + 1 < w3.heap.size := by omega
 have H3 := Lib.hid (And.intro ho3 (And.intro hr3 (And.intro hk03 (And.intro hX3 hY3))))
 clear ho3 hr3 hk3 hk03 hX3 hY3 fx hn1
 go_wp2_with fail
 refine calls_named fun W4 hW4 => ?_
 obtain ⟨s1, s2, s3, s4⟩ := set5 hW4
 have hX4 := s4 H3.out.2.2.2.1
 have hY4 := (s1 w.heap.size (by omega)).trans H3.out.2.2.2.2
 have hr4 := H3.out.2.1.keep (s1 rb (by omega))
 have ho4 : W4.ownsRow w2.heap.size 56 2 (.slice A1 n1 c1) _ _ := own_same H3.out.1 fun g hg => s1 g (by have := (World.ownsRow.lt H3.out.1 g hg).1; omega)
 have HT5 := Lib.hid (take_any rb _ ⟨#[50, 125]⟩ ⟨#[123]⟩ false true d W4 hr4 rfl rfl)
 have H4 := Lib.hid (And.intro hX4 (And.intro hY4 (And.intro (show OR 56 2 rgC w2.heap.size (.slice A1 n1 c1) [(97, 98)] W4 from ho4) (And.intro s1 (And.intro s2 s3)))))
 clear hW4 s1 s3 s4 hX4 hY4 hr4 ho4 x0 x1 x2 x3 x4 fx0 fx1 fx2 fx3 fx4
 refine HT5.out.mono ?_
 rintro e W ⟨rfl, hrW, hkW⟩
 have hXW := (hkW.blk (w.heap.size + 1) (by omega) (hne _ (by omega))).trans H4.out.1
 obtain ⟨m0, m1, m2, m3, m4⟩ := cells5 hXW
 have hzW := hkW.size
 have lX : w.heap.size + 1 < W.heap.size := by omega
 have nX := hne (w.heap.size + 1) (by omega)
 have hS0 : StI10 rb d W 0 W.drew := ⟨⟨rfl, rfl, rfl, Nat.le_refl _, fun _ _ _ => rfl, fun _ h => .inl h⟩, fun _ => hrW⟩
 have H5 := Lib.hid (And.intro hkW hXW)
 clear hrW hkW hXW
 go_wp2_with fail
 refine wp_region_chain 4 [3] (factI10 rb d (.slice A1 n1 c1) W) (fun c w' => StI10 rb d W c w') (by kernel_rfl) (by kernel_rfl) (by kernel_rfl) (by kernel_rfl) (by kernel_rfl) (by kernel_rfl) (by decide) hS0 ?_ ?_
 ·simp only [pq4, pq5]
  refine HSteps.pure (by decide) ?_ (HSteps.free (by decide) ?_ (HSteps.pure (by decide) ?_ (HSteps.eff 0 rfl ?_ (HSteps.nil))))
  ·intro v wz c hlo hS hE K hK
   simp only [putAll, Act.put, pq1, pq2, pq3, Nat.zero_add, Nat.reduceAdd, pq4, pq5] at hK ⊢
   have y0 := (World.cell?_of_block (a := ⟨w.heap.size + 1, 0, none⟩) (hS.1.blk _ lX nX)).trans m0
   have y1 := (World.cell?_of_block (a := ⟨w.heap.size + 1, 1, none⟩) (hS.1.blk _ lX nX)).trans m1
   have y2 := (World.cell?_of_block (a := ⟨w.heap.size + 1, 2, none⟩) (hS.1.blk _ lX nX)).trans m2
   have y3 := (World.cell?_of_block (a := ⟨w.heap.size + 1, 3, none⟩) (hS.1.blk _ lX nX)).trans m3
   have y4 := (World.cell?_of_block (a := ⟨w.heap.size + 1, 4, none⟩) (hS.1.blk _ lX nX)).trans m4
   have l1 : w.heap.size + 1 < wz.heap.size := by have := hS.1.size; omega
   have HX := Lib.hid hS
   clear hS hE hlo
   go_wp2_with fail
   exact hK.out _ rfl
  ·intro v wz c hlo hS hE K hK
   simp only [putAll, Act.put, pq1, pq2, pq3, Nat.zero_add, Nat.reduceAdd, pq4, pq5] at hK ⊢
   have e0 : v 0 = _ := hE.1 rfl
   rw [e0] at hK ⊢
   have hbz : Below wz.heap.size wz (wz.alloc (.cells #[.int .i64 1, .slice A1 n1 c1, .slice none 0 0, .int .i64 0, .int .i64 0] 29)) := (Below.refl _ _).alloc (Nat.le_refl _) _
   have hzW := hS.1.size
   have hk1 : KfR rb W (wz.alloc (.cells #[.int .i64 1, .slice A1 n1 c1, .slice none 0 0, .int .i64 0, .int .i64 0] 29)) := hS.1.tr (kfr_below hbz)
   have hr1 : c = 0 → RdW rb ⟨#[50, 125]⟩ false d (wz.alloc (.cells #[.int .i64 1, .slice A1 n1 c1, .slice none 0 0, .int .i64 0, .int .i64 0] 29)) := fun h => (hS.2 h).later hbz
   have HX := Lib.hid (And.intro hk1 hr1)
   have HBZ := Lib.hid hbz
   clear hS hE hlo hbz hk1 hr1
   go_wp2_with fail
   refine hK.out _ _ (fun j z hj h => ?_) HX.out ⟨wz.heap.size, rfl, hzW, by simp, by simpa using heap_alloc_new wz (.cells #[.int .i64 1, .slice A1 n1 c1, .slice none 0 0, .int .i64 0, .int .i64 0] 29)⟩
   match j with
   | 0 | 2 => exact h
   | 1 => exact absurd rfl hj
   | 3 => exact fun hc => ⟨(h hc).1, (h hc).2.later HBZ.out⟩
   | _ + 4 => exact trivial
  ·intro v wz c hlo hS hE K hK
   simp only [putAll, Act.put, pq1, pq2, pq3, Nat.zero_add, Nat.reduceAdd, pq4, pq5] at hK ⊢
   have HX := Lib.hid hS
   clear hS hE hlo
   go_wp2_with fail
   exact hK.out _ rfl
  ·intro v wz hS hE K hK
   simp only [putAll, Act.put, pq1, pq2, pq3, Nat.zero_add, Nat.reduceAdd, pq4, pq5] at hK ⊢
   have e2 : v 2 = _ := hE.1 rfl
   rw [e2] at hK ⊢
   have hcall := number_2 rb d wz (hS.2 rfl)
   have HC := Lib.hid hcall
   have HX := Lib.hid hS
   clear hS hE hcall
   go_wp2_with fail
   refine HC.out.mono ?_
   rintro e wy ⟨rfl, hr, hk⟩
   have HP := Lib.hid (And.intro hr hk)
   clear hr hk
   go_wp2_with fail
   refine hK.out _ _ (fun j z hj h => ?_) ⟨HX.out.1.tr HP.out.2, fun h => by cases h⟩ (fun _ => ⟨rfl, HP.out.1⟩)
   match j with
   | 0 | 2 => exact h
   | 1 =>
    obtain ⟨g, e, h1, h2, h3⟩ := h
    have hrW := HX.out.1.size
    exact ⟨g, e, h1, Nat.lt_of_lt_of_le h2 HP.out.2.size, (HP.out.2.blk g h2 (by rw [List.mem_singleton]; omega)).trans h3⟩
   | 3 => exact absurd rfl hj
   | _ + 4 => exact trivial
 ·intro v wz hS hF
  have e0 : v 0 = _ := hF 0 (by decide)
  have e2 : v 2 = _ := hF 2 (by decide)
  have E1 := hF 1 (by decide)
  have E3 := hF 3 (by decide)
  simp only [putAll, Act.put, pq1, pq2, pq3, Nat.zero_add, Nat.reduceAdd, pq4, pq5, List.drop_succ_cons, List.drop_zero, e0, e2]
  clear hF e0 e2
  obtain ⟨g1, e1', hg1, hg2, hg3⟩ := E1
  obtain ⟨e3', hrz⟩ := E3 rfl
  rw [e1', e3']
  have hkz := hS.1
  have hXz := (hkz.blk (w.heap.size + 1) lX nX).trans H5.out.2
  have hYW := (H5.out.1.blk w.heap.size (by omega) (hne _ (Nat.le_refl _))).trans H4.out.2.1
  have hYz := (hkz.blk w.heap.size (by omega) (hne _ (Nat.le_refl _))).trans hYW
  obtain ⟨x0, x1, x2, x3, x4⟩ := cells5 hXz
  have fx : ∀ j, j < 5 → wz.frozen? ⟨w.heap.size + 1, j, none⟩ = false := fun j _ => by simp [World.frozen?, hXz]
  have fx0 := fx 0 (by decide)
  have fx1 := fx 1 (by decide)
  have fx2 := fx 2 (by decide)
  have fx3 := fx 3 (by decide)
  have fx4 := fx 4 (by decide)
  have hzz := hkz.size
  have lXz : w.heap.size + 1 < wz.heap.size := by omega
  have ho5 : OR 56 2 rgC (w.heap.size + 1) (.slice A1 n1 c1) [(97, 98)] wz := by
   have hoW := H4.out.2.2.1
   have h1 := OR.keep hoW (w1 := W) fun q hq => H5.out.1.blk q (World.ownsRow.lt hoW q hq).2 (hne _ (by have := (World.ownsRow.lt hoW q hq).1; omega))
   have h2 := OR.keep h1 (w1 := wz) fun q hq => hkz.blk q (World.ownsRow.lt h1 q hq).2 (hne _ (by have := (World.ownsRow.lt h1 q hq).1; omega))
   exact OR.mono h2 (by omega)
  have H6 := Lib.hid (And.intro hkz (And.intro hXz (And.intro hYz (And.intro ho5 (And.intro hrz hg3)))))
  clear hS hkz hXz hYW hYz fx ho5 hrz hg3 e1' e3' E3 m0 m1 m2 m3 m4
  go_wp2_with fail
  refine calls_named fun W8 hW8 => ?_
  obtain ⟨W7, hW7⟩ : ∃ W7, W7 = ((((wz.setCell ⟨w.heap.size + 1, 0, none⟩ (.int .i64 4)).setCell ⟨w.heap.size + 1, 1, none⟩ (.slice none 0 0)).setCell ⟨w.heap.size + 1, 2, none⟩ (.slice (some ⟨g1, 0, none⟩) 1 1)).setCell ⟨w.heap.size + 1, 3, none⟩ (.int .i64 2)).setCell ⟨w.heap.size + 1, 4, none⟩ (.int .i64 0) := ⟨_, rfl⟩
  rw [← hW7] at hW8
  obtain ⟨s1, s7, s3, s4⟩ := set5 hW7
  have hX7 := s4 H6.out.2.1
  have hX8 : W8.heap[w.heap.size + 1]? = some (.cells #[.int .i64 4, .slice none 0 0, .slice (some ⟨g1, 0, none⟩) 1 1, .int .i64 2, .int .i64 2] 29 (0, 0)) := by
   rw [hW8]
   have := set_row3 hX7 4 (.int .i64 2)
   simpa using this
  have t1 : ∀ k, k ≠ w.heap.size + 1 → W8.heap[k]? = wz.heap[k]? := fun k hk => by rw [hW8]; exact (Below.heap_setCell _ ⟨w.heap.size + 1, 4, none⟩ _ k hk).trans (s1 k hk)
  have t2 : W8.heap.size = wz.heap.size := by rw [hW8]; simp [World.setCell]; exact s7
  have t3 : W8.os = wz.os ∧ W8.tape = wz.tape ∧ W8.output = wz.output := by rw [hW8]; exact s3
  have hr8 := H6.out.2.2.2.2.1.keep (t1 rb (by omega))
  have hY8 := (t1 w.heap.size (by omega)).trans H6.out.2.2.1
  have ho8 := OR.keep H6.out.2.2.2.1 (w1 := W8) fun q hq => t1 q (by
   intro e
   obtain ⟨cs, md, h1⟩ := own_type' (show wz.ownsRow _ _ _ _ _ _ from H6.out.2.2.2.1) q hq
   rw [e, H6.out.2.1] at h1
   injection h1 with h1
   injection h1 with _ h1 _
   exact absurd h1 (by decide))
  have hg8 := (t1 g1 (by omega)).trans H6.out.2.2.2.2.2
  have HT9 := Lib.hid (take_any rb _ ⟨#[125]⟩ ⟨#[44]⟩ false false d W8 hr8 rfl rfl)
  have H8 := Lib.hid (And.intro hX8 (And.intro hY8 (And.intro ho8 (And.intro hg8 (And.intro t1 t3)))))
  clear hW7 hW8 s1 s3 s4 hX7 hX8 t1 t3 hr8 hY8 ho8 hg8 x0 x1 x2 x3 x4 fx0 fx1 fx2 fx3 fx4
  refine HT9.out.mono ?_
  rintro e w9 ⟨rfl, hr9, hk9⟩
  have HT10 := Lib.hid (need_yes rb _ ⟨#[]⟩ ⟨#[125]⟩ false d w9 hr9 rfl rfl)
  have H9 := Lib.hid hk9
  clear hr9 hk9
  go_wp2_with fail
  refine HT10.out.mono ?_
  rintro e w10 ⟨rfl, hr10, hk10⟩
  have hk8 := H9.out.tr hk10
  have hz8 := hk8.size
  have hX10 := (hk8.blk (w.heap.size + 1) (by omega) (hne _ (by omega))).trans H8.out.1
  have hY10 := (hk8.blk w.heap.size (by omega) (hne _ (Nat.le_refl _))).trans H8.out.2.1
  obtain ⟨x0, x1, x2, x3, x4⟩ := cells5 hX10
  obtain ⟨y0, y1, y2, y3, y4⟩ := cells5 hY10
  have fy : ∀ j, j < 5 → w10.frozen? ⟨w.heap.size, j, none⟩ = false := fun j _ => by simp [World.frozen?, hY10]
  have fy0 := fy 0 (by decide)
  have fy1 := fy 1 (by decide)
  have fy2 := fy 2 (by decide)
  have fy3 := fy 3 (by decide)
  have fy4 := fy 4 (by decide)
  have l10 : w.heap.size + 1 < w10.heap.size := by omega
  have l100 : w.heap.size < w10.heap.size := by omega
  have H10 := Lib.hid (And.intro hr10 hk8)
  clear hr10 hk10 hk8 hX10 hY10 fy
  go_wp2_with fail
  refine post_named fun Wf hWf => ?_
  obtain ⟨u1, u2, u3, -⟩ := set5 hWf
  refine bodyPost_ret (v := .agg #[.int .i64 4, .slice none 0 0, .slice (some ⟨g1, 0, none⟩) 1 1, .int .i64 2, .int .i64 2]) (by rw [hWf]; simp [results, Tryz.results142, go_sem, y0, y1, y2, y3, y4, l100]; try rfl) rfl ?_
  have hkf : KeepF [rb, w.heap.size] [] w10 Wf := ⟨u3.1, u3.2.1, u3.2.2, by omega, fun k _ hn => u1 k (fun e => hn (by simp [e])), fun k hk => by cases hk⟩
  have hit8 : ItP (w.heap.size + 1) (.agg #[.int .i64 4, .slice none 0 0, .slice (some ⟨g1, 0, none⟩) 1 1, .int .i64 2, .int .i64 2]) W8 := ⟨g1, .slice A1 n1 c1, rfl, by omega, H8.out.2.2.2.1, H8.out.2.2.1⟩
  have hitf := (hit8.keep H10.out.2 (fun k hk => by rw [List.mem_singleton] at hk; omega)).keep hkf (fun k hk => by simp at hk; omega)
  have hs1 := H4.out.2.2.2.1
  have hs2 := H4.out.2.2.2.2.2
  have ht1 := H8.out.2.2.2.2.1
  have ht3 := H8.out.2.2.2.2.2
  have k1 := H3.out.2.2.1
  have k2 := H5.out.1
  have k3 := H6.out.1
  have k4 := H10.out.2
  have kb := H0.out.1
  refine ⟨_, rfl, hitf.mono (by omega), H10.out.1.keep (u1 rb (by omega)), ?_⟩
  refine ⟨?_, ?_, ?_, by omega, fun k hk hn => ?_, fun k hk => .inl hk⟩
  ·rw [u3.1, k4.os, ht3.1, k3.os, k2.os, hs2.1, k1.os, kb.os]
  ·rw [u3.2.1, k4.tape, ht3.2.1, k3.tape, k2.tape, hs2.2.1, k1.tape, kb.tape]
  ·rw [u3.2.2, k4.output, ht3.2.2, k3.output, k2.output, hs2.2.2, k1.output, kb.output]
  ·rw [u1 k (by omega), k4.blk k (by omega) hn, ht1 k (by omega), k3.blk k (by omega) hn, k2.blk k (by omega) hn, hs1 k (by omega), k1.blk k (by omega) hn, kb.block k hk]
def ListP (rb : Nat) (d : Int) (w : World) (e : Ending) (w' : World) : Prop := ∃ x, e = .returned x ∧ ItP w.heap.size x w' ∧ RdW rb ⟨#[]⟩ false d w' ∧ KfR rb w w'
set_option maxHeartbeats 4000000 in
theorem list_seq (rb : Nat) (d : Int) (w : World) (h : RdW rb ⟨#[91, 97, 45, 98, 93, 123, 50, 125]⟩ false d w) :
  Calls Tryz.prog 125 #[.pointer (some ⟨rb, 0, none⟩), .int .i64 2, .func (.func 142) #[.pointer (some ⟨rb, 0, none⟩)] #[], .func (.func 143) #[.pointer (some ⟨rb, 0, none⟩)] #[]] w (ListP rb d w) := by
 obtain ⟨-, -, hl⟩ := h.cells
 have HR := Lib.hid h
 clear h
 have hne : ∀ k, w.heap.size ≤ k → k ∉ [rb] := fun k hk hm => by rw [List.mem_singleton] at hm; omega
 go_enter Tryz.func125, Tryz.ntmps125
 go_wp2_with fail
 refine calls_named fun W0 hW0 => ?_
 have hb0 : Below w.heap.size w W0 := by rw [hW0]; exact (Below.refl _ _).alloc (Nat.le_refl _) _
 have hY : W0.heap[w.heap.size]? = some (.cells #[.int .i64 0, .slice none 0 0, .slice none 0 0, .int .i64 0, .int .i64 0] 29 (0, 0)) := by rw [hW0]; exact heap_alloc_new w _
 have hz0 : W0.heap.size = w.heap.size + 1 := by rw [hW0]; simp
 have HT1 := Lib.hid (item_ab rb d W0 (HR.out.later hb0))
 have H0 := Lib.hid (And.intro hb0 hY)
 clear hW0 hb0 hY
 refine HT1.out.mono ?_
 rintro e w1 ⟨x, rfl, hit, hr1, hk1⟩
 obtain ⟨g1, v1, rfl, hg1, hg2, hg3⟩ := id hit
 have hz1 := hk1.size
 have hY1 := (hk1.blk w.heap.size (by omega) (hne _ (Nat.le_refl _))).trans H0.out.2
 have hbA : Below w1.heap.size w1 (w1.alloc (.cells #[.int .i64 4, .slice none 0 0, .slice (some ⟨g1, 0, none⟩) 1 1, .int .i64 2, .int .i64 2] 29)) := (Below.refl _ _).alloc (Nat.le_refl _) _
 obtain ⟨⟨c0, c1, c2⟩, -, lr1⟩ := hr1.cells
 have H1 := Lib.hid (And.intro hit (And.intro hr1 (And.intro hk1 hY1)))
 clear hit hr1 hk1 hY1 hbA hg1 hg2 hg3
 have lr2 : rb < w1.heap.size + 1 := by omega
 go_wp2_with fail
 refine wp_loop_rounds 1 ?_
 rw [rounds_succ]
 go_wp2_with fail
 refine calls_named fun W2 hW2 => ?_
 have hb2 : Below w1.heap.size w1 W2 := by rw [hW2]; exact ((Below.refl _ _).alloc (Nat.le_refl _) _).alloc (by simp) _
 have hK2 : W2.heap[w1.heap.size]? = some (.cells #[.int .i64 4, .slice none 0 0, .slice (some ⟨g1, 0, none⟩) 1 1, .int .i64 2, .int .i64 2] 29 (0, 0)) := by rw [hW2, old_alloc _ _ _ (by simp)]; exact heap_alloc_new w1 _
 have hL2 : W2.heap[w1.heap.size + 1]? = some (.cells #[.int .i64 2, .slice none 0 0, .slice (some ⟨w1.heap.size, 0, none⟩) 1 1, .int .i64 0, .int .i64 0] 29 (0, 0)) := by
  rw [hW2]; simpa using heap_alloc_new (w1.alloc (.cells #[.int .i64 4, .slice none 0 0, .slice (some ⟨g1, 0, none⟩) 1 1, .int .i64 2, .int .i64 2] 29)) (.cells #[.int .i64 2, .slice none 0 0, .slice (some ⟨w1.heap.size, 0, none⟩) 1 1, .int .i64 0, .int .i64 0] 29)
 have hz2 : W2.heap.size = w1.heap.size + 2 := by rw [hW2]; simp
 have HT2 := Lib.hid (more_nil rb false d W2 (H1.out.2.1.later hb2))
 have H2 := Lib.hid (And.intro hb2 (And.intro hK2 hL2))
 clear hW2 hb2 hK2 hL2 c0 c1 c2
 refine HT2.out.mono ?_
 rintro e w3 ⟨rfl, hr3, hk3⟩
 have hz3 := hk3.size
 have hK3 := (hk3.blk w1.heap.size (by omega) (hne _ (by omega))).trans H2.out.2.1
 have hL3 := (hk3.blk (w1.heap.size + 1) (by omega) (hne _ (by omega))).trans H2.out.2.2
 have hY3 := (hk3.blk w.heap.size (by omega) (hne _ (Nat.le_refl _))).trans ((H2.out.1.block w.heap.size (by omega)).trans H1.out.2.2.2)
 obtain ⟨k0, k1, k2, k3, k4⟩ := cells5 hK3
 obtain ⟨l0, l1, l2, l3, l4⟩ := cells5 hL3
 obtain ⟨y0, y1, y2, y3, y4⟩ := cells5 hY3
 have fy : ∀ j, j < 5 → w3.frozen? ⟨w.heap.size, j, none⟩ = false := fun j _ => by simp [World.frozen?, hY3]
 have fy0 := fy 0 (by decide)
 have fy1 := fy 1 (by decide)
 have fy2 := fy 2 (by decide)
 have fy3 := fy 3 (by decide)
 have fy4 := fy 4 (by decide)
 have m1 : w1.heap.size + 1 < w3.heap.size := by omega
 have m2 : w1.heap.size < w3.heap.size := by omega
 have m3 : w.heap.size < w3.heap.size := by omega
 have H3 := Lib.hid (And.intro hr3 hk3)
 clear hr3 hk3 hK3 hL3 hY3 fy
 go_wp2_with fail
 refine post_named fun Wf hWf => ?_
 obtain ⟨u1, u2, u3, -⟩ := set5 hWf
 refine bodyPost_ret (v := .agg #[.int .i64 4, .slice none 0 0, .slice (some ⟨g1, 0, none⟩) 1 1, .int .i64 2, .int .i64 2]) (by rw [hWf]; simp [results, Tryz.results125, go_sem, y0, y1, y2, y3, y4, m3]; try rfl) rfl ?_
 have hkf : KeepF [w.heap.size] [] w3 Wf := ⟨u3.1, u3.2.1, u3.2.2, by omega, fun k _ hn => u1 k (fun e => hn (by simp [e])), fun k hk => by cases hk⟩
 have hit := (((H1.out.1.keep (KeepF.of_below (fp := []) H2.out.1) (fun k hk => by cases hk)).keep H3.out.2 (fun k hk => by rw [List.mem_singleton] at hk; omega)).keep hkf (fun k hk => by simp at hk; omega)).mono (show w.heap.size ≤ W0.heap.size by omega)
 have k1' := H1.out.2.2.1
 have k2' := H2.out.1
 have k3' := H3.out.2
 have kb := H0.out.1
 refine ⟨_, rfl, hit, H3.out.1.keep (u1 rb (by omega)), ?_, ?_, ?_, by omega, fun k hk hn => ?_, fun k hk => .inl hk⟩
 ·rw [u3.1, k3'.os, k2'.os, k1'.os, kb.os]
 ·rw [u3.2.1, k3'.tape, k2'.tape, k1'.tape, kb.tape]
 ·rw [u3.2.2, k3'.output, k2'.output, k1'.output, kb.output]
 ·rw [u1 k (by omega), k3'.blk k (by omega) hn, k2'.block k (by omega), k1'.blk k (by omega) hn, kb.block k hk]
set_option maxHeartbeats 4000000 in
theorem seq_ab (rb : Nat) (d : Int) (w : World) (h : RdW rb ⟨#[91, 97, 45, 98, 93, 123, 50, 125]⟩ false d w) : Calls Tryz.prog 126 #[.pointer (some ⟨rb, 0, none⟩)] w (ListP rb d w) := by
 obtain ⟨-, -, hl⟩ := h.cells
 have HR := Lib.hid h
 clear h
 have hne : ∀ k, w.heap.size ≤ k → k ∉ [rb] := fun k hk hm => by rw [List.mem_singleton] at hm; omega
 go_enter Tryz.func126, Tryz.ntmps126
 go_wp2_with fail
 refine calls_named fun W0 hW0 => ?_
 have hb0 : Below w.heap.size w W0 := by rw [hW0]; exact (Below.refl _ _).alloc (Nat.le_refl _) _
 have hY : W0.heap[w.heap.size]? = some (.cells #[.int .i64 0, .slice none 0 0, .slice none 0 0, .int .i64 0, .int .i64 0] 29 (0, 0)) := by rw [hW0]; exact heap_alloc_new w _
 have hz0 : W0.heap.size = w.heap.size + 1 := by rw [hW0]; simp
 have HT1 := Lib.hid (list_seq rb d W0 (HR.out.later hb0))
 have H0 := Lib.hid (And.intro hb0 hY)
 clear hW0 hb0 hY
 refine HT1.out.mono ?_
 rintro e w1 ⟨x, rfl, hit, hr1, hk1⟩
 obtain ⟨g1, v1, rfl, hg1, hg2, hg3⟩ := id hit
 have hz1 := hk1.size
 have hY3 := (hk1.blk w.heap.size (by omega) (hne _ (Nat.le_refl _))).trans H0.out.2
 obtain ⟨y0, y1, y2, y3, y4⟩ := cells5 hY3
 have fy : ∀ j, j < 5 → w1.frozen? ⟨w.heap.size, j, none⟩ = false := fun j _ => by simp [World.frozen?, hY3]
 have fy0 := fy 0 (by decide)
 have fy1 := fy 1 (by decide)
 have fy2 := fy 2 (by decide)
 have fy3 := fy 3 (by decide)
 have fy4 := fy 4 (by decide)
 have m3 : w.heap.size < w1.heap.size := by omega
 have H1 := Lib.hid (And.intro hit (And.intro hr1 hk1))
 clear hit hr1 hk1 hY3 fy hg1 hg2 hg3
 go_wp2_with fail
 refine post_named fun Wf hWf => ?_
 obtain ⟨u1, u2, u3, -⟩ := set5 hWf
 refine bodyPost_ret (v := .agg #[.int .i64 4, .slice none 0 0, .slice (some ⟨g1, 0, none⟩) 1 1, .int .i64 2, .int .i64 2]) (by rw [hWf]; simp [results, Tryz.results126, go_sem, y0, y1, y2, y3, y4, m3]; try rfl) rfl ?_
 have hkf : KeepF [w.heap.size] [] w1 Wf := ⟨u3.1, u3.2.1, u3.2.2, by omega, fun k _ hn => u1 k (fun e => hn (by simp [e])), fun k hk => by cases hk⟩
 have hit := (H1.out.1.keep hkf (fun k hk => by simp at hk; omega)).mono (show w.heap.size ≤ W0.heap.size by omega)
 have k1' := H1.out.2.2
 have kb := H0.out.1
 refine ⟨_, rfl, hit, H1.out.2.1.keep (u1 rb (by omega)), ?_, ?_, ?_, by omega, fun k hk hn => ?_, fun k hk => .inl hk⟩
 ·rw [u3.1, k1'.os, kb.os]
 ·rw [u3.2.1, k1'.tape, kb.tape]
 ·rw [u3.2.2, k1'.output, kb.output]
 ·rw [u1 k (by omega), k1'.blk k (by omega) hn, kb.block k hk]
set_option maxHeartbeats 4000000 in
theorem list_cho (rb : Nat) (d : Int) (w : World) (bx : Nat) (hbx : bx < w.heap.size) (hb : w.cell? ⟨bx, 0, none⟩ = some (.pointer (some ⟨rb, 0, none⟩))) (hbn : bx ≠ rb) (h : RdW rb ⟨#[91, 97, 45, 98, 93, 123, 50, 125]⟩ false d w) :
  Calls Tryz.prog 125 #[.pointer (some ⟨rb, 0, none⟩), .int .i64 3, .func (.func 126) #[.pointer (some ⟨rb, 0, none⟩)] #[], .func (.func 127) #[] #[.pointer (some ⟨bx, 0, none⟩)]] w (ListP rb d w) := by
 obtain ⟨-, -, hl⟩ := h.cells
 have HR := Lib.hid h
 have HBX := Lib.hid (And.intro hbx (And.intro hb hbn))
 clear h hb hbn hbx
 have hne : ∀ k, w.heap.size ≤ k → k ∉ [rb] := fun k hk hm => by rw [List.mem_singleton] at hm; omega
 go_enter Tryz.func125, Tryz.ntmps125
 go_wp2_with fail
 refine calls_named fun W0 hW0 => ?_
 have hb0 : Below w.heap.size w W0 := by rw [hW0]; exact (Below.refl _ _).alloc (Nat.le_refl _) _
 have hY : W0.heap[w.heap.size]? = some (.cells #[.int .i64 0, .slice none 0 0, .slice none 0 0, .int .i64 0, .int .i64 0] 29 (0, 0)) := by rw [hW0]; exact heap_alloc_new w _
 have hz0 : W0.heap.size = w.heap.size + 1 := by rw [hW0]; simp
 have HT1 := Lib.hid (seq_ab rb d W0 (HR.out.later hb0))
 have H0 := Lib.hid (And.intro hb0 hY)
 clear hW0 hb0 hY
 refine HT1.out.mono ?_
 rintro e w1 ⟨x, rfl, hit, hr1, hk1⟩
 obtain ⟨g1, v1, rfl, hg1, hg2, hg3⟩ := id hit
 have hz1 := hk1.size
 have hY1 := (hk1.blk w.heap.size (by omega) (hne _ (Nat.le_refl _))).trans H0.out.2
 have hbA : Below w1.heap.size w1 (w1.alloc (.cells #[.int .i64 4, .slice none 0 0, .slice (some ⟨g1, 0, none⟩) 1 1, .int .i64 2, .int .i64 2] 29)) := (Below.refl _ _).alloc (Nat.le_refl _) _
 obtain ⟨⟨c0, c1, c2⟩, -, lr1⟩ := hr1.cells
 have H1 := Lib.hid (And.intro hit (And.intro hr1 (And.intro hk1 hY1)))
 clear hit hr1 hk1 hY1 hbA hg1 hg2 hg3
 have lr2 : rb < w1.heap.size + 1 := by omega
 go_wp2_with fail
 refine wp_loop_rounds 1 ?_
 rw [rounds_succ]
 go_wp2_with fail
 refine calls_named fun W2 hW2 => ?_
 have hb2 : Below w1.heap.size w1 W2 := by rw [hW2]; exact ((Below.refl _ _).alloc (Nat.le_refl _) _).alloc (by simp) _
 have hK2 : W2.heap[w1.heap.size]? = some (.cells #[.int .i64 4, .slice none 0 0, .slice (some ⟨g1, 0, none⟩) 1 1, .int .i64 2, .int .i64 2] 29 (0, 0)) := by rw [hW2, old_alloc _ _ _ (by simp)]; exact heap_alloc_new w1 _
 have hL2 : W2.heap[w1.heap.size + 1]? = some (.cells #[.int .i64 3, .slice none 0 0, .slice (some ⟨w1.heap.size, 0, none⟩) 1 1, .int .i64 0, .int .i64 0] 29 (0, 0)) := by
  rw [hW2]; simpa using heap_alloc_new (w1.alloc (.cells #[.int .i64 4, .slice none 0 0, .slice (some ⟨g1, 0, none⟩) 1 1, .int .i64 2, .int .i64 2] 29)) (.cells #[.int .i64 3, .slice none 0 0, .slice (some ⟨w1.heap.size, 0, none⟩) 1 1, .int .i64 0, .int .i64 0] 29)
 have hz2 : W2.heap.size = w1.heap.size + 2 := by rw [hW2]; simp
 have HT2 := Lib.hid (choice1_any rb bx ⟨#[]⟩ false d W2 (H1.out.2.1.later hb2) ((hb2.cell (p := ⟨bx, 0, none⟩) (by have := HBX.out.1; show bx < w1.heap.size; omega)).trans ((World.cell?_of_block (a := ⟨bx, 0, none⟩) (H1.out.2.2.1.blk bx (by have := HBX.out.1; omega) (fun hm => HBX.out.2.2 (List.mem_singleton.1 hm)))).trans ((H0.out.1.cell (p := ⟨bx, 0, none⟩) HBX.out.1).trans HBX.out.2.1))) rfl rfl)
 have H2 := Lib.hid (And.intro hb2 (And.intro hK2 hL2))
 clear hW2 hb2 hK2 hL2 c0 c1 c2
 refine HT2.out.mono ?_
 rintro e w3 ⟨rfl, hr3, hk3⟩
 have hz3 := hk3.size
 have hK3 := (hk3.blk w1.heap.size (by omega) (hne _ (by omega))).trans H2.out.2.1
 have hL3 := (hk3.blk (w1.heap.size + 1) (by omega) (hne _ (by omega))).trans H2.out.2.2
 have hY3 := (hk3.blk w.heap.size (by omega) (hne _ (Nat.le_refl _))).trans ((H2.out.1.block w.heap.size (by omega)).trans H1.out.2.2.2)
 obtain ⟨k0, k1, k2, k3, k4⟩ := cells5 hK3
 obtain ⟨l0, l1, l2, l3, l4⟩ := cells5 hL3
 obtain ⟨y0, y1, y2, y3, y4⟩ := cells5 hY3
 have fy : ∀ j, j < 5 → w3.frozen? ⟨w.heap.size, j, none⟩ = false := fun j _ => by simp [World.frozen?, hY3]
 have fy0 := fy 0 (by decide)
 have fy1 := fy 1 (by decide)
 have fy2 := fy 2 (by decide)
 have fy3 := fy 3 (by decide)
 have fy4 := fy 4 (by decide)
 have m1 : w1.heap.size + 1 < w3.heap.size := by omega
 have m2 : w1.heap.size < w3.heap.size := by omega
 have m3 : w.heap.size < w3.heap.size := by omega
 have H3 := Lib.hid (And.intro hr3 hk3)
 clear hr3 hk3 hK3 hL3 hY3 fy
 go_wp2_with fail
 refine post_named fun Wf hWf => ?_
 obtain ⟨u1, u2, u3, -⟩ := set5 hWf
 refine bodyPost_ret (v := .agg #[.int .i64 4, .slice none 0 0, .slice (some ⟨g1, 0, none⟩) 1 1, .int .i64 2, .int .i64 2]) (by rw [hWf]; simp [results, Tryz.results125, go_sem, y0, y1, y2, y3, y4, m3]; try rfl) rfl ?_
 have hkf : KeepF [w.heap.size] [] w3 Wf := ⟨u3.1, u3.2.1, u3.2.2, by omega, fun k _ hn => u1 k (fun e => hn (by simp [e])), fun k hk => by cases hk⟩
 have hit := (((H1.out.1.keep (KeepF.of_below (fp := []) H2.out.1) (fun k hk => by cases hk)).keep H3.out.2 (fun k hk => by rw [List.mem_singleton] at hk; omega)).keep hkf (fun k hk => by simp at hk; omega)).mono (show w.heap.size ≤ W0.heap.size by omega)
 have k1' := H1.out.2.2.1
 have k2' := H2.out.1
 have k3' := H3.out.2
 have kb := H0.out.1
 refine ⟨_, rfl, hit, H3.out.1.keep (u1 rb (by omega)), ?_, ?_, ?_, by omega, fun k hk hn => ?_, fun k hk => .inl hk⟩
 ·rw [u3.1, k3'.os, k2'.os, k1'.os, kb.os]
 ·rw [u3.2.1, k3'.tape, k2'.tape, k1'.tape, kb.tape]
 ·rw [u3.2.2, k3'.output, k2'.output, k1'.output, kb.output]
 ·rw [u1 k (by omega), k3'.blk k (by omega) hn, k2'.block k (by omega), k1'.blk k (by omega) hn, kb.block k hk]
set_option maxHeartbeats 4000000 in
theorem choice_ab (rb : Nat) (w : World) (h : RdW rb ⟨#[91, 97, 45, 98, 93, 123, 50, 125]⟩ false 0 w) : Calls Tryz.prog 96 #[.pointer (some ⟨rb, 0, none⟩)] w (ListP rb 0 w) := by
 obtain ⟨⟨c0, c1, c2⟩, ⟨f0, f1, f2⟩, hl⟩ := h.cells
 have HR := Lib.hid h
 clear h
 have hne : ∀ k, w.heap.size ≤ k → k ∉ [rb] := fun k hk hm => by rw [List.mem_singleton] at hm; omega
 have l1 : rb < w.heap.size + 1 := by omega
 have l2 : rb < w.heap.size + 1 + 1 := by omega
 have n1 : ¬ w.heap.size = rb := by omega
 have n2 : ¬ rb = w.heap.size := by omega
 go_enter Tryz.func96, Tryz.ntmps96
 go_wp2_with fail
 refine calls_named fun W0 hW0 => ?_
 obtain ⟨Wd, hWd⟩ : ∃ W, W = w.setCell ⟨rb, 2, none⟩ (.int .i64 1) := ⟨_, rfl⟩
 rw [← hWd] at hW0
 have hzd : Wd.heap.size = w.heap.size := by rw [hWd]; simp [World.setCell]
 have hrd : RdW rb ⟨#[91, 97, 45, 98, 93, 123, 50, 125]⟩ false 1 Wd := by
  rw [hWd]
  have := set_row3 HR.out 2 (.int .i64 1)
  simpa [RdW] using this
 have hkd : KfR rb w Wd := by rw [hWd]; exact kfr_set
 have hbd : Below Wd.heap.size Wd W0 := by rw [hW0]; exact ((Below.refl _ _).alloc (Nat.le_refl _) _).alloc (by simp) _
 have hz0 : W0.heap.size = w.heap.size + 2 := by rw [hW0]; simp [hzd]
 have hX : W0.heap[w.heap.size]? = some (.cells #[.pointer (some ⟨rb, 0, none⟩)] 131 (0, 0)) := by
  rw [hW0, old_alloc _ _ _ (by simp [hzd])]
  have := heap_alloc_new Wd (.cells #[.pointer (some ⟨rb, 0, none⟩)] 131)
  rwa [hzd] at this
 have hY : W0.heap[w.heap.size + 1]? = some (.cells #[.int .i64 0, .slice none 0 0, .slice none 0 0, .int .i64 0, .int .i64 0] 29 (0, 0)) := by
  rw [hW0]
  have := heap_alloc_new (Wd.alloc (.cells #[.pointer (some ⟨rb, 0, none⟩)] 131)) (.cells #[.int .i64 0, .slice none 0 0, .slice none 0 0, .int .i64 0, .int .i64 0] 29)
  simpa [hzd] using this
 have HT1 := Lib.hid (list_cho rb 1 W0 w.heap.size (by omega) (by rw [cell_of_row _ _ _ _ _ _ hX]; rfl) (by omega) (hrd.later hbd))
 have H0 := Lib.hid (And.intro hkd (And.intro hbd (And.intro hX hY)))
 clear hW0 hWd hrd hkd hbd hX hY c0 c1 c2 f0 f1 f2
 refine HT1.out.mono ?_
 rintro e w1 ⟨x, rfl, hit, hr1, hk1⟩
 obtain ⟨g1, v1, rfl, hg1, hg2, hg3⟩ := id hit
 have hz1 := hk1.size
 have hX1 := (hk1.blk w.heap.size (by omega) (hne _ (Nat.le_refl _))).trans H0.out.2.2.1
 have hY1 := (hk1.blk (w.heap.size + 1) (by omega) (hne _ (by omega))).trans H0.out.2.2.2
 obtain ⟨⟨c0, c1, c2⟩, ⟨f0, f1, f2⟩, lr1⟩ := hr1.cells
 have x0 : w1.cell? ⟨w.heap.size, 0, none⟩ = some (.pointer (some ⟨rb, 0, none⟩)) := by rw [cell_of_row _ _ _ _ _ _ hX1]; rfl
 obtain ⟨y0, y1, y2, y3, y4⟩ := cells5 hY1
 have fy : ∀ j, j < 5 → w1.frozen? ⟨w.heap.size + 1, j, none⟩ = false := fun j _ => by simp [World.frozen?, hY1]
 have fy0 := fy 0 (by decide)
 have fy1 := fy 1 (by decide)
 have fy2 := fy 2 (by decide)
 have fy3 := fy 3 (by decide)
 have fy4 := fy 4 (by decide)
 have m1 : w.heap.size < w1.heap.size := by omega
 have m2 : w.heap.size + 1 < w1.heap.size := by omega
 have m3 : w.heap.size < w1.heap.size + 1 := by omega
 have m4 : w.heap.size + 1 < w1.heap.size + 1 := by omega
 have m5 : rb < w1.heap.size + 1 := by omega
 have n3 : ¬ w.heap.size + 1 = rb := by omega
 have n4 : ¬ rb = w.heap.size + 1 := by omega
 have n5 : ¬ w1.heap.size = rb := by omega
 have n6 : ¬ w1.heap.size = w.heap.size + 1 := by omega
 have H1 := Lib.hid (And.intro hit (And.intro hr1 hk1))
 clear hit hr1 hk1 hX1 hY1 fy hg1 hg2 hg3
 go_wp2_with fail
 refine post_named fun Wf hWf => ?_
 obtain ⟨Wr, hWr⟩ : ∃ W, W = w1.setCell ⟨rb, 2, none⟩ (.int .i64 0) := ⟨_, rfl⟩
 rw [← hWr] at hWf
 obtain ⟨W5, hW5⟩ : ∃ W, W = ((((Wr.setCell ⟨w.heap.size + 1, 0, none⟩ (.int .i64 4)).setCell ⟨w.heap.size + 1, 1, none⟩ (.slice none 0 0)).setCell ⟨w.heap.size + 1, 2, none⟩ (.slice (some ⟨g1, 0, none⟩) 1 1)).setCell ⟨w.heap.size + 1, 3, none⟩ (.int .i64 2)).setCell ⟨w.heap.size + 1, 4, none⟩ (.int .i64 2) := ⟨_, rfl⟩
 rw [← hW5] at hWf
 obtain ⟨u1, u2, u3, u4⟩ := set5 hW5
 have hzr : Wr.heap.size = w1.heap.size := by rw [hWr]; simp [World.setCell]
 have hsr : ∀ k, k ≠ rb → Wr.heap[k]? = w1.heap[k]? := fun k hk => by rw [hWr]; exact Below.heap_setCell _ _ _ _ hk
 have hb5 : Below W5.heap.size W5 Wf := by rw [hWf]; exact (Below.refl _ _).alloc (Nat.le_refl _) _
 have hrf : RdW rb ⟨#[]⟩ false 0 Wf := by
  have h1 : RdW rb ⟨#[]⟩ false 0 Wr := by
   rw [hWr]
   have := set_row3 H1.out.2.1 2 (.int .i64 0)
   simpa [RdW] using this
  exact (h1.keep (u1 rb (by omega))).later hb5
 have hY1 : w1.heap[w.heap.size + 1]? = some (.cells #[.int .i64 0, .slice none 0 0, .slice none 0 0, .int .i64 0, .int .i64 0] 29 (0, 0)) := (H1.out.2.2.blk (w.heap.size + 1) (by omega) (hne _ (by omega))).trans H0.out.2.2.2
 have hYf : Wf.heap[w.heap.size + 1]? = some (.cells #[.int .i64 4, .slice none 0 0, .slice (some ⟨g1, 0, none⟩) 1 1, .int .i64 2, .int .i64 2] 29 (0, 0)) := (hb5.block _ (by omega)).trans (u4 ((hsr (w.heap.size + 1) (by omega)).trans hY1))
 have hzf := hb5.size
 have l9 : w.heap.size + 1 < Wf.heap.size := by omega
 obtain ⟨q0, q1, q2, q3, q4⟩ := cells5 hYf
 refine bodyPost_ret (v := .agg #[.int .i64 4, .slice none 0 0, .slice (some ⟨g1, 0, none⟩) 1 1, .int .i64 2, .int .i64 2]) (by simp [results, Tryz.results96, go_sem, q0, q1, q2, q3, q4, l9]; try rfl) rfl ?_
 have hkf : KeepF [rb, w.heap.size + 1] [] w1 Wf := by
  have hos : Wr.os = w1.os ∧ Wr.tape = w1.tape ∧ Wr.output = w1.output := by rw [hWr]; exact ⟨rfl, rfl, rfl⟩
  exact ⟨hb5.os.trans (u3.1.trans hos.1), hb5.tape.trans (u3.2.1.trans hos.2.1), hb5.output.trans (u3.2.2.trans hos.2.2), by omega, fun k hk hn => (hb5.block k (by omega)).trans ((u1 k (fun e => hn (by simp [e]))).trans (hsr k (fun e => hn (by simp [e])))), fun k hk => by cases hk⟩
 have hit := (H1.out.1.keep hkf (fun k hk => by simp at hk; omega)).mono (show w.heap.size ≤ W0.heap.size by omega)
 have k1' := H1.out.2.2
 have kd := H0.out.1
 have kb := H0.out.2.1
 refine ⟨_, rfl, hit, hrf, ?_, ?_, ?_, by omega, fun k hk hn => ?_, fun k hk => .inl hk⟩
 ·rw [hkf.os, k1'.os, kb.os, kd.os]
 ·rw [hkf.tape, k1'.tape, kb.tape, kd.tape]
 ·rw [hkf.output, k1'.output, kb.output, kd.output]
 ·rw [hkf.blk k (by omega) (fun hm => by simp at hm; rcases hm with hm | hm; exact hn (by simp [hm]); omega), k1'.blk k (by omega) hn, kb.block k (by omega), kd.blk k hk hn]
theorem rch_last (m : Mc) : ∀ (bs : List Nat) (s k : Nat), (rchF m bs s k).getLast? = some (k + bs.length) ↔ acF m bs s = true
 | [], s, k => by
  rw [rchF, acF]
  cases h : (m.ac[s]?).getD false <;> simp
 | c :: w, s, k => by
  rw [rchF, acF]
  cases ht : trn (rowM m s) c with
  | none => cases h : (m.ac[s]?).getD false <;> simp
  | some t =>
   simp only
   rw [← rch_last m w t (k + 1)]
   have e : k + (c :: w).length = k + 1 + w.length := by simp; omega
   rw [e, List.getLast?_append]
   cases hl : (rchF m w t (k + 1)).getLast? with
   | some x => simp
   | none =>
    simp only [Option.none_or]
    constructor
    ·intro h
     split at h
     ·simp at h; omega
     ·simp at h
    ·intro h; cases h
theorem rch_len (m : Mc) : ∀ (bs : List Nat) (s k : Nat), (rchF m bs s k).length ≤ bs.length + 1
 | [], s, k => by rw [rchF]; split <;> simp
 | c :: w, s, k => by
  rw [rchF, List.length_append]
  have h1 : (if (m.ac[s]?).getD false = true then [k] else []).length ≤ 1 := by split <;> simp
  cases ht : trn (rowM m s) c with
  | none => simp at h1 ⊢; omega
  | some t => have := rch_len m w t (k + 1); simp at h1 this ⊢; omega
theorem ends_any (v vb : Value) (m : Mc) (bs : List Nat) (i : Nat) (w : World) (hm : McIn w v m) (hv : Vld m) (hsm : McSm m) (h1 : 1 ≤ m.ed.length) (h2 : m.ed.length ≤ 2000) (hb : ByIn w vb bs) (hbl : bs.length ≤ 900000) (hby : ∀ b ∈ bs, b < 256) (hi : i ≤ bs.length) :
  Calls Tryz.prog 30 #[v, vb, .int .i64 (i : Int)] w (RhPost (rchF m (bs.drop i) 0 i) w) := by
 obtain ⟨ve, va, rfl, he, ha⟩ := id hm
 obtain ⟨Ae, ce, rfl, hce1, hce2⟩ := he.form
 obtain ⟨Aa, ca, rfl, hca1, hca2⟩ := ha.form
 obtain ⟨Ab, cb, rfl, hcb, hbc⟩ := id hb
 have HV := Lib.hid fun W (h : Below w.heap.size w W) => mvalid_any _ m W (hm.later h) hv hsm h1 h2
 have HRh := Lib.hid fun W (h : Below w.heap.size w W) => reach_any _ _ m bs i W (hm.later h) hv hsm h1 (hb.later h) hbl hby hi
 have hb0 : Below w.heap.size w (w.alloc (.cells #[.slice Ae m.ed.length ce, .slice Aa m.ac.length ca] 34)) := (Below.refl _ _).alloc (Nat.le_refl _) _
 have HB0 := Lib.hid hb0
 have hrow := heap_alloc_new w (.cells #[.slice Ae m.ed.length ce, .slice Aa m.ac.length ca] 34)
 have HROW := Lib.hid hrow
 obtain ⟨n, hn⟩ : ∃ n, m.ed.length = n := ⟨_, rfl⟩
 obtain ⟨na, hna⟩ : ∃ n, m.ac.length = n := ⟨_, rfl⟩
 obtain ⟨L, hL⟩ : ∃ n, bs.length = n := ⟨_, rfl⟩
 have t1 : decide ((i : Int) < 0) = false := decide_eq_false (by omega)
 have t2 : decide ((L : Int) < (i : Int)) = false := decide_eq_false (by omega)
 have t2n : decide (L < i) = false := decide_eq_false (by omega)
 rw [hn, hna] at HV HRh HB0 HROW
 rw [hL] at HRh
 rw [hn, hna, hL]
 obtain ⟨R, hR⟩ : ∃ R, rchF m (bs.drop i) 0 i = R := ⟨_, rfl⟩
 rw [hR] at HRh
 have hri : RhPost (rchF m (bs.drop i) 0 i) w = RhPost R w := by rw [hR]
 rw [hri]
 clear hm hv hsm h1 h2 hb hbl hby hi he ha hbc hrow hb0 hn hna hL hR hri
 go_enter Tryz.func30, Tryz.ntmps30
 go_wp2_with fail
 refine (HV.out _ HB0.out).mono ?_
 rintro e w1 ⟨rfl, hb1⟩
 have hs1 := hb1.size
 simp only [World.size_alloc] at hs1
 have hbx := (hb1.block w.heap.size (by simp)).trans HROW.out
 obtain ⟨x0, x1⟩ : w1.cell? ⟨w.heap.size, 0, none⟩ = some (.slice Ae n ce) ∧ w1.cell? ⟨w.heap.size, 1, none⟩ = some (.slice Aa na ca) := by
  constructor <;> (rw [cell_of_row _ _ _ _ _ _ hbx]; rfl)
 have HB1 := Lib.hid (HB0.out.trans (hb1.mono (by simp)))
 have hws : w.heap.size < w1.heap.size := by omega
 clear hb1 hbx
 go_wp2_with fail
 refine (HRh.out _ HB1.out).mono ?_
 rintro e w2 ⟨rv, rfl, hown, hb2⟩
 have HX := Lib.hid (And.intro (hown.mono (show w.heap.size ≤ w1.heap.size by omega)) (HB1.out.trans (hb2.mono (by omega))))
 clear hown hb2
 go_wp2_with fail
 go_ret
 exact ⟨_, rfl, HX.out.1, HX.out.2⟩
theorem accepts_any (v vb : Value) (m : Mc) (bs : List Nat) (w : World) (hm : McIn w v m) (hv : Vld m) (hsm : McSm m) (h1 : 1 ≤ m.ed.length) (h2 : m.ed.length ≤ 2000) (hb : ByIn w vb bs) (hbl : bs.length ≤ 900000) (hby : ∀ b ∈ bs, b < 256) :
  Calls Tryz.prog 25 #[v, vb] w fun e w' => e = .returned (.bool (acF m bs 0)) ∧ Below w.heap.size w w' := by
 obtain ⟨ve, va, rfl, he, ha⟩ := id hm
 obtain ⟨Ae, ce, rfl, hce1, hce2⟩ := he.form
 obtain ⟨Aa, ca, rfl, hca1, hca2⟩ := ha.form
 obtain ⟨Ab, cb, rfl, hcb, hbc⟩ := id hb
 have HRh := Lib.hid fun W (h : Below w.heap.size w W) => ends_any _ _ m bs 0 W (hm.later h) hv hsm h1 h2 (hb.later h) hbl hby (Nat.zero_le _)
 have hb0 : Below w.heap.size w (w.alloc (.cells #[.slice Ae m.ed.length ce, .slice Aa m.ac.length ca] 34)) := (Below.refl _ _).alloc (Nat.le_refl _) _
 have HB0 := Lib.hid hb0
 have HL0 := Lib.hid (rch_last m bs 0 0)
 obtain ⟨n, hn⟩ : ∃ n, m.ed.length = n := ⟨_, rfl⟩
 obtain ⟨na, hna⟩ : ∃ n, m.ac.length = n := ⟨_, rfl⟩
 obtain ⟨L, hL⟩ : ∃ n, bs.length = n := ⟨_, rfl⟩
 obtain ⟨q, hq⟩ : ∃ q, acF m bs 0 = q := ⟨_, rfl⟩
 have HRL := Lib.hid (rch_len m bs 0 0)
 rw [hn, hna] at HRh HB0
 rw [List.drop_zero, hL] at HRh
 rw [hL, hq, Nat.zero_add] at HL0
 rw [hL] at HRL hbl
 rw [hn, hna, hL, hq]
 obtain ⟨R, hR⟩ : ∃ R, rchF m bs 0 0 = R := ⟨_, rfl⟩
 rw [hR] at HRh HL0 HRL
 clear hm hv hsm h1 h2 hb hby he ha hbc hb0 hn hna hL hR hq
 go_enter Tryz.func25, Tryz.ntmps25
 go_wp2_with fail
 refine (HRh.out _ HB0.out).mono ?_
 rintro e w1 ⟨rv, rfl, hown, hb1⟩
 obtain ⟨A1, c1, e1, hc1, hor⟩ := hown.cells inC_E
 subst e1
 have HB1 := Lib.hid (HB0.out.trans (hb1.mono (by simp)))
 clear hown hb1
 by_cases hR0 : R.length = 0
 ·have hRn : R = [] := List.length_eq_zero_iff.1 hR0
  subst hRn
  have HQ : Hid (false = q) := by
   cases q with
   | false => rfl
   | true => have := HL0.out.2 rfl; simp at this
  have t1 : decide (0 < ([] : List Nat).length) = false := by decide
  simp only [List.length_nil] at *
  go_wp2_with fail
  go_ret
  exact ⟨ret_bool HQ.out, HB1.out⟩
 ·obtain ⟨p, hp⟩ : ∃ p, R.length = p + 1 := ⟨R.length - 1, by omega⟩
  obtain ⟨g, rfl, hgB, hgl, hcs⟩ := hor.resolve_left (by intro e; rw [e] at hR0; simp at hR0)
  have hcp := (hcs p (by omega) 0 (by decide)).1
  have hgt : R.getLast? = some (R[p]'(by omega)) := by
   rw [List.getLast?_eq_getElem?, show R.length - 1 = p by omega, List.getElem?_eq_getElem]
  obtain ⟨x, hx⟩ : ∃ x, R[p]'(by omega) = x := ⟨_, rfl⟩
  rw [hx] at hgt hcp
  rw [Nat.mul_one, Nat.add_zero] at hcp
  have hcp2 : w1.cell? ⟨g, p, none⟩ = some (.int .i64 (x : Int)) := by rw [hcp]; rfl
  have HQ : Hid (((x : Int) == (L : Int)) = q) := by
   have h3 := HL0.out
   rw [hgt] at h3
   cases q with
   | false =>
    rw [beq_eq_false_iff_ne]
    intro e
    have : x = L := by omega
    have := h3.1 (by rw [this])
    cases this
   | true =>
    have := h3.2 rfl
    injection this with this
    show ((x : Int) == (L : Int)) = true
    rw [this]; exact beq_self_eq_true _
  obtain ⟨nr, hnr⟩ : ∃ k, R.length = k := ⟨_, rfl⟩
  have hnp : nr = p + 1 := by omega
  have hnl : nr ≤ 1000000 := by have := HRL.out; omega
  have hplt : p < nr := by omega
  have hpn : decide (p < nr) = true := decide_eq_true hplt
  have hw : IntKind.i64.wrap ((nr : Int) - 1) = (p : Int) := by rw [IntWalk.i64_in _ (by omega)]; omega
  have hw2 : (nr : Int) - 1 = (p : Int) := by omega
  have t1 : decide ((0 : Int) < (nr : Int)) = true := decide_eq_true (by omega)
  have t1n : decide (0 < nr) = true := decide_eq_true (by omega)
  rw [hnr]
  clear hcs hor hR0 hcp hgt hx hp hnr hnp
  go_wp2_with fail
  go_ret
  exact ⟨ret_bool HQ.out, HB1.out⟩
theorem OBs.form {e : TypeId} {B : Nat} {v : Value} {l : List UInt8} {w : World} (h : OB e B v l w) : ∃ A c, v = .slice A l.length c ∧ (l.length ≤ c ∧ c ≤ 9223372036854775807) ∧ (0 < l.length → ∃ g, A = some ⟨g, 0, none⟩ ∧ B ≤ g ∧ g < w.heap.size ∧ (∀ j (h : j < l.length), w.cell? ⟨g, j, none⟩ = some (.int .u8 l[j].toNat) ∧ w.frozen? ⟨g, j, none⟩ = false)) := by
 have h' := h
 rcases h.2 with ⟨h1, h0⟩ | ⟨g, cap, cur, rfl, hb, hg, hle, hm, -⟩
 ·exact ⟨none, 0, by rw [h1, h0], ⟨by omega, by decide⟩, fun h => by omega⟩
 ·refine ⟨_, _, rfl, ⟨hle, by unfold maxLen at hm; omega⟩, fun _ => ⟨g, rfl, hb, (Array.getElem?_eq_some_iff.1 hg).1, fun j hj => ⟨?_, by simp [World.frozen?, hg]⟩⟩⟩
  have := World.ownsRow.cellAt h' j (by simpa using hj)
  rw [this]; simp [hj]
theorem OBs.reads {e : TypeId} {B : Nat} {v : Value} {l : List UInt8} {w : World} (h : OB e B v l w) : ByIn w v (l.map UInt8.toNat) := by
 obtain ⟨A, c, rfl, hc, h⟩ := OBs.form h
 refine ⟨A, c, by rw [List.length_map], by rw [List.length_map]; exact hc, ?_⟩
 cases hl : l with
 | nil => exact .inl rfl
 | cons a r =>
  obtain ⟨g, rfl, h1, h2, h3⟩ := h (by rw [hl]; simp)
  refine .inr ⟨g, 0, rfl, h2, fun i hi => ?_⟩
  rw [← hl] at hi
  have hi2 : i < l.length := by simpa using hi
  have := (h3 i hi2).1
  subst hl
  rw [Nat.zero_add, this, List.getElem_map]
end Go.Proofs.YtjhmipidmpmlmaaGreatDoor
