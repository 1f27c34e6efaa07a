/- Walk: machine.Reach. · Walk: machine.Valid at a valid machine. · Walk: ref06.Valid at a valid machine. · Walk: ref06.Equal at valid machines. · The least machine: where a class stands; the map of numbers; the state of the walk. · The least machine: the rounds of a row, and a whole row. · Any machines: edges to any number; which are valid; a valid one as a machine. · Walk: machine.Valid at any machine. Printed by gen_vz.py. · Walk: ref06.Valid at any machine. Printed by gen_vz.py. · Plain: rows that law06.own builds; Least of Least. No program in sight. · Walks: slices.Equal at rows of bools and of edges. · Walk: ref06.Same at valid machines. · Walks: machine.Same and ref06.Same at any two machines. · Walks: machine.Same and ref06.Same at any two machines. · Rows of bytes in which one byte is changed; a row of bytes as a slice that reads. -/
import Derived.Test.YtjhmipidmpmlmaaGreatDoorY15
import Derived.Test.YtjhmipidmpmlmaaGreatDoorY18
import Derived.Test.YtjhmipidmpmlmaaGreatDoorY04
import Derived.Shelf.Slices.Turned
import Derived.Test.YtjhmipidmpmlmaaGreatDoorY13
import Derived.Test.YtjhmipidmpmlmaaGreatDoorY03
namespace Go.Proofs.YtjhmipidmpmlmaaGreatDoor
set_option linter.unusedVariables false
set_option linter.unusedSimpArgs false
set_option maxRecDepth 100000
open Go.RowKit
def rchF (m : Mc) : List Nat → Nat → Nat → List Nat
 | [], s, k => if (m.ac[s]?).getD false = true then [k] else []
 | c :: w, s, k => (if (m.ac[s]?).getD false = true then [k] else []) ++ match trn (rowM m s) c with | none => [] | some t => rchF m w t (k + 1)
def inC (n : Nat) : List Value := [.int .i64 (n : Int)]
theorem inC_E : EncS inC 1 := ⟨by decide, fun _ => rfl, fun x u hu => by simp [inC] at hu; subst hu; rfl⟩
def ByIn (w : World) (v : Value) (l : List Nat) : Prop := ∃ A c, v = .slice A l.length c ∧ (l.length ≤ c ∧ c ≤ 9223372036854775807) ∧ (l = [] ∨ ∃ g f, A = some ⟨g, f, none⟩ ∧ g < w.heap.size ∧ ∀ i (h : i < l.length), w.cell? ⟨g, f + i, none⟩ = some (.int .u8 (l[i] : Int)))
theorem ByIn.later {w w' : World} {v : Value} {l : List Nat} (h : ByIn w v l) (hb : Below w.heap.size w w') : ByIn w' v l := by
 obtain ⟨A, c, e, hc, h⟩ := h;refine ⟨A, c, e, hc, h.imp id ?_⟩;rintro ⟨g, f, h1, hg, hcell⟩;exact ⟨g, f, h1, Nat.lt_of_lt_of_le hg hb.size, fun i hi => (hb.cell (p := ⟨g, f + i, none⟩) hg).trans (hcell i hi)⟩
def RhPost (l : List Nat) (w : World) (e : Ending) (w' : World) : Prop := ∃ rv, e = .returned rv ∧ OR 3 1 inC w.heap.size rv l w' ∧ Below w.heap.size w w'
structure RhW (w : World) (ve va v : Value) (o : List Nat) (wr : World) : Prop where
 own : OR 3 1 inC (w.heap.size + 1) v o wr
 bel : Below w.heap.size w wr
 siz : w.heap.size + 1 ≤ wr.heap.size
 box : wr.heap[w.heap.size]? = some (.cells #[ve, va] 34 (0, 0))
theorem RhW.next {w wr w' : World} {ve va v v' : Value} {o o' : List Nat} (h : RhW w ve va v o wr) (hown : OR 3 1 inC (w.heap.size + 1) v' o' w') (hb : Below (w.heap.size + 1) wr w') : RhW w ve va v' o' w' :=
 ⟨hown, h.bel.trans (hb.mono (by omega)), Nat.le_trans h.siz hb.size, (hb.block _ (by omega)).trans h.box⟩
theorem RhW.later {w wr w' : World} {ve va v : Value} {o : List Nat} (h : RhW w ve va v o wr) (hb : Below wr.heap.size wr w') : RhW w ve va v o w' :=
 h.next (h.own.later hb) (hb.mono h.siz)
def RhI (m : Mc) (bs : List Nat) (R : List Nat) (o : List Nat) (sx : Int) (k : Nat) : Prop := (sx = -1 ∧ o = R) ∨ ∃ s : Nat, sx = (s : Int) ∧ s < m.ed.length ∧ k ≤ bs.length ∧ o ++ rchF m (bs.drop k) s k = R
theorem rhI_step {m : Mc} {bs R o o' : List Nat} {s k : Nat} {b : Bool} (hv : Vld m) (h : o ++ rchF m (bs.drop k) s k = R) (hb : (m.ac[s]?).getD false = b) (ho : o' = if b = true then o ++ [k] else o) :
  (bs.length ≤ k → o' = R) ∧ ∀ hk : k < bs.length, RhI m bs R o' (nxF m s bs[k]) (k + 1) := by
 constructor
 ·intro hk;rw [List.drop_eq_nil_of_le hk, rchF, hb] at h;rw [ho, ← h]
  cases b <;> simp
 ·intro hk;rw [List.drop_eq_getElem_cons hk, rchF, hb, ← List.append_assoc] at h;have h2 : o ++ (if b = true then [k] else []) = o' := by rw [ho]; cases b <;> simp
  rw [h2] at h;unfold RhI nxF
  cases ht : trn (rowM m s) bs[k] with
  | none =>
   rw [ht] at h;exact .inl ⟨rfl, by simpa using h⟩
  | some t =>
   rw [ht] at h;exact .inr ⟨t, rfl, hv.trn_lt ht, hk, h⟩
set_option maxHeartbeats 2000000 in
theorem reach_any (v vb : Value) (m : Mc) (bs : List Nat) (i : Nat) (w : World) (hm : McIn w v m) (hv : Vld m) (hsm : McSm m) (h1 : 1 ≤ m.ed.length) (hb : ByIn w vb bs) (hbl : bs.length ≤ 900000) (hby : ∀ b ∈ bs, b < 256) (hi : i ≤ bs.length) :
  Calls Tryz.prog 51 #[v, vb, .int .i64 (i : Int)] w (RhPost (rchF m (bs.drop i) 0 i) w) := by
 obtain ⟨ve, va, rfl, he, ha⟩ := id hm;obtain ⟨Ae, ce, rfl, hce1, hce2⟩ := he.form;obtain ⟨Aa, ca, rfl, hca1, hca2⟩ := ha.form;obtain ⟨Ab, cb, rfl, hcb, hbc⟩ := id hb;obtain ⟨n, hn⟩ : ∃ n, m.ed.length = n := ⟨_, rfl⟩;have hac : m.ac.length = n := by rw [hv.len, hn]
 obtain ⟨L, hL⟩ : ∃ n, bs.length = n := ⟨_, rfl⟩;have hnx := fun (s c : Nat) (W : World) (h : Below w.heap.size w W) (hs : s < m.ed.length) => mnext_any _ m s c W (hm.later h) hv hsm hs;have hnn := hsm.n;obtain ⟨R, hR⟩ : ∃ R, rchF m (bs.drop i) 0 i = R := ⟨_, rfl⟩;rw [hn] at hce1 hnn hnx;rw [hac] at hca1 hnx;rw [hL] at hcb hbl hi;have HNX := Lib.hid hnx;have HA := Lib.hid ha;have HV := Lib.hid hv;have HBC := Lib.hid hbc;have HN := Lib.hid (And.intro hn hac);have HL := Lib.hid hL;have HI0 : Hid (RhI m bs R [] 0 i) := .inr ⟨0, rfl, h1, by rw [hL]; exact hi, hR⟩
 have hW0 : RhW w (.slice Ae n ce) (.slice Aa n ca) (.slice none 0 0) [] (w.alloc (.cells #[.slice Ae n ce, .slice Aa n ca] 34)) := ⟨OR.nil_ _ _ _, (Below.refl _ _).alloc (Nat.le_refl _) _, by simp, heap_alloc_new w _⟩
 have HW0 := Lib.hid hW0;obtain ⟨i3, hi3, hk0, hk1, hk2⟩ := info_parts info_int;have hri : RhPost (rchF m (bs.drop i) 0 i) w = RhPost R w := by rw [hR]
 rw [hri, hn, hac, hL];clear hnx ha he hv hbc hn hac hL hR hW0 hm hsm hb h1 hri
 go_enter Tryz.func51, Tryz.ntmps51
 go_wp2_with fail
 go_loopg [7, 8, 9] (L + 1 - i) (fun q s7 s8 s9 wr => ∃ (sx : Int) (k : Nat) (o : List Nat), s8 = .int .i64 sx ∧ s9 = .int .i64 (k : Int) ∧ o.length ≤ k ∧ k ≤ L + 1 ∧ q = L + 1 - k ∧ Hid (RhW w (.slice Ae n ce) (.slice Aa n ca) s7 o wr) ∧ Hid (RhI m bs R o sx k))
 case atStart => exact ⟨0, i, [], rfl, rfl, by simp, by omega, rfl, HW0, HI0⟩
 case round =>
  obtain ⟨sx, k, o, rfl, rfl, hok, hkL, hq, HW, HI⟩ := hrel;have hbx := HW.out.box;obtain ⟨x0, x1⟩ : wr.cell? ⟨w.heap.size, 0, none⟩ = some (.slice Ae n ce) ∧ wr.cell? ⟨w.heap.size, 1, none⟩ = some (.slice Aa n ca) := by
   constructor <;> (rw [cell_of_row _ _ _ _ _ _ hbx]; rfl)
  have hwz := HW.out.siz;have hws : w.heap.size < wr.heap.size := by omega
  obtain ⟨Ar, cr, rfl⟩ : ∃ A c, u7 = .slice A o.length c := by
   obtain ⟨A, c, e, -⟩ := own_form (show wr.ownsRow _ _ _ _ _ _ from HW.out.own);exact ⟨A, c, e⟩
  clear hbx;by_cases hsx : sx = -1
  ·have hd : decide ((0 : Int) ≤ -1) = false := by decide
   have HR : Hid (o = R) := by
    rcases HI.out with h | ⟨s, h, -⟩
    ·exact h.2
    ·omega
   subst hsx;clear HI;go_wp2_with fail;go_ret;exact ⟨_, rfl, HR.out ▸ HW.out.own.mono (by omega), HW.out.bel⟩
  ·obtain ⟨s, hsx2, hsm, hkb, hRR⟩ := HI.out.resolve_left (fun h => hsx h.1);subst hsx2;rw [HN.out.1] at hsm;rw [HL.out] at hkb;have hsn : s < n := hsm;have hds : decide (s < n) = true := decide_eq_true hsn;have hd : decide ((0 : Int) ≤ (s : Int)) = true := decide_eq_true (by omega)
   obtain ⟨g0, f0, rfl, -, hg0, hac0⟩ := HA.out.at_ (k := s) (by rw [HN.out.2]; exact hsn)
   obtain ⟨b, hb⟩ : ∃ b, m.ac[s]'(by rw [HN.out.2]; exact hsn) = b := ⟨_, rfl⟩
   rw [hb] at hac0;have hbg : (m.ac[s]?).getD false = b := by rw [List.getElem?_eq_getElem (by rw [HN.out.2]; exact hsn), hb]; rfl
   have hacw := (HW.out.bel.cell (p := ⟨g0, f0 + s, none⟩) hg0).trans hac0;have hg1 : g0 < wr.heap.size := by have := HW.out.bel.size; omega
   have HST := Lib.hid (fun o' => rhI_step (o' := o') HV.out hRR hbg);clear hsx hsm hRR hbg hac0 hb HI
   cases b with
   | true =>
    by_cases hkl : k < L
    ·have hdk : decide (k < L) = true := decide_eq_true hkl;have hne : decide (k = L) = false := decide_eq_false (by omega)
     have hnei : decide ((k : Int) = (L : Int)) = false := decide_eq_false (by omega)
     have hneb : (k == L) = false := by simp; omega
     have hnec : ((k : Int) == (L : Int)) = false := by simp; omega
     have hown := HW.out.own;go_wp2_with (at_builtin; refine app_one inC_E Tryz.underlying22 hi3 hk0 hk1 hk2 rfl (by decide) _ _ _ _ o k _ (w.heap.size + 1) rfl rfl rfl rfl rfl hown (by omega) (by omega) ?_; intro v1 w1 hown1 hb1)
     have HW1 := Lib.hid (HW.out.next hown1 hb1);have HT := Lib.hid (HST.out (o ++ [k]) rfl);clear hown hown1 hb1 hacw hg1 x0 x1 hwz hws;have hkb : k < bs.length := by rw [HL.out]; exact hkl
     obtain ⟨g, ff, rfl, hg, hcs⟩ := HBC.out.resolve_left (by intro e; rw [e] at hkb; simp at hkb)
     have hck := hcs k hkb;obtain ⟨c, hc⟩ : ∃ c, bs[k] = c := ⟨_, rfl⟩;rw [hc] at hck;have hnext := HT.out.2 hkb;rw [hc] at hnext;have HNEXT := Lib.hid hnext;have hbW := HW1.out.bel;have hb1 := HW1.out.box;have hz1 := HW1.out.siz;have hd0 : ∀ d' : BelT w1.heap.size w1, d'.val.cell? ⟨w.heap.size, 0, none⟩ = some (.slice Ae n ce) := fun d' => by
      rw [cell_of_row _ _ _ _ _ _ ((d'.property.block w.heap.size (by omega)).trans hb1)]; rfl
     have hd1 : ∀ d' : BelT w1.heap.size w1, d'.val.cell? ⟨w.heap.size, 1, none⟩ = some (.slice (some ⟨g0, f0, none⟩) n ca) := fun d' => by
      rw [cell_of_row _ _ _ _ _ _ ((d'.property.block w.heap.size (by omega)).trans hb1)]; rfl
     have hd2 : ∀ d' : BelT w1.heap.size w1, w.heap.size < d'.val.heap.size := fun d' => by have := d'.property.size; omega
     have hd3 : ∀ d' : BelT w1.heap.size w1, d'.val.cell? ⟨g, ff + k, none⟩ = some (.int .u8 (c : Int)) := fun d' => ((hbW.trans (d'.property.mono hbW.size)).cell (p := ⟨g, ff + k, none⟩) hg).trans hck;have hd4 : ∀ d' : BelT w1.heap.size w1, g < d'.val.heap.size := fun d' => by have := d'.property.size; have := hbW.size; omega
     have hcall : ∀ d' : BelT w1.heap.size w1, Calls Tryz.prog 81 #[.agg #[.slice Ae n ce, .slice (some ⟨g0, f0, none⟩) n ca], .int .i64 (s : Int), .int .u8 (c : Int)] d'.val fun e w' => e = .returned (.int .i64 (nxF m s c)) ∧ Below d'.val.heap.size d'.val w' := fun d' => HNX.out s c d'.val (hbW.trans (d'.property.mono hbW.size)) hsn;obtain ⟨x, hx⟩ : ∃ x, nxF m s c = x := ⟨_, rfl⟩;rw [hx] at hcall HNEXT;have HCALL := Lib.hid hcall;clear hck hcs hkb hc hnext hbW hb1 hcall hx;refine wp_region_below (Below.refl w1.heap.size w1) (by kernel_rfl) (by kernel_rfl) ?_
     repeat (go_big_quiet_step ((go_at_call 81; exact Calls.below_of (Nat.le_refl _) (HCALL.out _))))
     refine wpQuiet_nil ?_;intro w2 hw';have hw2 : Below w1.heap.size w1 w2 := by obtain ⟨d9, rfl⟩ := hw'; exact d9.property
     have HW2 := Lib.hid (HW1.out.later hw2);clear hw' hd0 hd1 hd2 hd3 hd4 hw2;go_wp2_with fail
     go_roundg (L - k)
     case measure => omega
     case rel => exact ⟨x, k + 1, o ++ [k], rfl, by go_num, by (try simp); omega, by omega, by omega, HW2, HNEXT⟩
    ·obtain rfl : k = L := by omega
     have hdk : decide (k < k) = false := decide_eq_false (by omega)
     have hne : decide (k = k) = true := decide_eq_true rfl;have hnei : decide ((k : Int) = (k : Int)) = true := decide_eq_true rfl;have hown := HW.out.own;go_wp2_with (at_builtin; refine app_one inC_E Tryz.underlying22 hi3 hk0 hk1 hk2 rfl (by decide) _ _ _ _ o k _ (w.heap.size + 1) rfl rfl rfl rfl rfl hown (by omega) (by omega) ?_; intro v1 w1 hown1 hb1)
     have HW1 := Lib.hid (HW.out.next hown1 hb1);have HT := Lib.hid (HST.out (o ++ [k]) rfl);clear hown hown1 hb1 hacw hg1 x0 x1;have HE := Lib.hid (HT.out.1 (Nat.le_of_eq HL.out));go_ret;exact ⟨_, rfl, HE.out ▸ HW1.out.own.mono (by omega), HW1.out.bel⟩
   | false =>
    have HW1 := HW;have HT := Lib.hid (HST.out o rfl);by_cases hkl : k < L
    ·have hdk : decide (k < L) = true := decide_eq_true hkl;have hne : decide (k = L) = false := decide_eq_false (by omega)
     have hnei : decide ((k : Int) = (L : Int)) = false := decide_eq_false (by omega)
     have hneb : (k == L) = false := by simp; omega
     have hnec : ((k : Int) == (L : Int)) = false := by simp; omega
     have hkb : k < bs.length := by rw [HL.out]; exact hkl
     obtain ⟨g, ff, rfl, hg, hcs⟩ := HBC.out.resolve_left (by intro e; rw [e] at hkb; simp at hkb)
     have hck := hcs k hkb;obtain ⟨c, hc⟩ : ∃ c, bs[k] = c := ⟨_, rfl⟩;rw [hc] at hck;have hnext := HT.out.2 hkb;rw [hc] at hnext;have HNEXT := Lib.hid hnext;have hbW := HW1.out.bel;have hb1 := HW1.out.box;have hz1 := HW1.out.siz;have hd0 : ∀ d' : BelT wr.heap.size wr, d'.val.cell? ⟨w.heap.size, 0, none⟩ = some (.slice Ae n ce) := fun d' => by
      rw [cell_of_row _ _ _ _ _ _ ((d'.property.block w.heap.size (by omega)).trans hb1)]; rfl
     have hd1 : ∀ d' : BelT wr.heap.size wr, d'.val.cell? ⟨w.heap.size, 1, none⟩ = some (.slice (some ⟨g0, f0, none⟩) n ca) := fun d' => by
      rw [cell_of_row _ _ _ _ _ _ ((d'.property.block w.heap.size (by omega)).trans hb1)]; rfl
     have hd2 : ∀ d' : BelT wr.heap.size wr, w.heap.size < d'.val.heap.size := fun d' => by have := d'.property.size; omega
     have hd3 : ∀ d' : BelT wr.heap.size wr, d'.val.cell? ⟨g, ff + k, none⟩ = some (.int .u8 (c : Int)) := fun d' => ((hbW.trans (d'.property.mono hbW.size)).cell (p := ⟨g, ff + k, none⟩) hg).trans hck;have hd4 : ∀ d' : BelT wr.heap.size wr, g < d'.val.heap.size := fun d' => by have := d'.property.size; have := hbW.size; omega
     have hcall : ∀ d' : BelT wr.heap.size wr, Calls Tryz.prog 81 #[.agg #[.slice Ae n ce, .slice (some ⟨g0, f0, none⟩) n ca], .int .i64 (s : Int), .int .u8 (c : Int)] d'.val fun e w' => e = .returned (.int .i64 (nxF m s c)) ∧ Below d'.val.heap.size d'.val w' := fun d' => HNX.out s c d'.val (hbW.trans (d'.property.mono hbW.size)) hsn;obtain ⟨x, hx⟩ : ∃ x, nxF m s c = x := ⟨_, rfl⟩;rw [hx] at hcall HNEXT;have HCALL := Lib.hid hcall;clear hck hcs hkb hc hnext hbW hb1 hcall hx;go_wp2_with fail
     try exact absurd (show ((k : Int) == (L : Int)) = true by assumption) (by rw [hnec]; decide)
     refine wp_region_below (Below.refl wr.heap.size wr) (by kernel_rfl) (by kernel_rfl) ?_
     repeat (go_big_quiet_step ((go_at_call 81; exact Calls.below_of (Nat.le_refl _) (HCALL.out _))))
     refine wpQuiet_nil ?_;intro w2 hw';have hw2 : Below wr.heap.size wr w2 := by obtain ⟨d9, rfl⟩ := hw'; exact d9.property
     have HW2 := Lib.hid (HW1.out.later hw2);clear hw' hd0 hd1 hd2 hd3 hd4 hw2;go_wp2_with fail
     go_roundg (L - k)
     case measure => omega
     case rel => exact ⟨x, k + 1, o, rfl, by go_num, by (try simp); omega, by omega, by omega, HW2, HNEXT⟩
    ·obtain rfl : k = L := by omega
     have hdk : decide (k < k) = false := decide_eq_false (by omega)
     have hne : decide (k = k) = true := decide_eq_true rfl;have hnei : decide ((k : Int) = (k : Int)) = true := decide_eq_true rfl;have HE := Lib.hid (HT.out.1 (Nat.le_of_eq HL.out));go_wp2_with fail;go_ret;exact ⟨_, rfl, HE.out ▸ HW1.out.own.mono (by omega), HW1.out.bel⟩
theorem sort_adj : ∀ {r : List Ed} {b : Nat}, SortE b r → ∀ i (hi : i < r.length), r[i].lo ≤ r[i].hi ∧ ∀ j (hj : j + 1 = i), (r[j]'(by omega)).hi < r[i].lo
 | e :: r, b, ⟨h1, h2, h3⟩, 0, _ => ⟨h2, fun j hj => by omega⟩
 | e :: r, b, ⟨h1, h2, h3⟩, i + 1, hi => by
  obtain ⟨q1, q2⟩ := sort_adj h3 i (by simpa using hi)
  refine ⟨by rw [List.getElem_cons_succ]; exact q1, fun j hj => ?_⟩
  cases j with
  | zero =>
   obtain rfl : i = 0 := by omega
   match r, h3, hi with
   | f :: r, h3, _ => exact h3.1
  | succ j =>
   rw [List.getElem_cons_succ, List.getElem_cons_succ];exact q2 j (by omega)
set_option maxHeartbeats 2000000 in
theorem mvalid_any (v : Value) (m : Mc) (w : World) (hm : McIn w v m) (hv : Vld m) (hsm : McSm m) (h1 : 1 ≤ m.ed.length) (h2 : m.ed.length ≤ 2000) :
  Calls Tryz.prog 27 #[v] w fun e w' => e = .returned (.bool true) ∧ Below w.heap.size w w' := by
 obtain ⟨ve, va, rfl, he, ha⟩ := id hm;obtain ⟨Ae, ce, rfl, hce1, hce2⟩ := he.form;obtain ⟨Aa, ca, rfl, hca1, hca2⟩ := ha.form;obtain ⟨n, hn⟩ : ∃ n, m.ed.length = n := ⟨_, rfl⟩;have hac : m.ac.length = n := by rw [hv.len, hn]
 have HE := Lib.hid he;have HV := Lib.hid hv;have HS := Lib.hid hsm;have HN := Lib.hid (And.intro hn hac);rw [hn] at hce1 h1 h2;rw [hac] at hca1;rw [hn, hac];have hb0 : Below w.heap.size w (w.alloc (.cells #[.slice Ae n ce, .slice Aa n ca] 34)) := (Below.refl _ _).alloc (Nat.le_refl _) _;have HB0 := Lib.hid hb0;clear he ha hv hsm hn hac hm hb0;have hd1 : decide (n < 1) = false := decide_eq_false (by omega)
 have hd1i : decide ((n : Int) < 1) = false := decide_eq_false (by omega)
 have hd2 : decide (2000 < n) = false := decide_eq_false (by omega)
 have hd2i : decide (2000 < (n : Int)) = false := decide_eq_false (by omega)
 go_enter Tryz.func27, Tryz.ntmps27
 go_wp2_with fail
 go_loopw [27] (fun v wr => ∃ k : Nat, k ≤ n ∧ v = .int .i64 (k : Int) ∧ Hid (Below w.heap.size w wr)) (fun v _ => n - (intOf v).toNat)
 case atStart => exact ⟨0, by omega, rfl, HB0⟩
 case round =>
  obtain ⟨k, hk, rfl, HB⟩ := hrel;by_cases hlt : k < n
  ·have hd : decide ((k : Int) < (n : Int)) = true := decide_eq_true (by omega)
   have hdn : decide (k < n) = true := decide_eq_true hlt;have hkm : k < m.ed.length := by rw [HN.out.1]; exact hlt
   obtain ⟨g, f, rv, rfl, -, hg, hcE, hed⟩ := HE.out.at_ hkm;have hcE2 := (HB.out.cell (p := ⟨g, f + k, none⟩) hg).trans hcE;obtain ⟨row, hrow⟩ : ∃ r, m.ed[k] = r := ⟨_, rfl⟩;rw [hrow] at hed;have hsr : SortE 0 row := by rw [← hrow]; exact HV.out.srt _ (List.getElem_mem hkm)
   have hto : ∀ e ∈ row, e.to < n := fun e he => by rw [← HN.out.1]; exact HV.out.to _ (by rw [← hrow]; exact List.getElem_mem hkm) e he
   have hrl : row.length ≤ 10000 := HS.out.rl _ (by rw [← hrow]; exact List.getElem_mem hkm)
   obtain ⟨Ar, cr, rfl, hrc, hrcell⟩ := hed;obtain ⟨L, hL⟩ : ∃ L, row.length = L := ⟨_, rfl⟩;rw [hL] at hrc hcE hcE2 hrl;have HR := Lib.hid (And.intro hsr (And.intro hto hL));have HRC := Lib.hid hrcell;have hgw : g < wr.heap.size := by have := HB.out.size; omega
   clear hsr hto hL hrcell hrow hkm hcE;go_wp2_with fail
   go_loopw [33] (fun v wr => ∃ j : Nat, j ≤ L ∧ v = .int .i64 (j : Int) ∧ Hid (Below w.heap.size w wr)) (fun v _ => L - (intOf v).toNat)
   case atStart => exact ⟨0, by omega, rfl, HB⟩
   case round =>
    obtain ⟨j, hj, rfl, HB2⟩ := hrel;by_cases hjl : j < L
    ·have hdj : decide ((j : Int) < (L : Int)) = true := decide_eq_true (by omega)
     have hdjn : decide (j < L) = true := decide_eq_true hjl;have hjm : j < row.length := by rw [HR.out.2.2]; exact hjl
     obtain ⟨g2, f2, rfl, hg2, hcs⟩ := HRC.out.resolve_left (by intro e; rw [e] at hjm; simp at hjm)
     obtain ⟨p0, p1, p2⟩ := hcs j hjm;obtain ⟨⟨lo, hi, to⟩, he⟩ : ∃ e, row[j] = e := ⟨_, rfl⟩;have hlh := (sort_adj HR.out.1 j hjm).1;have hprev := (sort_adj HR.out.1 j hjm).2;have hto := HR.out.2.1 _ (List.getElem_mem hjm);rw [he] at p0 p1 p2 hlh hprev hto;simp only at hlh hprev hto p0 p1 p2;have q0 := (HB2.out.cell (p := ⟨g2, f2 + j * 3, none⟩) hg2).trans p0;have q1 := (HB2.out.cell (p := ⟨g2, f2 + j * 3 + 1, none⟩) hg2).trans p1;have q2 := (HB2.out.cell (p := ⟨g2, f2 + j * 3 + 2, none⟩) hg2).trans p2;have hgw2 : g2 < wr.heap.size := by have := HB2.out.size; omega
     have HP := Lib.hid (And.intro hlh (And.intro hprev hto));have HCS := Lib.hid hcs;clear p0 p1 p2 hlh hprev hto hcs he;go_wp2_with fail;refine wp_named fun W hW => ?_;have hbW : Below wr.heap.size wr W := by rw [hW]; exact (Below.refl _ _).alloc (Nat.le_refl _) _
     have hrow : W.heap[wr.heap.size]? = some (.cells #[.int .u8 (lo : Int), .int .u8 (hi : Int), .int .i64 (to : Int)] 58 (0, 0)) := by rw [hW]; exact heap_alloc_new wr _
     have hzW : W.heap.size = wr.heap.size + 1 := by rw [hW]; simp
     have hd0 : ∀ d : BelT W.heap.size W, d.val.cell? ⟨wr.heap.size, 0, none⟩ = some (.int .u8 (lo : Int)) := fun d => by
      rw [cell_of_row _ _ _ _ _ _ ((d.property.block wr.heap.size (by omega)).trans hrow)]; rfl
     have hd1 : ∀ d : BelT W.heap.size W, d.val.cell? ⟨wr.heap.size, 1, none⟩ = some (.int .u8 (hi : Int)) := fun d => by
      rw [cell_of_row _ _ _ _ _ _ ((d.property.block wr.heap.size (by omega)).trans hrow)]; rfl
     have hd2 : ∀ d : BelT W.heap.size W, d.val.cell? ⟨wr.heap.size, 2, none⟩ = some (.int .i64 (to : Int)) := fun d => by
      rw [cell_of_row _ _ _ _ _ _ ((d.property.block wr.heap.size (by omega)).trans hrow)]; rfl
     have hd3 : ∀ d : BelT W.heap.size W, wr.heap.size < d.val.heap.size := fun d => by have := d.property.size; omega
     have t1 : decide ((hi : Int) < (lo : Int)) = false := decide_eq_false (by have := HP.out.1; omega)
     have t1n : decide (hi < lo) = false := decide_eq_false (by have := HP.out.1; omega)
     have t2 : decide ((to : Int) < 0) = false := decide_eq_false (by omega)
     have t3 : decide ((n : Int) ≤ (to : Int)) = false := decide_eq_false (by have := HP.out.2.2; omega)
     have t3n : decide (n ≤ to) = false := decide_eq_false (by have := HP.out.2.2; omega)
     have HBW := Lib.hid (HB2.out.trans (hbW.mono HB2.out.size));by_cases hj0 : 0 < j
     ·have t4 : decide (0 < (j : Int)) = true := decide_eq_true (by omega)
      have t4n : decide (0 < j) = true := decide_eq_true hj0;obtain ⟨p, hp⟩ : ∃ p, p + 1 = j := ⟨j - 1, by omega⟩
      have hw : IntKind.i64.wrap ((j : Int) - 1) = (p : Int) := by rw [IntWalk.i64_in _ (by omega)]; omega
      have hw2 : ((j : Int) - 1) = (p : Int) := by omega
      have hpl : p < L := by omega
      have t5 : decide (p < L) = true := decide_eq_true hpl;obtain ⟨-, p1, -⟩ := HCS.out p (by rw [HR.out.2.2]; exact hpl)
      have hph := HP.out.2.1 p hp;obtain ⟨ph, hph2⟩ : ∃ x, (row[p]'(by rw [HR.out.2.2]; exact hpl)).hi = x := ⟨_, rfl⟩
      rw [hph2] at p1 hph;have t6 : decide ((lo : Int) ≤ (ph : Int)) = false := decide_eq_false (by omega)
      have t6n : decide (lo ≤ ph) = false := decide_eq_false (by omega)
      have hd4 : ∀ d : BelT W.heap.size W, d.val.cell? ⟨g2, f2 + p * 3 + 1, none⟩ = some (.int .u8 (ph : Int)) := fun d => ((HBW.out.trans (d.property.mono HBW.out.size)).cell (p := ⟨g2, f2 + p * 3 + 1, none⟩) hg2).trans p1;have hd5 : ∀ d : BelT W.heap.size W, g2 < d.val.heap.size := fun d => by have := d.property.size; omega
      clear hrow hbW hW hp p1 hph hph2 q0 q1 q2 hcE2;refine wp_region_below (Below.refl W.heap.size W) (by kernel_rfl) (by kernel_rfl) ?_
      repeat (go_big_quiet_step (fail))
      refine wpQuiet_nil ?_;intro w2 hw';have hw2 : Below W.heap.size W w2 := by obtain ⟨d9, rfl⟩ := hw'; exact d9.property
      have HB3 := Lib.hid (HBW.out.trans (hw2.mono HBW.out.size));clear hw' hd0 hd1 hd2 hd3 hd4 hd5 hw2;go_wp2_with fail;go_roundw
      case rel => exact ⟨j + 1, by omega, by go_num, HB3⟩
      case measure => simp [intOf]; omega
     ·obtain rfl : j = 0 := by omega
      have t4 : decide (0 < ((0 : Nat) : Int)) = false := by decide
      have t4n : decide (0 < 0) = false := by decide
      clear hrow hbW hW q0 q1 q2 hcE2;refine wp_region_below (Below.refl W.heap.size W) (by kernel_rfl) (by kernel_rfl) ?_
      repeat (go_big_quiet_step (fail))
      refine wpQuiet_nil ?_;intro w2 hw';have hw2 : Below W.heap.size W w2 := by obtain ⟨d9, rfl⟩ := hw'; exact d9.property
      have HB3 := Lib.hid (HBW.out.trans (hw2.mono HBW.out.size));clear hw' hd0 hd1 hd2 hd3 hw2;go_wp2_with fail;go_roundw
      case rel => exact ⟨1, by omega, rfl, HB3⟩
      case measure => simp [intOf]; omega
    ·obtain rfl : j = L := by omega
     have hdj : decide ((j : Int) < (j : Int)) = false := decide_eq_false (by omega)
     have hdjn : decide (j < j) = false := decide_eq_false (by omega)
     go_wp2_with fail;go_roundw
     case rel => exact ⟨k + 1, by omega, by go_num, HB2⟩
     case measure => simp [intOf]; omega
  ·obtain rfl : k = n := by omega
   have hd : decide ((k : Int) < (k : Int)) = false := decide_eq_false (by omega)
   have hdn : decide (k < k) = false := decide_eq_false (by omega)
   go_wp2_with fail;go_ret;exact ⟨rfl, HB.out⟩
structure Bx (w : World) (a b c d : Value) (wr : World) : Prop where
 bel : Below w.heap.size w wr
 siz : w.heap.size + 2 ≤ wr.heap.size
 r0 : wr.heap[w.heap.size]? = some (.cells #[a, b] 34 (0, 0))
 r1 : wr.heap[w.heap.size + 1]? = some (.cells #[c, d] 34 (0, 0))
theorem Bx.later {w wr w' : World} {a b c d : Value} (h : Bx w a b c d wr) (hb : Below wr.heap.size wr w') : Bx w a b c d w' :=
 ⟨h.bel.trans (hb.mono h.bel.size), Nat.le_trans h.siz hb.size, (hb.block _ (by have := h.siz; omega)).trans h.r0, (hb.block _ (by have := h.siz; omega)).trans h.r1⟩
theorem Bx.cells {w wr : World} {a b c d : Value} (h : Bx w a b c d wr) : wr.cell? ⟨w.heap.size, 0, none⟩ = some a ∧ wr.cell? ⟨w.heap.size, 1, none⟩ = some b ∧ wr.cell? ⟨w.heap.size + 1, 0, none⟩ = some c ∧ wr.cell? ⟨w.heap.size + 1, 1, none⟩ = some d ∧ w.heap.size < wr.heap.size ∧ w.heap.size + 1 < wr.heap.size := by
 have h1 := h.siz;refine ⟨?_, ?_, ?_, ?_, by omega, by omega⟩
 ·rw [cell_of_row _ _ _ _ _ _ h.r0]; rfl
 ·rw [cell_of_row _ _ _ _ _ _ h.r0]; rfl
 ·rw [cell_of_row _ _ _ _ _ _ h.r1]; rfl
 ·rw [cell_of_row _ _ _ _ _ _ h.r1]; rfl
set_option maxHeartbeats 4000000 in
theorem requal_any (v1 v2 : Value) (m1 m2 : Mc) (w : World) (hm1 : McIn w v1 m1) (hm2 : McIn w v2 m2) (hv1 : Vld m1) (hv2 : Vld m2) (hsm1 : McSm m1) (hsm2 : McSm m2) :
  Calls Tryz.prog 16 #[v1, v2] w fun e w' => e = .returned (.bool (decide (m1 = m2))) ∧ Below w.heap.size w w' := by
 obtain ⟨ve1, va1, rfl, he1, ha1⟩ := id hm1;obtain ⟨Ae1, ce1, rfl, hce1⟩ := he1.form;obtain ⟨Aa1, ca1, rfl, hca1⟩ := ha1.form;obtain ⟨ve2, va2, rfl, he2, ha2⟩ := id hm2;obtain ⟨Ae2, ce2, rfl, hce2⟩ := he2.form;obtain ⟨Aa2, ca2, rfl, hca2⟩ := ha2.form;obtain ⟨n1, hn1⟩ : ∃ n, m1.ed.length = n := ⟨_, rfl⟩;obtain ⟨n2, hn2⟩ : ∃ n, m2.ed.length = n := ⟨_, rfl⟩;have hac1 : m1.ac.length = n1 := by rw [hv1.len, hn1]
 have hac2 : m2.ac.length = n2 := by rw [hv2.len, hn2]
 obtain ⟨q, hq⟩ : ∃ q, decide (m1 = m2) = q := ⟨_, rfl⟩;have HB0 : Hid (Bx w (.slice Ae1 n1 ce1) (.slice Aa1 n1 ca1) (.slice Ae2 n2 ce2) (.slice Aa2 n2 ca2) ((w.alloc (.cells #[.slice Ae1 n1 ce1, .slice Aa1 n1 ca1] 34)).alloc (.cells #[.slice Ae2 n2 ce2, .slice Aa2 n2 ca2] 34))) :=
  ⟨((Below.refl _ _).alloc (Nat.le_refl _) _).alloc (by simp) _, by simp, by rw [old_alloc _ _ _ (by simp)]; exact heap_alloc_new w _, by simpa using heap_alloc_new (w.alloc (.cells #[.slice Ae1 n1 ce1, .slice Aa1 n1 ca1] 34)) (.cells #[.slice Ae2 n2 ce2, .slice Aa2 n2 ca2] 34)⟩
 have HE := Lib.hid (And.intro he1 (And.intro he2 (And.intro ha1 ha2)));have HN := Lib.hid (And.intro (And.intro hn1 hac1) (And.intro (And.intro hn2 hac2) hq));have HS := Lib.hid (And.intro hsm1 hsm2);have hnn : n1 ≤ 100000 := by rw [← hn1]; exact hsm1.n
 rw [hq, hn1, hn2, hac1, hac2];clear he1 he2 ha1 ha2 hn1 hn2 hac1 hac2 hq hm1 hm2 hv1 hv2 hsm1 hsm2 hce1 hca1 hce2 hca2;by_cases hnn2 : n1 = n2
 ·subst hnn2
  go_enter Tryz.func16, Tryz.ntmps16
  go_wp2_with fail
  go_loopw [5] (fun v wr => ∃ k : Nat, k ≤ n1 ∧ v = .int .i64 (k : Int) ∧ Hid (Bx w (.slice Ae1 n1 ce1) (.slice Aa1 n1 ca1) (.slice Ae2 n1 ce2) (.slice Aa2 n1 ca2) wr) ∧ Hid (∀ i, i < k → m1.ac[i]? = m2.ac[i]?)) (fun v _ => n1 - (intOf v).toNat)
  case atStart => exact ⟨0, by omega, rfl, HB0, fun i hi => absurd hi (Nat.not_lt_zero _)⟩
  case round =>
   obtain ⟨k, hk, rfl, HB, HI⟩ := hrel;obtain ⟨b0, b1, b2, b3, s0, s1⟩ := HB.out.cells;by_cases hlt : k < n1
   ·have hd : decide ((k : Int) < (n1 : Int)) = true := decide_eq_true (by omega)
    have hdn : decide (k < n1) = true := decide_eq_true hlt;obtain ⟨g1, f1, rfl, -, hg1, hc1⟩ := HE.out.2.2.1.at_ (k := k) (by rw [HN.out.1.2]; exact hlt)
    obtain ⟨g2, f2, rfl, -, hg2, hc2⟩ := HE.out.2.2.2.at_ (k := k) (by rw [HN.out.2.1.2]; exact hlt)
    obtain ⟨x1, hx1⟩ : ∃ x, m1.ac[k]'(by rw [HN.out.1.2]; exact hlt) = x := ⟨_, rfl⟩
    obtain ⟨x2, hx2⟩ : ∃ x, m2.ac[k]'(by rw [HN.out.2.1.2]; exact hlt) = x := ⟨_, rfl⟩
    rw [hx1] at hc1;rw [hx2] at hc2;have HX : Hid (m1.ac[k]? = some x1 ∧ m2.ac[k]? = some x2) := ⟨by rw [List.getElem?_eq_getElem (by rw [HN.out.1.2]; exact hlt), hx1], by rw [List.getElem?_eq_getElem (by rw [HN.out.2.1.2]; exact hlt), hx2]⟩
    have d0 : ∀ d : BelT wr.heap.size wr, d.val.cell? ⟨w.heap.size, 1, none⟩ = some (.slice (some ⟨g1, f1, none⟩) n1 ca1) := fun d => (HB.out.later d.property).cells.2.1;have d1 : ∀ d : BelT wr.heap.size wr, d.val.cell? ⟨w.heap.size + 1, 1, none⟩ = some (.slice (some ⟨g2, f2, none⟩) n1 ca2) := fun d => (HB.out.later d.property).cells.2.2.2.1;have d2 : ∀ d : BelT wr.heap.size wr, w.heap.size < d.val.heap.size := fun d => (HB.out.later d.property).cells.2.2.2.2.1;have d3 : ∀ d : BelT wr.heap.size wr, w.heap.size + 1 < d.val.heap.size := fun d => (HB.out.later d.property).cells.2.2.2.2.2;have d4 : ∀ d : BelT wr.heap.size wr, d.val.cell? ⟨g1, f1 + k, none⟩ = some (.bool x1) := fun d => ((HB.out.later d.property).bel.cell (p := ⟨g1, f1 + k, none⟩) hg1).trans hc1;have d5 : ∀ d : BelT wr.heap.size wr, d.val.cell? ⟨g2, f2 + k, none⟩ = some (.bool x2) := fun d => ((HB.out.later d.property).bel.cell (p := ⟨g2, f2 + k, none⟩) hg2).trans hc2;have d6 : ∀ d : BelT wr.heap.size wr, g1 < d.val.heap.size := fun d => by have := (HB.out.later d.property).bel.size; omega
    have d7 : ∀ d : BelT wr.heap.size wr, g2 < d.val.heap.size := fun d => by have := (HB.out.later d.property).bel.size; omega
    clear hx1 hx2 hc1 hc2;go_wp2_with fail;refine wp_region_below (Below.refl wr.heap.size wr) (by kernel_rfl) (by kernel_rfl) ?_
    repeat (go_big_quiet_step (fail))
    refine wpQuiet_nil ?_;intro w2 hw';have hw2 : Below wr.heap.size wr w2 := by obtain ⟨d9, rfl⟩ := hw'; exact d9.property
    have HB3 := Lib.hid (HB.out.later hw2);clear hw' d0 d1 d2 d3 d4 d5 d6 d7 hw2;by_cases hxx : x1 = x2
    ·subst hxx
     cases x1
     all_goals
      go_wp2_with fail;go_roundw
      case rel =>
       refine ⟨k + 1, by omega, by go_num, HB3, fun i hi => ?_⟩
       by_cases hik : i = k
       ·subst hik; rw [HX.out.1, HX.out.2]
       ·exact HI.out i (by omega)
      case measure => simp [intOf]; omega
    ·have HF : Hid (false = q) := by
      rw [← HN.out.2.2];refine (decide_eq_false fun e => hxx ?_).symm;have h1 := HX.out.1;rw [e, HX.out.2] at h1;exact (Option.some.inj h1).symm
     cases x1 <;> cases x2
     all_goals first
      | exact absurd rfl hxx
      | (clear hxx
         go_wp2_with fail;go_ret;exact ⟨ret_bool HF.out, HB3.out.bel⟩)
   ·obtain rfl : k = n1 := by omega
    have hd : decide ((k : Int) < (k : Int)) = false := decide_eq_false (by omega)
    have hdn : decide (k < k) = false := decide_eq_false (by omega)
    have HA : Hid (m1.ac = m2.ac) := by
     apply List.ext_getElem?;intro i;by_cases hi : i < k
     ·exact HI.out i hi
     ·rw [List.getElem?_eq_none (by rw [HN.out.1.2]; omega), List.getElem?_eq_none (by rw [HN.out.2.1.2]; omega)]
    clear HI;go_wp2_with fail
    go_loopw [6] (fun v wr => ∃ k2 : Nat, k2 ≤ k ∧ v = .int .i64 (k2 : Int) ∧ Hid (Bx w (.slice Ae1 k ce1) (.slice Aa1 k ca1) (.slice Ae2 k ce2) (.slice Aa2 k ca2) wr) ∧ Hid (∀ i, i < k2 → m1.ed[i]? = m2.ed[i]?)) (fun v _ => k - (intOf v).toNat)
    case atStart => exact ⟨0, by omega, rfl, HB, fun i hi => absurd hi (Nat.not_lt_zero _)⟩
    case round =>
     clear b0 b1 b2 b3 s0 s1 HB;obtain ⟨k2, hk2, rfl, HB, HI⟩ := hrel;obtain ⟨b0, b1, b2, b3, s0, s1⟩ := HB.out.cells;by_cases hlt : k2 < k
     ·have hd : decide ((k2 : Int) < (k : Int)) = true := decide_eq_true (by omega)
      have hdn : decide (k2 < k) = true := decide_eq_true hlt;obtain ⟨g1, f1, rv1, rfl, -, hg1, hc1, hed1⟩ := HE.out.1.at_ (k := k2) (by rw [HN.out.1.1]; exact hlt)
      obtain ⟨g2, f2, rv2, rfl, -, hg2, hc2, hed2⟩ := HE.out.2.1.at_ (k := k2) (by rw [HN.out.2.1.1]; exact hlt)
      obtain ⟨r1, hr1⟩ : ∃ x, m1.ed[k2]'(by rw [HN.out.1.1]; exact hlt) = x := ⟨_, rfl⟩
      obtain ⟨r2, hr2⟩ : ∃ x, m2.ed[k2]'(by rw [HN.out.2.1.1]; exact hlt) = x := ⟨_, rfl⟩
      have hrl1 : r1.length ≤ 10000 := by rw [← hr1]; exact HS.out.1.rl _ (List.getElem_mem _)
      rw [hr1] at hed1;rw [hr2] at hed2;have HX : Hid (m1.ed[k2]? = some r1 ∧ m2.ed[k2]? = some r2) := ⟨by rw [List.getElem?_eq_getElem (by rw [HN.out.1.1]; exact hlt), hr1], by rw [List.getElem?_eq_getElem (by rw [HN.out.2.1.1]; exact hlt), hr2]⟩
      obtain ⟨A1, c1, rfl, hcr1, hcs1⟩ := hed1;obtain ⟨A2, c2, rfl, hcr2, hcs2⟩ := hed2;obtain ⟨L1, hL1⟩ : ∃ n, r1.length = n := ⟨_, rfl⟩;obtain ⟨L2, hL2⟩ : ∃ n, r2.length = n := ⟨_, rfl⟩;rw [hL1] at hc1 hrl1;rw [hL2] at hc2;have HL := Lib.hid (And.intro hL1 hL2);have HCS := Lib.hid (And.intro hcs1 hcs2);have HCC := Lib.hid (And.intro (And.intro hg1 hc1) (And.intro hg2 hc2));have d0 : ∀ d : BelT wr.heap.size wr, d.val.cell? ⟨w.heap.size, 0, none⟩ = some (.slice (some ⟨g1, f1, none⟩) k ce1) := fun d => (HB.out.later d.property).cells.1;have d1 : ∀ d : BelT wr.heap.size wr, d.val.cell? ⟨w.heap.size + 1, 0, none⟩ = some (.slice (some ⟨g2, f2, none⟩) k ce2) := fun d => (HB.out.later d.property).cells.2.2.1;have d2 : ∀ d : BelT wr.heap.size wr, w.heap.size < d.val.heap.size := fun d => (HB.out.later d.property).cells.2.2.2.2.1;have d3 : ∀ d : BelT wr.heap.size wr, w.heap.size + 1 < d.val.heap.size := fun d => (HB.out.later d.property).cells.2.2.2.2.2;have d4 : ∀ d : BelT wr.heap.size wr, d.val.cell? ⟨g1, f1 + k2, none⟩ = some (.slice A1 L1 c1) := fun d => ((HB.out.later d.property).bel.cell (p := ⟨g1, f1 + k2, none⟩) hg1).trans hc1;have d5 : ∀ d : BelT wr.heap.size wr, d.val.cell? ⟨g2, f2 + k2, none⟩ = some (.slice A2 L2 c2) := fun d => ((HB.out.later d.property).bel.cell (p := ⟨g2, f2 + k2, none⟩) hg2).trans hc2;have d6 : ∀ d : BelT wr.heap.size wr, g1 < d.val.heap.size := fun d => by have := (HB.out.later d.property).bel.size; omega
      have d7 : ∀ d : BelT wr.heap.size wr, g2 < d.val.heap.size := fun d => by have := (HB.out.later d.property).bel.size; omega
      clear hr1 hr2 hc1 hc2 hL1 hL2 hcs1 hcs2 hcr1 hcr2;go_wp2_with fail;refine wp_region_below (Below.refl wr.heap.size wr) (by kernel_rfl) (by kernel_rfl) ?_
      repeat (go_big_quiet_step (fail))
      refine wpQuiet_nil ?_;intro w2 hw';have hw2 : Below wr.heap.size wr w2 := by obtain ⟨d9, rfl⟩ := hw'; exact d9.property
      have HB3 := Lib.hid (HB.out.later hw2);clear hw' d0 d1 d2 d3 d4 d5 d6 d7 hw2;by_cases hLL : L1 = L2
      ·subst hLL;go_wp2_with fail
       go_loopw [7] (fun v wr => ∃ j : Nat, j ≤ L1 ∧ v = .int .i64 (j : Int) ∧ Hid (Bx w (.slice (some ⟨g1, f1, none⟩) k ce1) (.slice Aa1 k ca1) (.slice (some ⟨g2, f2, none⟩) k ce2) (.slice Aa2 k ca2) wr) ∧ Hid (∀ i, i < j → r1[i]? = r2[i]?)) (fun v _ => L1 - (intOf v).toNat)
       case atStart => exact ⟨0, by omega, rfl, HB3, fun i hi => absurd hi (Nat.not_lt_zero _)⟩
       case round =>
        clear b0 b1 b2 b3 s0 s1;obtain ⟨j, hj, rfl, HB5, HI5⟩ := hrel;obtain ⟨b0, b1, b2, b3, s0, s1⟩ := HB5.out.cells;have e0 := (HB5.out.bel.cell (p := ⟨g1, f1 + k2, none⟩) HCC.out.1.1).trans HCC.out.1.2;have e1 : g1 < wr.heap.size := by have := HB5.out.bel.size; omega
        by_cases hjl : j < L1
        ·have hdj : decide ((j : Int) < (L1 : Int)) = true := decide_eq_true (by omega)
         have hdjn : decide (j < L1) = true := decide_eq_true hjl;have hj1 : j < r1.length := by rw [HL.out.1]; exact hjl
         have hj2 : j < r2.length := by rw [HL.out.2]; exact hjl
         obtain ⟨p1, o1, rfl, hp1, hq1⟩ := HCS.out.1.resolve_left (by intro e; rw [e] at hj1; simp at hj1)
         obtain ⟨p2, o2, rfl, hp2, hq2⟩ := HCS.out.2.resolve_left (by intro e; rw [e] at hj2; simp at hj2)
         obtain ⟨a0, a1, a2⟩ := hq1 j hj1;obtain ⟨z0, z1, z2⟩ := hq2 j hj2;have HX2 : Hid (r1[j]? = some r1[j] ∧ r2[j]? = some r2[j]) := ⟨List.getElem?_eq_getElem hj1, List.getElem?_eq_getElem hj2⟩;obtain ⟨⟨l1, h1, t1⟩, hx1⟩ : ∃ x, r1[j] = x := ⟨_, rfl⟩;obtain ⟨⟨l2, h2, t2⟩, hx2⟩ : ∃ x, r2[j] = x := ⟨_, rfl⟩;rw [hx1, hx2] at HX2;rw [hx1] at a0 a1 a2;rw [hx2] at z0 z1 z2;simp only at a0 a1 a2 z0 z1 z2;have d0 : ∀ d : BelT wr.heap.size wr, d.val.cell? ⟨w.heap.size, 0, none⟩ = some (.slice (some ⟨g1, f1, none⟩) k ce1) := fun d => (HB5.out.later d.property).cells.1;have d1 : ∀ d : BelT wr.heap.size wr, d.val.cell? ⟨w.heap.size + 1, 0, none⟩ = some (.slice (some ⟨g2, f2, none⟩) k ce2) := fun d => (HB5.out.later d.property).cells.2.2.1;have d2 : ∀ d : BelT wr.heap.size wr, w.heap.size < d.val.heap.size := fun d => (HB5.out.later d.property).cells.2.2.2.2.1;have d3 : ∀ d : BelT wr.heap.size wr, w.heap.size + 1 < d.val.heap.size := fun d => (HB5.out.later d.property).cells.2.2.2.2.2;have d4 : ∀ d : BelT wr.heap.size wr, d.val.cell? ⟨g1, f1 + k2, none⟩ = some (.slice (some ⟨p1, o1, none⟩) L1 c1) := fun d => ((HB5.out.later d.property).bel.cell (p := ⟨g1, f1 + k2, none⟩) HCC.out.1.1).trans HCC.out.1.2;have d5 : ∀ d : BelT wr.heap.size wr, d.val.cell? ⟨g2, f2 + k2, none⟩ = some (.slice (some ⟨p2, o2, none⟩) L1 c2) := fun d => ((HB5.out.later d.property).bel.cell (p := ⟨g2, f2 + k2, none⟩) HCC.out.2.1).trans HCC.out.2.2;have d6 : ∀ d : BelT wr.heap.size wr, g1 < d.val.heap.size := fun d => by have := (HB5.out.later d.property).bel.size; omega
         have d7 : ∀ d : BelT wr.heap.size wr, g2 < d.val.heap.size := fun d => by have := (HB5.out.later d.property).bel.size; omega
         have y0 : ∀ d : BelT wr.heap.size wr, d.val.cell? ⟨p1, o1 + j * 3, none⟩ = some (.int .u8 (l1 : Int)) := fun d => ((HB5.out.later d.property).bel.cell (p := ⟨p1, o1 + j * 3, none⟩) hp1).trans a0;have y1 : ∀ d : BelT wr.heap.size wr, d.val.cell? ⟨p1, o1 + j * 3 + 1, none⟩ = some (.int .u8 (h1 : Int)) := fun d => ((HB5.out.later d.property).bel.cell (p := ⟨p1, o1 + j * 3 + 1, none⟩) hp1).trans a1;have y2 : ∀ d : BelT wr.heap.size wr, d.val.cell? ⟨p1, o1 + j * 3 + 2, none⟩ = some (.int .i64 (t1 : Int)) := fun d => ((HB5.out.later d.property).bel.cell (p := ⟨p1, o1 + j * 3 + 2, none⟩) hp1).trans a2;have y3 : ∀ d : BelT wr.heap.size wr, d.val.cell? ⟨p2, o2 + j * 3, none⟩ = some (.int .u8 (l2 : Int)) := fun d => ((HB5.out.later d.property).bel.cell (p := ⟨p2, o2 + j * 3, none⟩) hp2).trans z0;have y4 : ∀ d : BelT wr.heap.size wr, d.val.cell? ⟨p2, o2 + j * 3 + 1, none⟩ = some (.int .u8 (h2 : Int)) := fun d => ((HB5.out.later d.property).bel.cell (p := ⟨p2, o2 + j * 3 + 1, none⟩) hp2).trans z1;have y5 : ∀ d : BelT wr.heap.size wr, d.val.cell? ⟨p2, o2 + j * 3 + 2, none⟩ = some (.int .i64 (t2 : Int)) := fun d => ((HB5.out.later d.property).bel.cell (p := ⟨p2, o2 + j * 3 + 2, none⟩) hp2).trans z2;have y6 : ∀ d : BelT wr.heap.size wr, p1 < d.val.heap.size := fun d => by have := (HB5.out.later d.property).bel.size; omega
         have y7 : ∀ d : BelT wr.heap.size wr, p2 < d.val.heap.size := fun d => by have := (HB5.out.later d.property).bel.size; omega
         clear a0 a1 a2 z0 z1 z2 hx1 hx2 hq1 hq2;by_cases hz : l1 = l2 ∧ h1 = h2 ∧ t1 = t2
         ·obtain ⟨rfl, rfl, rfl⟩ := hz;have HQ : Hid (r1[j]? = r2[j]?) := by
           rw [HX2.out.1, HX2.out.2]; exact Lib.hid rfl
          go_wp2_with fail;refine wp_region_below (Below.refl wr.heap.size wr) (by kernel_rfl) (by kernel_rfl) ?_
          repeat (go_big_quiet_step (fail))
          refine wpQuiet_nil ?_;intro w2 hw';have hw2 : Below wr.heap.size wr w2 := by obtain ⟨d9, rfl⟩ := hw'; exact d9.property
          have HB6 := Lib.hid (HB5.out.later hw2);clear hw' d0 d1 d2 d3 d4 d5 d6 d7 y0 y1 y2 y3 y4 y5 y6 y7 hw2;go_wp2_with fail;go_roundw
          case rel =>
           refine ⟨j + 1, by omega, by go_num, HB6, fun i hi => ?_⟩
           by_cases hij : i = j
           ·subst hij; exact HQ.out
           ·exact HI5.out i (by omega)
          case measure => simp [intOf]; omega
         ·have HF : Hid (false = q) := by
           rw [← HN.out.2.2];refine (decide_eq_false fun e => hz ?_).symm;have h3 := HX.out.1;rw [e, HX.out.2] at h3;have h4 := HX2.out.1;rw [← Option.some.inj h3, HX2.out.2] at h4;have h5 := Option.some.inj h4;injection h5 with e1 e2 e3;exact ⟨e1.symm, e2.symm, e3.symm⟩
          have hcase : (¬ l1 = l2 ∧ ¬ ((l1 : Int) = (l2 : Int))) ∨ (l1 = l2 ∧ ¬ h1 = h2 ∧ ¬ ((h1 : Int) = (h2 : Int))) ∨ (l1 = l2 ∧ h1 = h2 ∧ ¬ t1 = t2 ∧ ¬ ((t1 : Int) = (t2 : Int))) := by omega
          clear hz;rcases hcase with ⟨z1, z2⟩ | ⟨rfl, z1, z2⟩ | ⟨rfl, rfl, z1, z2⟩
          all_goals
           go_wp2_with fail;refine wp_region_below (Below.refl wr.heap.size wr) (by kernel_rfl) (by kernel_rfl) ?_
           repeat (go_big_quiet_step (fail))
           refine wpQuiet_nil ?_;intro w2 hw';have hw2 : Below wr.heap.size wr w2 := by obtain ⟨d9, rfl⟩ := hw'; exact d9.property
           have HB6 := Lib.hid (HB5.out.later hw2);clear hw' d0 d1 d2 d3 d4 d5 d6 d7 y0 y1 y2 y3 y4 y5 y6 y7 hw2;go_wp2_with fail;go_ret;exact ⟨ret_bool HF.out, HB6.out.bel⟩
        ·obtain rfl : j = L1 := by omega
         have hdj : decide ((j : Int) < (j : Int)) = false := decide_eq_false (by omega)
         have hdjn : decide (j < j) = false := decide_eq_false (by omega)
         have HR : Hid (r1 = r2) := by
          apply List.ext_getElem?;intro i;by_cases hi : i < j
          ·exact HI5.out i hi
          ·rw [List.getElem?_eq_none (by rw [HL.out.1]; omega), List.getElem?_eq_none (by rw [HL.out.2]; omega)]
         clear HI5;go_wp2_with fail;go_roundw
         case rel =>
          refine ⟨k2 + 1, by omega, by go_num, HB5, fun i hi => ?_⟩
          by_cases hik : i = k2
          ·subst hik; rw [HX.out.1, HX.out.2, HR.out]
          ·exact HI.out i (by omega)
         case measure => simp [intOf]; omega
      ·have hdL : (L1 == L2) = false := by simpa using hLL
       have hdLi : ((L1 : Int) == (L2 : Int)) = false := by simp; omega
       have HF : Hid (false = q) := by
        rw [← HN.out.2.2];refine (decide_eq_false fun e => hLL ?_).symm;have h1 := HX.out.1;rw [e, HX.out.2] at h1;rw [← HL.out.1, ← HL.out.2, Option.some.inj h1]
       go_wp2_with fail;go_ret;exact ⟨ret_bool HF.out, HB3.out.bel⟩
     ·obtain rfl : k2 = k := by omega
      have hd : decide ((k2 : Int) < (k2 : Int)) = false := decide_eq_false (by omega)
      have hdn : decide (k2 < k2) = false := decide_eq_false (by omega)
      have HT : Hid (true = q) := by
       rw [← HN.out.2.2];refine (decide_eq_true ?_).symm;have h2 : m1.ed = m2.ed := by
        apply List.ext_getElem?;intro i;by_cases hi : i < k2
        ·exact HI.out i hi
        ·rw [List.getElem?_eq_none (by rw [HN.out.1.1]; omega), List.getElem?_eq_none (by rw [HN.out.2.1.1]; omega)]
       have h1 := HA.out;obtain ⟨x1, y1⟩ := m1;obtain ⟨x2, y2⟩ := m2;simp only at h1 h2;rw [h1, h2]
      go_wp2_with fail;go_ret;exact ⟨ret_bool HT.out, HB.out.bel⟩
 ·have hd : (n1 == n2) = false := by simpa using hnn2
  have hdi : ((n1 : Int) == (n2 : Int)) = false := by simp; omega
  have hdd : decide ((n1 : Int) = (n2 : Int)) = false := decide_eq_false (by omega)
  have HF : Hid (false = q) := by
   rw [← HN.out.2.2];refine (decide_eq_false fun e => hnn2 ?_).symm;rw [← HN.out.1.1, ← HN.out.2.1.1, e]
  have HBB := Lib.hid HB0.out.bel
  go_enter Tryz.func16, Tryz.ntmps16
  go_wp2_with fail;go_ret;exact ⟨ret_bool HF.out, HBB.out⟩
end Go.Proofs.YtjhmipidmpmlmaaGreatDoor
namespace Go.Proofs.YtjhmipidmpmlmaaGreatDoor
set_option linter.unusedVariables false
set_option linter.unusedSimpArgs false
set_option maxRecDepth 100000
open Go.RowKit
open Go.Maps (Keyed)
theorem first_at {α : Type} (p : α → Prop) [DecidablePred p] : ∀ (l : List α), (∃ x ∈ l, p x) → ∃ k, ∃ h : k < l.length, p l[k] ∧ ∀ j, (hj : j < k) → ¬ p (l[j]'(by omega))
 | [], h => by obtain ⟨x, hx, -⟩ := h; cases hx
 | a :: l, h => by
  by_cases ha : p a
  ·exact ⟨0, by simp, ha, fun j hj => absurd hj (Nat.not_lt_zero _)⟩
  ·obtain ⟨k, hk, h1, h2⟩ := first_at p l (by
    obtain ⟨x, hx, hp⟩ := h;rcases List.mem_cons.1 hx with rfl | hx
    ·exact absurd hp ha
    ·exact ⟨x, hx, hp⟩)
   refine ⟨k + 1, by simpa using hk, by simpa using h1, fun j hj => ?_⟩
   cases j with
   | zero => simpa using ha
   | succ j => simpa using h2 j (by omega)
theorem index_cls (B g n c cl : Nat) (cs : List (Option Nat)) (w : World) (h : OR 3 1 clC B (.slice (some ⟨g, 0, none⟩) n c) cs w) (hn : cs.length = n) (hbig : n ≤ 1000000) (hex : ∃ s, s < n ∧ clF cs s = some cl) :
  Calls Tryz.prog 70 #[.slice (some ⟨g, 0, none⟩) n c, .int .i64 (cl : Int)] w fun e w' => ∃ s : Nat, e = .returned (.int .i64 (s : Int)) ∧ w' = w ∧ s < n ∧ clF cs s = some cl := by
 have hz : ∀ j, j < n → (cs.map clV).getD j 0 = clV (clF cs j) := fun j hj => by
  unfold clF;simp only [List.getD_eq_getElem?_getD, List.getElem?_map, List.getElem?_eq_getElem (show j < cs.length by omega), Option.map_some, Option.getD_some]
 have hcell : ∀ j, j < (cs.map clV).length → w.cell? ⟨g, 0 + j, none⟩ = some (.int .i64 ((cs.map clV).getD j 0)) := fun j hj => by
  rw [List.length_map] at hj;rw [Nat.zero_add, hz j (by omega)]
  exact (h.cellC j hj).1
 refine (Tryz.slices_Index_int g 0 n c (cs.map clV) (cl : Int) w (by simp; omega) (by omega) hcell).mono ?_
 rintro e w' ⟨rfl, rfl⟩;obtain ⟨s, hs, hsc⟩ := hex;obtain ⟨k, hk, h1, h2⟩ := first_at (fun x => x = some cl) cs ⟨cs[s]'(by omega), List.getElem_mem _, by
  have := hsc;unfold clF at this;rwa [List.getElem?_eq_getElem (by omega : s < cs.length), Option.getD_some] at this⟩
 have hkc : clF cs k = some cl := by unfold clF; rw [List.getElem?_eq_getElem hk, h1]; rfl
 refine ⟨k, ?_, rfl, by omega, hkc⟩
 rw [Lib.idxOf_hit (cs.map clV) n k (cl : Int) (by omega) (by simp; omega) (by rw [hz k (by omega), hkc]; rfl) fun j hj => ?_]
 rw [hz j (by omega)]
 intro hc;have h3 := h2 j hj;have hjc : clF cs j = cs[j]'(by omega) := by unfold clF; rw [List.getElem?_eq_getElem (by omega : j < cs.length)]; rfl
 rw [hjc] at hc
 cases hq : cs[j]'(by omega) with
 | none => rw [hq] at hc; have h9 : (-1 : Int) = (cl : Int) := hc; omega
 | some y => rw [hq] at hc; have h9 : (y : Int) = (cl : Int) := hc; have h8 : y = cl := by omega
             subst h8; exact h3 hq
def SaysC (F : Lit → Option Value) (c : Nat → Option Nat) (st : List Nat) : Prop := ∀ cl : Nat, F (.int .i64 (cl : Int)) = if some cl ∈ st.map c then some (.int .i64 ((numC c st cl : Nat) : Int)) else none
theorem SaysC.first {c : Nat → Option Nat} {c0 : Nat} (h : c 0 = some c0) : SaysC (updV (fun _ => none) (.int .i64 (c0 : Int)) (some (.int .i64 0))) c [0] := fun cl => by
 unfold updV;by_cases e : cl = c0
 ·subst e;rw [if_pos (by simp [Lit.sameKey]), if_pos (by simp [h])]
  simp [numC, h]
 ·rw [if_neg (by simp [Lit.sameKey]; omega), if_neg (by simp [h]; omega)]
theorem SaysC.put {F : Lit → Option Value} {c : Nat → Option Nat} {st : List Nat} (h : SaysC F c st) {cl s : Nat} (hn : ¬ some cl ∈ st.map c) (hc : c s = some cl) (x : Int) (hx : x = (st.length : Int)) : SaysC (updV F (.int .i64 (cl : Int)) (some (.int .i64 x))) c (st ++ [s]) := fun y => by
 subst hx;unfold updV;by_cases e : y = cl
 ·subst e;rw [if_pos (by simp [Lit.sameKey]), if_pos (by simp [hc]), numC_new hn hc]
 ·rw [if_neg (by simp [Lit.sameKey]; omega), h y]
  by_cases hy : some y ∈ st.map c
  ·rw [if_pos hy, if_pos (by rw [List.map_append]; exact List.mem_append_left _ hy), numC_grow s hy]
  ·rw [if_neg hy, if_neg];intro hm;rw [List.map_append, List.mem_append] at hm;rcases hm with hm | hm
   ·exact hy hm
   ·simp [hc] at hm; exact e hm
theorem wpList_ins_MV {P : Program} (w : World) {ops : Array Oper} {rest : List Oper} {o : Oper} {a : Act} {Q : Exit → Act → World → Prop}
  (hg : o.guard = none) (m x v : Operand) (t : TypeId) (hop : o.op = Op.insert t m x v) (k e : TypeId) (K : Keyed P k) (ht : P.underlying t = some (.map k e)) (b n : Nat) (f : Lit → Option Value)
  (hm : a.eval m = .map (some b)) (h : MV P k b n f w) (hn : n < maxLen) (key val : Value) (kl : Lit) (hx : a.eval x = key) (hv : a.eval v = val) (hkey : keyOf P k key = some kl) (hkl : WideAt.IsKeyLit kl)
  (hK : ∀ w', MV P k b (n + 1) (updV f kl (some val)) w' → w.grownBy w' (some b) → wpList P ops Q rest (a.put o.dst undef) w') :
  wpList P ops Q (o :: rest) a w := by
 refine wpList_plain hg fun K' hK' => ?_;obtain ⟨w', hrun, r1, r2⟩ := h.put K ht hn hkey hkl val;unfold Oper.wp;simp [execOp, hop, hm, hx, hv, hrun, Result.andThen];exact hK' _ _ (hK w' r1 r2)
theorem mv_ne {P : Program} {k e : TypeId} {b n B q n' : Nat} {f : Lit → Option Value} {w : World} {v : Value} {xs : List Value} (h : MV P k b n f w) (ho : w.ownsRow B e q v n' xs) : v.ownBlock ≠ some b := fun hv => by
 obtain ⟨D, ⟨es, c, h1, -⟩, -⟩ := h;obtain ⟨cs, md, h2⟩ := own_type ho b hv;rw [h1] at h2;injection h2 with h2
 cases h2
theorem MkM.sub {B N : Nat} {fx fx' : List Nat} {vE vA : Value} {gv : List Value} {rs : List (List Ed)} {acs : List Bool} {w : World} (h : MkM B N fx vE vA gv rs acs w) (hs : ∀ k ∈ fx', k ∈ fx) : MkM B N fx' vE vA gv rs acs w :=
 h.keep ⟨rfl, rfl, rfl, Nat.le_refl _, fun _ _ _ => rfl, fun k hk => .inl (hs k hk)⟩
structure LeS (m : Mc) (c : Nat → Option Nat) (B N mb i : Nat) (bl : List Nat) (rs : List (List Ed)) (acs : List Bool) (vE vA : Value) (gv : List Value) (p : List Ed) (t : Nat) (st : List Nat) (F : Lit → Option Value) (vst : Value) (w : World) : Prop where
 ma : MkM B N (mb :: (blk vst ++ bl)) vE vA gv rs acs w
 mv : MV Tryz.prog 3 mb st.length F w
 bm : B ≤ mb
 say : SaysC F c st
 own : w.ownsRow B 3 1 vst st.length (ints st)
 le : LeI m c st i rs p t
 ac : acs = (st.take i).map fun s => (m.ac[s]?).getD false
section
variable {m : Mc} {c : Nat → Option Nat} {B N mb i : Nat} {bl : List Nat} {rs : List (List Ed)} {acs : List Bool} {vE vA : Value} {gv : List Value} {p : List Ed} {t : Nat} {st : List Nat} {F : Lit → Option Value} {vst : Value} {w w' : World}
theorem LeS.later (h : LeS m c B N mb i bl rs acs vE vA gv p t st F vst w) (hb : Below w.heap.size w w') : LeS m c B N mb i bl rs acs vE vA gv p t st F vst w' :=
 ⟨h.ma.later hb, h.mv.kept (hb.block _ h.mv.lt), h.bm, h.say, own_later h.own hb, h.le, h.ac⟩
theorem LeS.rowIn (h : LeS m c B N mb i [] rs acs vE vA gv p t st F vst w) (hb : Below w.heap.size w w') (lv : Value) (hl : ∀ g, lv.ownBlock = some g → w.heap.size ≤ g) : LeS m c B N mb i (blk lv) rs acs vE vA gv p t st F vst w' :=
 ⟨h.ma.keep ⟨hb.os, hb.tape, hb.output, hb.size, fun k hk _ => hb.block k hk, fun k hk => by
  rcases List.mem_cons.1 hk with rfl | hk
  ·exact .inl (by simp)
  ·rcases List.mem_append.1 hk with hk | hk
   ·exact .inl (by simp [hk])
   ·exact .inr (hl k (mem_blk.1 hk))⟩, h.mv.kept (hb.block _ h.mv.lt), h.bm, h.say, own_later h.own hb, h.le, h.ac⟩
theorem LeS.rowSet {lv : Value} {g : Nat} {a : Addr} (h : LeS m c B N mb i (blk lv) rs acs vE vA gv p t st F vst w) (hg : lv.ownBlock = some g) (ha : a.block = g) (hcs : ∃ cs md, w.heap[g]? = some (.cells cs 58 md)) (x : Value) {p' : List Ed} (hp : LeI m c st i rs p' t) : LeS m c B N mb i (blk lv) rs acs vE vA gv p' t st F vst (w.setCell a x) := by
 have hset : ∀ k, k ≠ g → (w.setCell a x).heap[k]? = w.heap[k]? := fun k hk => Below.heap_setCell _ _ _ _ (by rw [ha]; exact hk)
 obtain ⟨cs, md, hcs⟩ := hcs;have hm : g ≠ mb := by
  rintro rfl;obtain ⟨D, ⟨es, c, h1, -⟩, -⟩ := h.mv;rw [hcs] at h1;injection h1 with h1
  cases h1
 have hgl := (Array.getElem?_eq_some_iff.1 hcs).1;refine ⟨h.ma.keep ⟨rfl, rfl, rfl, by simp [World.setCell], fun k _ hn => hset k (fun e => hn (by simp [mem_blk, e, hg])), fun k hk => .inl hk⟩, h.mv.kept (hset mb (Ne.symm hm)), h.bm, h.say, own_same h.own fun q hq => hset q ?_, hp, h.ac⟩
 rintro rfl;exact own_ne h.own hcs (by decide) hq
theorem LeS.meet {w1 w2 w3 : World} {lv vst' : Value} {F' : Lit → Option Value} {st' : List Nat} (h : LeS m c B N mb i (blk lv) rs acs vE vA gv p t st F vst w) (hg1 : w.grownBy w1 (some mb)) (hm1 : MV Tryz.prog 3 mb st'.length F' w1)
  (hb2 : Below w1.heap.size w1 w2) (hg3 : w2.grownBy w3 vst.ownBlock) (ho3 : w3.ownsRow B 3 1 vst' st'.length (ints st')) (hf3 : Fresh vst' vst w2.heap.size) (hlv : ∀ g, lv.ownBlock = some g → g < w.heap.size)
  (hs' : SaysC F' c st') {p' : List Ed} (hle : LeI m c st' i rs p' t) (htk : st'.take i = st.take i) : LeS m c B N mb i (blk lv) rs acs vE vA gv p' t st' F' vst' w3 := by
 have hne := mv_ne h.mv h.own;have z1 := hg1.size;have z2 := hb2.size;have z3 := hg3.size;have hmb := h.mv.lt;have hk : KeepF (mb :: (blk vst ++ blk lv)) (mb :: (blk vst' ++ blk lv)) w w3 := by
  refine ⟨hg3.os.trans (hb2.os.trans hg1.os), hg3.tape.trans (hb2.tape.trans hg1.tape), hg3.output.trans (hb2.output.trans hg1.output), by omega, fun k hk hn => ?_, fun k hk => ?_⟩
  ·exact (hg3.block k (by omega) (fun e => hn (by simp [mem_blk, e.symm]))).trans ((hb2.block k (by omega)).trans (hg1.block k hk (fun e => hn (by injection e with e; simp [e]))))
  ·rcases List.mem_cons.1 hk with rfl | hk
   ·exact .inl (by simp)
   ·rcases List.mem_append.1 hk with hk | hk
    ·exact (fresh_keep hf3 (mem_blk.1 hk)).imp (fun h => by simp [mem_blk, h]) (fun h => by omega)
    ·exact .inl (by simp [hk])
 exact ⟨h.ma.keep hk, hm1.kept ((hg3.block mb (by omega) (fun e => hne e.symm)).trans (hb2.block mb (by omega))), h.bm, hs', ho3, hle, by rw [htk]; exact h.ac⟩
end
def LeOK (m m' : Mc) : Prop := ((LiveS m 0 ∧ Canon m' ∧ ∀ w, acF m' w 0 = acF m w 0) ∨ (¬ LiveS m 0 ∧ m' = ⟨[[]], [false]⟩)) ∧ m'.ed.length ≤ m.ed.length ∧ McSm m'
def LePost (m : Mc) (w : World) (e : Ending) (w' : World) : Prop := ∃ rv m', e = .returned rv ∧ McUp w.heap.size w' rv m' ∧ Below w.heap.size w w' ∧ LeOK m m'
theorem ren_set (f : Nat → Nat) (J : List Ed) (k : Nat) (h : k < J.length) : (renE f (J.take k) ++ J.drop k).set k ⟨J[k].lo, J[k].hi, f J[k].to⟩ = renE f (J.take (k + 1)) ++ J.drop (k + 1) := by
 have hl : (renE f (J.take k)).length = k := by rw [renE_len, List.length_take]; omega
 rw [List.set_append_right _ _ (by omega), hl, Nat.sub_self, List.drop_eq_getElem_cons h, List.set_cons_zero, List.take_succ_eq_append_getElem h, renE_snoc, List.append_assoc]
 rfl
theorem ren_at (f : Nat → Nat) (J : List Ed) (k : Nat) (h : k < J.length) : ∃ h2, (renE f (J.take k) ++ J.drop k)[k]'h2 = J[k] := by
 have hl : (renE f (J.take k)).length = k := by rw [renE_len, List.length_take]; omega
 refine ⟨by rw [List.length_append, hl, List.length_drop]; omega, ?_⟩
 rw [List.getElem_append_right (by omega)]
 simp [hl]
theorem ren_len (f : Nat → Nat) (J : List Ed) (k : Nat) (h : k ≤ J.length) : (renE f (J.take k) ++ J.drop k).length = J.length := by
 rw [List.length_append, renE_len, List.length_take, List.length_drop]; omega
theorem LeS.rowDone {m : Mc} {c : Nat → Option Nat} {B N mb i : Nat} {rs : List (List Ed)} {acs : List Bool} {vE vA vE' vA' lv : Value} {gv : List Value} {p : List Ed} {t : Nat} {st : List Nat} {F : Lit → Option Value} {vst : Value} {w w' : World} {B1 s : Nat} {a : Bool}
  (h : LeS m c B N mb i (blk lv) rs acs vE vA gv p t st F vst w) (hB1 : B ≤ B1) (hlv : OR 58 3 edC B1 lv (renE (numC c st) p) w) (hk : KeepF (fpM N vE vA) [] w w')
  (hN : w'.heap[N]? = some (.cells #[vE', vA'] 34 (0, 0))) (hE : w'.ownsRow B 53 1 vE' (rs.length + 1) (gv ++ [lv])) (hA : OR 4 1 bC B vA' (acs ++ [a]) w') (fE : Fresh vE' vE w.heap.size) (fA : Fresh vA' vA w.heap.size)
  (hit : i ≤ t) (hs : st[i]? = some s) (hp : p = joinF c (rowM m s)) (ha : a = (m.ac[s]?).getD false) :
  LeS m c B N mb (i + 1) [] (rs ++ [renE (numC c st) p]) (acs ++ [a]) vE' vA' (gv ++ [lv]) [] (topE t (renE (numC c st) p)) st F vst w' := by
 have hout : outOf (fpM N vE vA) lv := fun g hg hm => h.ma.out g hm (by simp [mem_blk, hg])
 have hx : outOf (mb :: (blk vst ++ [])) lv := fun g hg hm => by
  rcases List.mem_cons.1 hm with rfl | hm
  ·exact mv_ne h.mv (show w.ownsRow _ _ _ _ _ _ from hlv) hg
  ·rw [List.append_nil] at hm;exact own_apart (show w.ownsRow _ _ _ _ _ _ from hlv) h.own (by decide) g hg (mem_blk.1 hm)
 have hl : ∀ g, lv.ownBlock = some g → B ≤ g ∧ g < w.heap.size := fun g hg => ⟨Nat.le_trans hB1 (World.ownsRow.lt hlv g hg).1, (World.ownsRow.lt hlv g hg).2⟩;have hmk := h.ma.sub (fx' := mb :: (blk vst ++ [])) (fun k hk => by
  rw [List.append_nil] at hk;rcases List.mem_cons.1 hk with rfl | hk
  ·simp
  ·simp [hk])
 have hmm : mb ∉ fpM N vE vA := fun hm => hmk.out mb hm (by simp)
 have hvm : ∀ k ∈ blk vst, k ∉ fpM N vE vA := fun k hk hm => hmk.out k hm (by simp [hk])
 obtain ⟨q1, q2⟩ := hmk.put (rs' := rs ++ [renE (numC c st) p]) (fun k hk => by
  rw [List.append_nil] at hk;rcases List.mem_cons.1 hk with rfl | hk
  ·exact h.mv.lt
  ·exact (h.own.lt k (mem_blk.1 hk)).2) hk hN (by rw [List.length_append]; exact hE) hA fE fA (hmk.rowsNew (EdIn.of_OR hlv) hout hx hl)
 refine ⟨q1, h.mv.kept (hk.blk mb h.mv.lt hmm), h.bm, h.say, own_same h.own fun g hg => hk.blk g (h.own.lt g hg).2 (hvm g (mem_blk.2 hg)), h.le.row hit hs hp, ?_⟩;rw [h.ac, ha, List.take_add_one, hs, List.map_append]; rfl
structure LeK (m : Mc) (c : Nat → Option Nat) (N mb i BL : Nat) (rs : List (List Ed)) (acs : List Bool) (vE vA : Value) (gv : List Value) (J : List Ed) (t : Nat) (st : List Nat) (lv : Value) (w1 : World) (kp k : Nat) (st' : List Nat) (F : Lit → Option Value) (vst : Value) (wr : World) : Prop where
 le : LeS m c w1.heap.size N mb i (blk lv) rs acs vE vA gv (J.take kp) t st' F vst wr
 row : OR 58 3 edC BL lv (renE (numC c st') (J.take k) ++ J.drop k) wr
 pre : ∃ more, st' = st ++ more
 bl : Below w1.heap.size w1 wr
 hB : w1.heap.size ≤ BL
section
variable {m : Mc} {c : Nat → Option Nat} {N mb i BL : Nat} {rs : List (List Ed)} {acs : List Bool} {vE vA : Value} {gv : List Value} {J : List Ed} {t : Nat} {st : List Nat} {lv : Value} {w1 : World} {kp k : Nat} {st' : List Nat} {F : Lit → Option Value} {vst : Value} {wr wr' : World}
theorem LeK.later (h : LeK m c N mb i BL rs acs vE vA gv J t st lv w1 kp k st' F vst wr) (hb : Below wr.heap.size wr wr') : LeK m c N mb i BL rs acs vE vA gv J t st lv w1 kp k st' F vst wr' :=
 ⟨h.le.later hb, h.row.later hb, h.pre, h.bl.trans (hb.mono h.bl.size), h.hB⟩
theorem LeK.old (h : LeK m c N mb i BL rs acs vE vA gv J t st lv w1 k k st' F vst wr) (hk : k < J.length) (he : some J[k].to ∈ st'.map c) : LeK m c N mb i BL rs acs vE vA gv J t st lv w1 (k + 1) k st' F vst wr :=
 ⟨⟨h.le.ma, h.le.mv, h.le.bm, h.le.say, h.le.own, by rw [List.take_succ_eq_append_getElem hk]; exact h.le.le.old J[k] he, h.le.ac⟩, h.row, h.pre, h.bl, h.hB⟩
theorem LeK.new {w2 w3 wm : World} {s2 : Nat} {vst' : Value} (h : LeK m c N mb i BL rs acs vE vA gv J t st lv w1 k k st' F vst wr) (hk : k < J.length) (hgm : wr.grownBy wm (some mb)) (hm1 : MV Tryz.prog 3 mb (st'.length + 1) (updV F (.int .i64 (J[k].to : Int)) (some (.int .i64 (st'.length : Int)))) wm)
  (hb2 : Below wm.heap.size wm w2) (hg3 : w2.grownBy w3 vst.ownBlock) (ho3 : w3.ownsRow w1.heap.size 3 1 vst' (st'.length + 1) (ints st' ++ [.int .i64 (s2 : Int)])) (hf3 : Fresh vst' vst w2.heap.size) (hne : ¬ some J[k].to ∈ st'.map c) (hs : s2 < m.ed.length) (hc : c s2 = some J[k].to) :
  LeK m c N mb i BL rs acs vE vA gv J t st lv w1 (k + 1) k (st' ++ [s2]) (updV F (.int .i64 (J[k].to : Int)) (some (.int .i64 (st'.length : Int)))) vst' w3 ∧ numC c (st' ++ [s2]) J[k].to = st'.length := by
 obtain ⟨q1, q2⟩ := h.le.le.new J[k] s2 hne hs hc;have hr : w3.ownsRow w1.heap.size 3 1 vst' (st' ++ [s2]).length (ints (st' ++ [s2])) := by rw [ints_app, List.length_append]; exact ho3
 have hrow : wr.ownsRow _ _ _ _ _ _ := h.row;have hlv : ∀ g, lv.ownBlock = some g → g < wr.heap.size := fun g hg => (World.ownsRow.lt h.row g hg).2;have z1 := hgm.size;have z2 := hb2.size;have z3 := hg3.size;have zb := h.bl.size;have hle := h.le.meet hgm (st' := st' ++ [s2]) (by rw [List.length_append]; exact hm1) hb2 hg3 hr hf3 hlv (h.le.say.put hne hc _ rfl) (by rw [← List.take_succ_eq_append_getElem hk] at q1; exact q1) (List.take_append_of_le_length h.le.le.il)
 refine ⟨⟨hle, ?_, ?_, ?_, h.hB⟩, q2⟩
 ·rw [ren_grow s2 h.le.le.ptg];refine OR.keep h.row fun g hg => (hg3.block g (by have := hlv g hg; omega) fun e => own_apart hrow h.le.own (by decide) g hg e.symm).trans ((hb2.block g (by have := hlv g hg; omega)).trans (hgm.block g (hlv g hg) fun e => mv_ne h.le.mv hrow (by rw [hg, e])))
 ·obtain ⟨more, e⟩ := h.pre;exact ⟨more ++ [s2], by rw [e, List.append_assoc]⟩
 ·exact ((h.bl.grown hgm zb (fun q hq => by injection hq with hq; have := h.le.bm; omega)).trans (hb2.mono (by omega))).grown hg3 (by omega) (fun q hq => (h.le.own.lt q hq).1)
theorem LeK.put {gl cc : Nat} (h : LeK m c N mb i BL rs acs vE vA gv J t st (.slice (some ⟨gl, 0, none⟩) J.length cc) w1 (k + 1) k st' F vst wr) (hk : k < J.length) {x : Int} (hx : x = (numC c st' J[k].to : Int)) :
  LeK m c N mb i BL rs acs vE vA gv J t st (.slice (some ⟨gl, 0, none⟩) J.length cc) w1 (k + 1) (k + 1) st' F vst (wr.setCell ⟨gl, k * 3 + 2, none⟩ (.int .i64 x)) := by
 subst hx;have hrow : wr.ownsRow _ _ _ _ _ _ := h.row;have hgl := (hrow.lt gl rfl).1;have hl := ren_len (numC c st') J k (Nat.le_of_lt hk);obtain ⟨hk2, hat⟩ := ren_at (numC c st') J k hk;refine ⟨h.le.rowSet (g := gl) rfl rfl (own_type hrow gl rfl) _ h.le.le, ?_, h.pre, h.bl.setCell (p := ⟨gl, k * 3 + 2, none⟩) (Nat.le_trans h.hB hgl) _, h.hB⟩;have h1 := h.row;rw [← ren_set _ _ _ hk];have h2 : OR 58 3 edC BL (.slice (some ⟨gl, 0, none⟩) (renE (numC c st') (J.take k) ++ J.drop k).length cc) (renE (numC c st') (J.take k) ++ J.drop k) wr := by rw [hl]; exact h1
 have h3 := h2.setAt edC_E k 2 hk2 (by decide) ⟨J[k].lo, J[k].hi, numC c st' J[k].to⟩ (.int .i64 (numC c st' J[k].to : Int)) (by rw [hat]; rfl)
 rw [hl] at h3;exact h3
theorem LeK.cells {gl cc : Nat} (h : LeK m c N mb i BL rs acs vE vA gv J t st (.slice (some ⟨gl, 0, none⟩) J.length cc) w1 kp k st' F vst wr) (hk : k < J.length) :
  (wr.cell? ⟨gl, k * 3, none⟩ = some (.int .u8 (J[k].lo : Int)) ∧ wr.cell? ⟨gl, k * 3 + 1, none⟩ = some (.int .u8 (J[k].hi : Int)) ∧ wr.cell? ⟨gl, k * 3 + 2, none⟩ = some (.int .i64 (J[k].to : Int))) ∧ wr.frozen? ⟨gl, k * 3 + 2, none⟩ = false ∧ gl < wr.heap.size := by
 obtain ⟨hk2, hat⟩ := ren_at (numC c st') J k hk;obtain ⟨A, c', e, -, hor⟩ := h.row.cells edC_E;obtain ⟨g', hA, -, hg, hcc⟩ := hor.resolve_left (by intro e2; rw [e2] at hk2; cases hk2)
 injection e with e1 _ _;rw [hA] at e1;injection e1 with e1;injection e1 with e1;subst e1;have h0 := (hcc k hk2 0 (by decide)).1
 have h1 := (hcc k hk2 1 (by decide)).1
 obtain ⟨h2, f2⟩ := hcc k hk2 2 (by decide)
 rw [hat] at h0 h1 h2;exact ⟨⟨h0, h1, h2⟩, f2, hg⟩
theorem LeS.begin {lv : Value} {w' : World} {vst : Value} (h : LeS m c w1.heap.size N mb i [] rs acs vE vA gv [] t st F vst wr) (hb : Below wr.heap.size wr w') (hbl : Below w1.heap.size w1 wr) (ho : OR 58 3 edC wr.heap.size lv J w') : LeK m c N mb i wr.heap.size rs acs vE vA gv J t st lv w1 0 0 st F vst w' :=
 ⟨h.rowIn hb lv fun g hg => (World.ownsRow.lt ho g hg).1, by simpa [renE] using ho, ⟨[], by simp⟩, hbl.trans (hb.mono hbl.size), hbl.size⟩
end
end Go.Proofs.YtjhmipidmpmlmaaGreatDoor
namespace Go.Proofs.YtjhmipidmpmlmaaGreatDoor
set_option linter.unusedVariables false
set_option linter.unusedSimpArgs false
set_option maxRecDepth 100000
open Go.RowKit
structure EdZ where
 lo : Nat
 hi : Nat
 to : Int
structure Mz where
 ed : List (List EdZ)
 ac : List Bool
def EdInZ (w : World) (v : Value) (l : List EdZ) : Prop := ∃ A c, v = .slice A l.length c ∧ (l.length ≤ c ∧ c ≤ 9223372036854775807) ∧ (l = [] ∨ ∃ g f, A = some ⟨g, f, none⟩ ∧ g < w.heap.size ∧ ∀ i (h : i < l.length), (w.cell? ⟨g, f + i * 3, none⟩ = some (.int .u8 (l[i].lo : Int)) ∧ w.cell? ⟨g, f + i * 3 + 1, none⟩ = some (.int .u8 (l[i].hi : Int)) ∧ w.cell? ⟨g, f + i * 3 + 2, none⟩ = some (.int .i64 l[i].to)) ∧ l[i].lo < 256 ∧ l[i].hi < 256 ∧ -9223372036854775808 ≤ l[i].to ∧ l[i].to < 9223372036854775808)
def EsInZ (w : World) (v : Value) (l : List (List EdZ)) : Prop := ∃ A c, v = .slice A l.length c ∧ (l.length ≤ c ∧ c ≤ 9223372036854775807) ∧ (l = [] ∨ ∃ g f, A = some ⟨g, f, none⟩ ∧ g < w.heap.size ∧ ∀ i (h : i < l.length), ∃ rv, w.cell? ⟨g, f + i, none⟩ = some rv ∧ EdInZ w rv l[i])
def McInZ (w : World) (v : Value) (m : Mz) : Prop := ∃ ve va, v = .agg #[ve, va] ∧ EsInZ w ve m.ed ∧ BlIn w va m.ac
theorem EdInZ.later {w w' : World} {v : Value} {l : List EdZ} (h : EdInZ w v l) (hb : Below w.heap.size w w') : EdInZ w' v l := by
 obtain ⟨A, c, e, hc, h⟩ := h;refine ⟨A, c, e, hc, h.imp id ?_⟩;rintro ⟨g, f, h1, hg, hcell⟩;refine ⟨g, f, h1, Nat.lt_of_lt_of_le hg hb.size, fun i hi => ?_⟩;obtain ⟨⟨q0, q1, q2⟩, q3⟩ := hcell i hi;exact ⟨⟨(hb.cell (p := ⟨g, f + i * 3, none⟩) hg).trans q0, (hb.cell (p := ⟨g, f + i * 3 + 1, none⟩) hg).trans q1, (hb.cell (p := ⟨g, f + i * 3 + 2, none⟩) hg).trans q2⟩, q3⟩
theorem EsInZ.later {w w' : World} {v : Value} {l : List (List EdZ)} (h : EsInZ w v l) (hb : Below w.heap.size w w') : EsInZ w' v l := by
 obtain ⟨A, c, e, hc, h⟩ := h;refine ⟨A, c, e, hc, h.imp id ?_⟩;rintro ⟨g, f, h1, hg, hcell⟩;refine ⟨g, f, h1, Nat.lt_of_lt_of_le hg hb.size, fun i hi => ?_⟩;obtain ⟨rv, h2, h3⟩ := hcell i hi;exact ⟨rv, (hb.cell (p := ⟨g, f + i, none⟩) hg).trans h2, h3.later hb⟩
theorem McInZ.later {w w' : World} {v : Value} {m : Mz} (h : McInZ w v m) (hb : Below w.heap.size w w') : McInZ w' v m := by
 obtain ⟨ve, va, e, h1, h2⟩ := h;exact ⟨ve, va, e, h1.later hb, h2.later hb⟩
theorem EsInZ.form {w : World} {v : Value} {l : List (List EdZ)} (h : EsInZ w v l) : ∃ A c, v = .slice A l.length c ∧ (l.length ≤ c ∧ c ≤ 9223372036854775807) := by
 obtain ⟨A, c, e, hc, -⟩ := h; exact ⟨A, c, e, hc⟩
theorem EsInZ.at_ {w : World} {A : Option Addr} {n c : Nat} {l : List (List EdZ)} (h : EsInZ w (.slice A n c) l) {k : Nat} (hk : k < l.length) : ∃ g f rv, A = some ⟨g, f, none⟩ ∧ n = l.length ∧ g < w.heap.size ∧ w.cell? ⟨g, f + k, none⟩ = some rv ∧ EdInZ w rv l[k] := by
 obtain ⟨A', c', e, hc, h⟩ := h;injection e with e1 e2 e3;rcases h with rfl | ⟨g, f, h1, hg, h2⟩
 ·cases hk
 ·obtain ⟨rv, h3, h4⟩ := h2 k hk;exact ⟨g, f, rv, e1.trans h1, e2, hg, h3, h4⟩
theorem mcz_form {w : World} {v : Value} {m : Mz} (h : McInZ w v m) : ∃ Ae ce Aa ca, v = .agg #[.slice Ae m.ed.length ce, .slice Aa m.ac.length ca] ∧ (m.ed.length ≤ ce ∧ ce ≤ 9223372036854775807) ∧ (m.ac.length ≤ ca ∧ ca ≤ 9223372036854775807) := by
 obtain ⟨ve, va, rfl, he, ha⟩ := h;obtain ⟨Ae, ce, rfl, h1⟩ := he.form;obtain ⟨Aa, ca, rfl, h2⟩ := ha.form;exact ⟨Ae, ce, Aa, ca, rfl, h1, h2⟩
def edOK (n : Nat) (r : List EdZ) (j : Nat) : Prop := ∀ (h : j < r.length), r[j].lo ≤ r[j].hi ∧ 0 ≤ r[j].to ∧ r[j].to < (n : Int) ∧ ∀ p (hp : p + 1 = j), (r[p]'(by omega)).hi < r[j].lo
structure VldZ (m : Mz) : Prop where
 n1 : 1 ≤ m.ed.length
 n2 : m.ed.length ≤ 2000
 ac : m.ac.length = m.ed.length
 row : ∀ k (h : k < m.ed.length), ∀ j, j < m.ed[k].length → edOK m.ed.length m.ed[k] j
noncomputable def vldZ (m : Mz) : Bool := @decide (VldZ m) (Classical.propDecidable _)
theorem vldZ_true {m : Mz} (h : VldZ m) : vldZ m = true := by unfold vldZ; exact @decide_eq_true _ (Classical.propDecidable _) h
theorem vldZ_false {m : Mz} (h : ¬ VldZ m) : vldZ m = false := by unfold vldZ; exact @decide_eq_false _ (Classical.propDecidable _) h
theorem vldZ_iff {m : Mz} : vldZ m = true ↔ VldZ m := by
 constructor
 ·intro h;by_cases hv : VldZ m
  ·exact hv
  ·rw [vldZ_false hv] at h; cases h
 ·exact vldZ_true
def cvE (e : EdZ) : Ed := ⟨e.lo, e.hi, e.to.toNat⟩
def cvM (m : Mz) : Mc := ⟨m.ed.map (·.map cvE), m.ac⟩
theorem sort_of_adj : ∀ {r : List Ed} {b : Nat}, (∀ (h : 0 < r.length), b ≤ r[0].lo) → (∀ i (hi : i < r.length), r[i].lo ≤ r[i].hi ∧ ∀ j (hj : j + 1 = i), (r[j]'(by omega)).hi < r[i].lo) → SortE b r
 | [], b, _, _ => trivial
 | e :: r, b, h0, h => by
  refine ⟨h0 (by simp), (h 0 (by simp)).1, sort_of_adj (fun hl => ?_) fun i hi => ⟨?_, fun j hj => ?_⟩⟩
  ·exact (h 1 (by simpa using hl)).2 0 rfl
  ·exact (h (i + 1) (by simpa using hi)).1
  ·exact (h (i + 1) (by simpa using hi)).2 (j + 1) (by omega)
theorem VldZ.vld {m : Mz} (h : VldZ m) : Vld (cvM m) := by
 have hl : (cvM m).ed.length = m.ed.length := by simp [cvM]
 refine ⟨by rw [hl]; exact h.ac, fun r hr => ?_, fun r hr e he => ?_⟩
 ·obtain ⟨r', hr', rfl⟩ := List.mem_map.1 hr;obtain ⟨k, hk, rfl⟩ := List.getElem_of_mem hr';refine sort_of_adj (fun _ => Nat.zero_le _) fun i hi => ?_;have hi' : i < m.ed[k].length := by simpa using hi
  have q := h.row k hk i hi' hi';refine ⟨by simpa [cvE] using q.1, fun j hj => by simpa [cvE] using q.2.2.2 j hj⟩
 ·obtain ⟨r', hr', rfl⟩ := List.mem_map.1 hr;obtain ⟨k, hk, rfl⟩ := List.getElem_of_mem hr';obtain ⟨e', he', rfl⟩ := List.mem_map.1 he;obtain ⟨i, hi, rfl⟩ := List.getElem_of_mem he';have q := h.row k hk i hi hi;rw [hl];show (m.ed[k][i]).to.toNat < _;omega
theorem McInZ.cv {w : World} {v : Value} {m : Mz} (h : McInZ w v m) (hv : VldZ m) : McIn w v (cvM m) := by
 obtain ⟨ve, va, rfl, ⟨A, c, rfl, hc, h1⟩, h2⟩ := h;refine ⟨_, va, rfl, ⟨A, c, by simp [cvM], by simpa [cvM] using hc, ?_⟩, h2⟩
 rcases h1 with h1 | ⟨g, f, rfl, hg, hcell⟩
 ·exact .inl (by simp [cvM, h1])
 ·refine .inr ⟨g, f, rfl, hg, fun i hi => ?_⟩;have hi' : i < m.ed.length := by simpa [cvM] using hi
  obtain ⟨rv, q1, A', c', rfl, hc', q2⟩ := hcell i hi';have he : (cvM m).ed[i] = m.ed[i].map cvE := by simp [cvM]
  refine ⟨_, q1, ?_⟩;rw [he];refine ⟨A', c', by rw [List.length_map], by rw [List.length_map]; exact hc', ?_⟩
  rcases q2 with q2 | ⟨g2, f2, rfl, hg2, q3⟩
  ·exact .inl (by simp [q2])
  ·refine .inr ⟨g2, f2, rfl, hg2, fun j hj => ?_⟩;have hj' : j < m.ed[i].length := by simpa using hj
   obtain ⟨⟨p0, p1, p2⟩, -⟩ := q3 j hj';have hto := (hv.row i hi' j hj' hj').2.1;rw [List.getElem_map];refine ⟨p0, p1, ?_⟩;rw [p2];show some (Value.int .i64 _) = some (.int .i64 ((m.ed[i][j].to.toNat : Nat) : Int));rw [Int.toNat_of_nonneg hto]
theorem McInZ.sm {w : World} {v : Value} {m : Mz} (h : McInZ w v m) (hl : m.ed.length ≤ 2000) (hr : ∀ r ∈ m.ed, r.length ≤ 10000) : McSm (cvM m) := by
 obtain ⟨ve, va, rfl, ⟨A, c, rfl, hc, h1⟩, h2⟩ := h;refine ⟨fun r hr0 e he => ?_, fun r hr0 => ?_, by simp [cvM]; omega⟩
 ·obtain ⟨r', hr', rfl⟩ := List.mem_map.1 hr0;obtain ⟨k, hk, rfl⟩ := List.getElem_of_mem hr';obtain ⟨e', he', rfl⟩ := List.mem_map.1 he;obtain ⟨i, hi, rfl⟩ := List.getElem_of_mem he';rcases h1 with h1 | ⟨g, f, rfl, hg, hcell⟩
  ·rw [h1] at hk; exact absurd hk (Nat.not_lt_zero _)
  ·obtain ⟨rv, q1, A', c', rfl, hc', q2⟩ := hcell k hk;rcases q2 with q2 | ⟨g2, f2, rfl, hg2, q3⟩
   ·rw [q2] at hi; exact absurd hi (Nat.not_lt_zero _)
   ·obtain ⟨-, p1, p2, -⟩ := q3 i hi;exact ⟨p1, p2⟩
 ·obtain ⟨r', hr', rfl⟩ := List.mem_map.1 hr0;rw [List.length_map]; exact hr r' hr'
theorem vz_bad {m : Mz} {k j n : Nat} {row : List EdZ} (hn : m.ed.length = n) (hk : m.ed[k]? = some row) (hj : j < row.length) (h : ¬ edOK n row j) : ¬ VldZ m := fun hv => h (by
 obtain ⟨h1, rfl⟩ := List.getElem?_eq_some_iff.1 hk;subst hn;exact hv.row k h1 j hj)
theorem vz_good {m : Mz} {n : Nat} (hn : m.ed.length = n) (h1 : 1 ≤ n) (h2 : n ≤ 2000) (ha : m.ac.length = n) (h : ∀ k row, k < n → m.ed[k]? = some row → ∀ j, j < row.length → edOK n row j) : VldZ m := by
 subst hn;exact ⟨h1, h2, ha, fun k hk j hj => h k _ hk (List.getElem?_eq_getElem hk) j hj⟩
theorem ed_bad1 {n j : Nat} {row : List EdZ} (hj : j < row.length) {lo hi : Nat} {to : Int} (he : row[j] = ⟨lo, hi, to⟩) (h : ¬ (lo ≤ hi ∧ 0 ≤ to ∧ to < (n : Int))) : ¬ edOK n row j := fun q => by
 have := q hj;rw [he] at this;exact h ⟨this.1, this.2.1, this.2.2.1⟩
theorem ed_bad2 {n j p : Nat} {row : List EdZ} (hj : j < row.length) {lo hi : Nat} {to : Int} (he : row[j] = ⟨lo, hi, to⟩) (hp : p + 1 = j) {ph : Nat} (hph : (row[p]'(by omega)).hi = ph) (h : lo ≤ ph) : ¬ edOK n row j := fun q => by
 have := q hj;rw [he] at this;have h2 := this.2.2.2 p hp;rw [hph] at h2;simp only at h2;omega
theorem ed_good {n j : Nat} {row : List EdZ} (hj : j < row.length) {lo hi : Nat} {to : Int} (he : row[j] = ⟨lo, hi, to⟩) (h1 : lo ≤ hi) (h2 : 0 ≤ to) (h3 : to < (n : Int)) (h4 : ∀ p (hp : p + 1 = j), (row[p]'(by omega)).hi < lo) : edOK n row j := fun _ => by
 rw [he];exact ⟨h1, h2, h3, fun p hp => h4 p hp⟩
structure AtJ (row : List EdZ) (j lo hi : Nat) (to : Int) : Prop where
 lt : j < row.length
 eq : row[j] = ⟨lo, hi, to⟩
set_option maxHeartbeats 8000000 in
theorem mvalidz_any (v : Value) (m : Mz) (w : World) (hm : McInZ w v m) (hrl : ∀ r ∈ m.ed, r.length ≤ 4611686018427387904) :
  Calls Tryz.prog 27 #[v] w fun e w' => e = .returned (.bool (vldZ m)) ∧ Below w.heap.size w w' := by
 obtain ⟨Ae, ce, Aa, ca, rfl, ⟨hce1, hce2⟩, hca1, hca2⟩ := mcz_form hm;obtain ⟨he, ha⟩ : EsInZ w (.slice Ae m.ed.length ce) m.ed ∧ BlIn w (.slice Aa m.ac.length ca) m.ac := by
  obtain ⟨ve, va, e, h1, h2⟩ := hm;injection e with e;simp only [Array.mk.injEq, List.cons.injEq, and_true] at e;obtain ⟨rfl, rfl⟩ := e;exact ⟨h1, h2⟩
 obtain ⟨n, hn⟩ : ∃ n, m.ed.length = n := ⟨_, rfl⟩;obtain ⟨na, hna⟩ : ∃ n, m.ac.length = n := ⟨_, rfl⟩;obtain ⟨q, hq⟩ : ∃ q, vldZ m = q := ⟨_, rfl⟩;have HE := Lib.hid he;have HQ := Lib.hid hq;have HN := Lib.hid (And.intro hn hna);have HRL := Lib.hid hrl;rw [hn] at hce1;rw [hna] at hca1;rw [hq, hn, hna];have hb0 : Below w.heap.size w (w.alloc (.cells #[.slice Ae n ce, .slice Aa na ca] 34)) := (Below.refl _ _).alloc (Nat.le_refl _) _;have HB0 := Lib.hid hb0;clear he ha hn hna hm hq hrl hb0;by_cases h1 : n < 1
 ·have hd1 : decide (n < 1) = true := decide_eq_true h1;have hd1i : decide ((n : Int) < 1) = true := decide_eq_true (by omega)
  go_enter Tryz.func27, Tryz.ntmps27
  go_wp2_with fail;go_ret;exact ⟨by rw [← HQ.out, vldZ_false (fun hv => by have := hv.n1; have := HN.out.1; omega)]; rfl, HB0.out⟩
 have hd1 : decide (n < 1) = false := decide_eq_false h1;have hd1i : decide ((n : Int) < 1) = false := decide_eq_false (by omega)
 by_cases h2 : 2000 < n
 ·have hd2 : decide (2000 < n) = true := decide_eq_true h2;have hd2i : decide (2000 < (n : Int)) = true := decide_eq_true (by omega)
  go_enter Tryz.func27, Tryz.ntmps27
  go_wp2_with fail;go_ret;exact ⟨by rw [← HQ.out, vldZ_false (fun hv => by have := hv.n2; have := HN.out.1; omega)]; rfl, HB0.out⟩
 have hd2 : decide (2000 < n) = false := decide_eq_false h2;have hd2i : decide (2000 < (n : Int)) = false := decide_eq_false (by omega)
 by_cases hne : ¬ na = n
 ·have hd3 : decide (na = n) = false := decide_eq_false hne;have hd3i : decide ((na : Int) = (n : Int)) = false := decide_eq_false (by omega)
  have hd3b : ((na : Int) == (n : Int)) = false := by rw [beq_eq_false_iff_ne]; omega
  have hd3n : (na == n) = false := by rw [beq_eq_false_iff_ne]; exact hne
  go_enter Tryz.func27, Tryz.ntmps27
  go_wp2_with fail;go_ret;exact ⟨by rw [← HQ.out, vldZ_false (fun hv => by have := hv.ac; have := HN.out.1; have := HN.out.2; omega)]; rfl, HB0.out⟩
 have hne2 : n = na := (Decidable.not_not.1 hne).symm;subst hne2;clear hne
 go_enter Tryz.func27, Tryz.ntmps27
 go_wp2_with fail
 go_loopw [27] (fun v wr => ∃ k : Nat, k ≤ n ∧ v = .int .i64 (k : Int) ∧ Hid (Below w.heap.size w wr ∧ ∀ i row, i < k → m.ed[i]? = some row → ∀ j, j < row.length → edOK n row j)) (fun v _ => n - (intOf v).toNat)
 case atStart => exact ⟨0, by omega, rfl, HB0.out, fun i row hi => absurd hi (Nat.not_lt_zero _)⟩
 case round =>
  obtain ⟨k, hk, rfl, HB⟩ := hrel;by_cases hlt : k < n
  ·have hd : decide ((k : Int) < (n : Int)) = true := decide_eq_true (by omega)
   have hdn : decide (k < n) = true := decide_eq_true hlt;have hkm : k < m.ed.length := by rw [HN.out.1]; exact hlt
   obtain ⟨g, f, rv, rfl, -, hg, hcE, hed⟩ := HE.out.at_ hkm;have hcE2 := (HB.out.1.cell (p := ⟨g, f + k, none⟩) hg).trans hcE;have HK0 := List.getElem?_eq_getElem hkm;obtain ⟨row, hrow⟩ : ∃ r, m.ed[k] = r := ⟨_, rfl⟩;rw [hrow] at hed HK0;have HK := Lib.hid HK0;have hrl : row.length ≤ 4611686018427387904 := HRL.out _ (by rw [← hrow]; exact List.getElem_mem hkm)
   obtain ⟨Ar, cr, rfl, hrc, hrcell⟩ := hed;obtain ⟨L, hL⟩ : ∃ L, row.length = L := ⟨_, rfl⟩;rw [hL] at hrc hcE hcE2 hrl;have HR := Lib.hid hL;have HRC := Lib.hid hrcell;have hgw : g < wr.heap.size := by have := HB.out.1.size; omega
   clear hL hrcell hrow hkm hcE HK0;go_wp2_with fail
   go_loopw [33] (fun v wr => ∃ j : Nat, j ≤ L ∧ v = .int .i64 (j : Int) ∧ Hid (Below w.heap.size w wr ∧ ∀ i, i < j → edOK n row i)) (fun v _ => L - (intOf v).toNat)
   case atStart => exact ⟨0, by omega, rfl, HB.out.1, fun i hi => absurd hi (Nat.not_lt_zero _)⟩
   case round =>
    obtain ⟨j, hj, rfl, HB2⟩ := hrel;by_cases hjl : j < L
    ·skip
     have hdj : decide ((j : Int) < (L : Int)) = true := decide_eq_true (by omega)
     have hdjn : decide (j < L) = true := decide_eq_true hjl;have hjm : j < row.length := by rw [HR.out]; exact hjl
     obtain ⟨g2, f2, rfl, hg2, hcs⟩ := HRC.out.resolve_left (by intro e; rw [e] at hjm; simp at hjm)
     obtain ⟨⟨p0, p1, p2⟩, -⟩ := hcs j hjm;obtain ⟨⟨lo, hi, to⟩, he⟩ : ∃ e, row[j] = e := ⟨_, rfl⟩;rw [he] at p0 p1 p2;simp only at p0 p1 p2;have HJ : Hid (AtJ row j lo hi to) := ⟨hjm, he⟩;have HCS := Lib.hid hcs;have q0 := (HB2.out.1.cell (p := ⟨g2, f2 + j * 3, none⟩) hg2).trans p0;have q1 := (HB2.out.1.cell (p := ⟨g2, f2 + j * 3 + 1, none⟩) hg2).trans p1;have q2 := (HB2.out.1.cell (p := ⟨g2, f2 + j * 3 + 2, none⟩) hg2).trans p2;have hgw2 : g2 < wr.heap.size := by have := HB2.out.1.size; omega
     clear p0 p1 p2 hcs he;go_wp2_with fail;refine wp_named fun W hW => ?_;have hbW : Below wr.heap.size wr W := by rw [hW]; exact (Below.refl _ _).alloc (Nat.le_refl _) _
     have hrow : W.heap[wr.heap.size]? = some (.cells #[.int .u8 (lo : Int), .int .u8 (hi : Int), .int .i64 to] 58 (0, 0)) := by rw [hW]; exact heap_alloc_new wr _
     have hzW : W.heap.size = wr.heap.size + 1 := by rw [hW]; simp
     have hd0 : ∀ d : BelT W.heap.size W, d.val.cell? ⟨wr.heap.size, 0, none⟩ = some (.int .u8 (lo : Int)) := fun d => by
      rw [cell_of_row _ _ _ _ _ _ ((d.property.block wr.heap.size (by omega)).trans hrow)]; rfl
     have hd1 : ∀ d : BelT W.heap.size W, d.val.cell? ⟨wr.heap.size, 1, none⟩ = some (.int .u8 (hi : Int)) := fun d => by
      rw [cell_of_row _ _ _ _ _ _ ((d.property.block wr.heap.size (by omega)).trans hrow)]; rfl
     have hd2 : ∀ d : BelT W.heap.size W, d.val.cell? ⟨wr.heap.size, 2, none⟩ = some (.int .i64 to) := fun d => by
      rw [cell_of_row _ _ _ _ _ _ ((d.property.block wr.heap.size (by omega)).trans hrow)]; rfl
     have hd3 : ∀ d : BelT W.heap.size W, wr.heap.size < d.val.heap.size := fun d => by have := d.property.size; omega
     have HBW := Lib.hid (HB2.out.1.trans (hbW.mono HB2.out.1.size));clear hrow hbW hW q0 q1 q2 hcE2;by_cases ha : hi < lo
     ·have t1 : decide ((hi : Int) < (lo : Int)) = true := decide_eq_true (by omega)
      have t1n : decide (hi < lo) = true := decide_eq_true ha;refine wp_region_below (Below.refl W.heap.size W) (by kernel_rfl) (by kernel_rfl) ?_
      repeat (go_big_quiet_step (fail))
      refine wpQuiet_nil ?_;intro w2 hw';have hw2 : Below W.heap.size W w2 := by obtain ⟨d9, rfl⟩ := hw'; exact d9.property
      have HB3 := Lib.hid (HBW.out.trans (hw2.mono HBW.out.size));clear hw' hw2 hd0 hd1 hd2 hd3;go_wp2_with fail;go_ret;exact ⟨by rw [← HQ.out, vldZ_false (vz_bad HN.out.1 HK.out HJ.out.lt (ed_bad1 HJ.out.lt HJ.out.eq (fun q => by omega)))]; rfl, HB3.out⟩
     have t1 : decide ((hi : Int) < (lo : Int)) = false := decide_eq_false (by omega)
     have t1n : decide (hi < lo) = false := decide_eq_false ha;by_cases hb : to < 0
     ·have t2 : decide (to < 0) = true := decide_eq_true hb;refine wp_region_below (Below.refl W.heap.size W) (by kernel_rfl) (by kernel_rfl) ?_
      repeat (go_big_quiet_step (fail))
      refine wpQuiet_nil ?_;intro w2 hw';have hw2 : Below W.heap.size W w2 := by obtain ⟨d9, rfl⟩ := hw'; exact d9.property
      have HB3 := Lib.hid (HBW.out.trans (hw2.mono HBW.out.size));clear hw' hw2 hd0 hd1 hd2 hd3;go_wp2_with fail;go_ret;exact ⟨by rw [← HQ.out, vldZ_false (vz_bad HN.out.1 HK.out HJ.out.lt (ed_bad1 HJ.out.lt HJ.out.eq (fun q => by omega)))]; rfl, HB3.out⟩
     have t2 : decide (to < 0) = false := decide_eq_false hb;by_cases hc : (n : Int) ≤ to
     ·have t3 : decide ((n : Int) ≤ to) = true := decide_eq_true hc;refine wp_region_below (Below.refl W.heap.size W) (by kernel_rfl) (by kernel_rfl) ?_
      repeat (go_big_quiet_step (fail))
      refine wpQuiet_nil ?_;intro w2 hw';have hw2 : Below W.heap.size W w2 := by obtain ⟨d9, rfl⟩ := hw'; exact d9.property
      have HB3 := Lib.hid (HBW.out.trans (hw2.mono HBW.out.size));clear hw' hw2 hd0 hd1 hd2 hd3;go_wp2_with fail;go_ret;exact ⟨by rw [← HQ.out, vldZ_false (vz_bad HN.out.1 HK.out HJ.out.lt (ed_bad1 HJ.out.lt HJ.out.eq (fun q => by omega)))]; rfl, HB3.out⟩
     have t3 : decide ((n : Int) ≤ to) = false := decide_eq_false hc;by_cases hj0 : 0 < j
     ·have t4 : decide (0 < (j : Int)) = true := decide_eq_true (by omega)
      have t4n : decide (0 < j) = true := decide_eq_true hj0;obtain ⟨p, hp⟩ : ∃ p, p + 1 = j := ⟨j - 1, by omega⟩
      have hw : IntKind.i64.wrap ((j : Int) - 1) = (p : Int) := by rw [IntWalk.i64_in _ (by omega)]; omega
      have hw2 : ((j : Int) - 1) = (p : Int) := by omega
      have hpl : p < L := by omega
      have t5 : decide (p < L) = true := decide_eq_true hpl;have hpl2 : p < row.length := by rw [HR.out]; exact hpl
      obtain ⟨⟨-, p1, -⟩, -⟩ := HCS.out p hpl2;obtain ⟨ph, hph⟩ : ∃ x, (row[p]'hpl2).hi = x := ⟨_, rfl⟩;rw [hph] at p1;have hd4 : ∀ d : BelT W.heap.size W, d.val.cell? ⟨g2, f2 + p * 3 + 1, none⟩ = some (.int .u8 (ph : Int)) := fun d => ((HBW.out.trans (d.property.mono HBW.out.size)).cell (p := ⟨g2, f2 + p * 3 + 1, none⟩) hg2).trans p1;have hd5 : ∀ d : BelT W.heap.size W, g2 < d.val.heap.size := fun d => by have := d.property.size; omega
      have HPH := Lib.hid (And.intro hp hph);clear hp p1 hph;by_cases hle : lo ≤ ph
      ·have t6 : decide ((lo : Int) ≤ (ph : Int)) = true := decide_eq_true (by omega)
       have t6n : decide (lo ≤ ph) = true := decide_eq_true hle;refine wp_region_below (Below.refl W.heap.size W) (by kernel_rfl) (by kernel_rfl) ?_
       repeat (go_big_quiet_step (fail))
       refine wpQuiet_nil ?_;intro w2 hw';have hw2 : Below W.heap.size W w2 := by obtain ⟨d9, rfl⟩ := hw'; exact d9.property
       have HB3 := Lib.hid (HBW.out.trans (hw2.mono HBW.out.size));clear hw' hw2 hd0 hd1 hd2 hd3 hd4 hd5;go_wp2_with fail;go_ret;exact ⟨by rw [← HQ.out, vldZ_false (vz_bad HN.out.1 HK.out HJ.out.lt (ed_bad2 HJ.out.lt HJ.out.eq HPH.out.1 HPH.out.2 hle))]; rfl, HB3.out⟩
      have t6 : decide ((lo : Int) ≤ (ph : Int)) = false := decide_eq_false (by omega)
      have t6n : decide (lo ≤ ph) = false := decide_eq_false hle;have HG := Lib.hid (ed_good HJ.out.lt HJ.out.eq (by omega) (by omega) (show to < (n : Int) by omega) (fun p' hp' => by have h1 := HPH.out.1; have h2 := HPH.out.2; obtain rfl : p' = p := (by omega); omega))
      refine wp_region_below (Below.refl W.heap.size W) (by kernel_rfl) (by kernel_rfl) ?_
      repeat (go_big_quiet_step (fail))
      refine wpQuiet_nil ?_;intro w2 hw';have hw2 : Below W.heap.size W w2 := by obtain ⟨d9, rfl⟩ := hw'; exact d9.property
      have HB3 := Lib.hid (HBW.out.trans (hw2.mono HBW.out.size));clear hw' hw2 hd0 hd1 hd2 hd3 hd4 hd5;go_wp2_with fail;have HN2 := Lib.hid (fun i (hi : i < j + 1) => (show edOK n row i from if h : i < j then HB2.out.2 i h else (show i = j by omega) ▸ HG.out))
      go_roundw
      case rel => exact ⟨j + 1, by omega, by go_num, HB3.out, HN2.out⟩
      case measure => simp [intOf]; omega
     ·obtain rfl : j = 0 := by omega
      have t4 : decide (0 < ((0 : Nat) : Int)) = false := by decide
      have t4n : decide (0 < 0) = false := by decide
      have t4m : decide ((0 : Int) < 0) = false := by decide
      have HG := Lib.hid (ed_good HJ.out.lt HJ.out.eq (by omega) (by omega) (show to < (n : Int) by omega) (fun p' hp' => by omega))
      refine wp_region_below (Below.refl W.heap.size W) (by kernel_rfl) (by kernel_rfl) ?_
      repeat (go_big_quiet_step (fail))
      refine wpQuiet_nil ?_;intro w2 hw';have hw2 : Below W.heap.size W w2 := by obtain ⟨d9, rfl⟩ := hw'; exact d9.property
      have HB3 := Lib.hid (HBW.out.trans (hw2.mono HBW.out.size));clear hw' hw2 hd0 hd1 hd2 hd3;go_wp2_with fail;have HN2 := Lib.hid (fun i (hi : i < 1) => (show edOK n row i from (Nat.lt_one_iff.1 hi) ▸ HG.out));go_roundw
      case rel => exact ⟨1, by omega, rfl, HB3.out, HN2.out⟩
      case measure => simp [intOf]; omega
    ·obtain rfl : j = L := by omega
     have hdj : decide ((j : Int) < (j : Int)) = false := decide_eq_false (by omega)
     have hdjn : decide (j < j) = false := decide_eq_false (by omega)
     have HNX : Hid (Below w.heap.size w wr ∧ ∀ i row, i < k + 1 → m.ed[i]? = some row → ∀ j, j < row.length → edOK n row j) := ⟨HB2.out.1, fun i r hi hr j' hj' => by
      by_cases hik : i < k
      ·exact HB.out.2 i r hik hr j' hj'
      ·obtain rfl : i = k := by omega
       have e := hr.symm.trans HK.out;injection e with e;subst e;exact HB2.out.2 j' (by have := HR.out; omega)⟩
     go_wp2_with fail;go_roundw
     case rel => exact ⟨k + 1, by omega, by go_num, HNX⟩
     case measure => simp [intOf]; omega
  ·obtain rfl : k = n := by omega
   have hd : decide ((k : Int) < (k : Int)) = false := decide_eq_false (by omega)
   have hdn : decide (k < k) = false := decide_eq_false (by omega)
   go_wp2_with fail;go_ret;exact ⟨by rw [← HQ.out, vldZ_true (vz_good HN.out.1 (by omega) (by omega) HN.out.2 HB.out.2)]; rfl, HB.out.1⟩
set_option maxHeartbeats 8000000 in
theorem rvalidz_any (v : Value) (m : Mz) (w : World) (hm : McInZ w v m) (hrl : ∀ r ∈ m.ed, r.length ≤ 4611686018427387904) :
  Calls Tryz.prog 28 #[v] w fun e w' => e = .returned (.bool (vldZ m)) ∧ Below w.heap.size w w' := by
 obtain ⟨Ae, ce, Aa, ca, rfl, ⟨hce1, hce2⟩, hca1, hca2⟩ := mcz_form hm;obtain ⟨he, ha⟩ : EsInZ w (.slice Ae m.ed.length ce) m.ed ∧ BlIn w (.slice Aa m.ac.length ca) m.ac := by
  obtain ⟨ve, va, e, h1, h2⟩ := hm;injection e with e;simp only [Array.mk.injEq, List.cons.injEq, and_true] at e;obtain ⟨rfl, rfl⟩ := e;exact ⟨h1, h2⟩
 obtain ⟨n, hn⟩ : ∃ n, m.ed.length = n := ⟨_, rfl⟩;obtain ⟨na, hna⟩ : ∃ n, m.ac.length = n := ⟨_, rfl⟩;obtain ⟨q, hq⟩ : ∃ q, vldZ m = q := ⟨_, rfl⟩;have HE := Lib.hid he;have HQ := Lib.hid hq;have HN := Lib.hid (And.intro hn hna);have HRL := Lib.hid hrl;rw [hn] at hce1;rw [hna] at hca1;rw [hq, hn, hna];have hb0 : Below w.heap.size w (w.alloc (.cells #[.slice Ae n ce, .slice Aa na ca] 34)) := (Below.refl _ _).alloc (Nat.le_refl _) _;have HB0 := Lib.hid (And.intro hb0 (heap_alloc_new w (.cells #[.slice Ae n ce, .slice Aa na ca] 34)));clear he ha hn hna hm hq hrl hb0;by_cases h1 : n < 1
 ·have hd1 : decide (n < 1) = true := decide_eq_true h1;have hd1i : decide ((n : Int) < 1) = true := decide_eq_true (by omega)
  go_enter Tryz.func28, Tryz.ntmps28
  go_wp2_with fail;go_ret;exact ⟨by rw [← HQ.out, vldZ_false (fun hv => by have := hv.n1; have := HN.out.1; omega)]; rfl, HB0.out.1⟩
 have hd1 : decide (n < 1) = false := decide_eq_false h1;have hd1i : decide ((n : Int) < 1) = false := decide_eq_false (by omega)
 by_cases h2 : 2000 < n
 ·have hd2 : decide (2000 < n) = true := decide_eq_true h2;have hd2i : decide (2000 < (n : Int)) = true := decide_eq_true (by omega)
  go_enter Tryz.func28, Tryz.ntmps28
  go_wp2_with fail;go_ret;exact ⟨by rw [← HQ.out, vldZ_false (fun hv => by have := hv.n2; have := HN.out.1; omega)]; rfl, HB0.out.1⟩
 have hd2 : decide (2000 < n) = false := decide_eq_false h2;have hd2i : decide (2000 < (n : Int)) = false := decide_eq_false (by omega)
 by_cases hne : ¬ na = n
 ·have hd3 : decide (na = n) = false := decide_eq_false hne;have hd3i : decide ((na : Int) = (n : Int)) = false := decide_eq_false (by omega)
  have hd3b : ((na : Int) == (n : Int)) = false := by rw [beq_eq_false_iff_ne]; omega
  have hd3n : (na == n) = false := by rw [beq_eq_false_iff_ne]; exact hne
  go_enter Tryz.func28, Tryz.ntmps28
  go_wp2_with fail;go_ret;exact ⟨by rw [← HQ.out, vldZ_false (fun hv => by have := hv.ac; have := HN.out.1; have := HN.out.2; omega)]; rfl, HB0.out.1⟩
 have hne2 : n = na := (Decidable.not_not.1 hne).symm;subst hne2;clear hne
 go_enter Tryz.func28, Tryz.ntmps28
 go_wp2_with fail
 go_loopw [3] (fun v wr => ∃ k : Nat, k ≤ n ∧ v = .int .i64 (k : Int) ∧ w.heap.size < wr.heap.size ∧ Hid ((Below w.heap.size w wr ∧ wr.heap[w.heap.size]? = some (.cells #[.slice Ae n ce, .slice Aa n ca] 34 (0, 0))) ∧ ∀ i row, i < k → m.ed[i]? = some row → ∀ j, j < row.length → edOK n row j)) (fun v _ => n - (intOf v).toNat)
 case atStart => exact ⟨0, by omega, rfl, by simp, HB0.out, fun i row hi => absurd hi (Nat.not_lt_zero _)⟩
 case round =>
  obtain ⟨k, hk, rfl, hws, HB⟩ := hrel;have hbx := HB.out.1.2;obtain ⟨b0, b1⟩ : wr.cell? ⟨w.heap.size, 0, none⟩ = some (.slice Ae n ce) ∧ wr.cell? ⟨w.heap.size, 1, none⟩ = some (.slice Aa n ca) := by
   constructor <;> (rw [cell_of_row _ _ _ _ _ _ hbx]; rfl)
  clear hbx;by_cases hlt : k < n
  ·have hd : decide ((k : Int) < (n : Int)) = true := decide_eq_true (by omega)
   have hdn : decide (k < n) = true := decide_eq_true hlt;have hkm : k < m.ed.length := by rw [HN.out.1]; exact hlt
   obtain ⟨g, f, rv, rfl, -, hg, hcE, hed⟩ := HE.out.at_ hkm;have hcE2 := (HB.out.1.1.cell (p := ⟨g, f + k, none⟩) hg).trans hcE;have HK0 := List.getElem?_eq_getElem hkm;obtain ⟨row, hrow⟩ : ∃ r, m.ed[k] = r := ⟨_, rfl⟩;rw [hrow] at hed HK0;have HK := Lib.hid HK0;have hrl : row.length ≤ 4611686018427387904 := HRL.out _ (by rw [← hrow]; exact List.getElem_mem hkm)
   obtain ⟨Ar, cr, rfl, hrc, hrcell⟩ := hed;obtain ⟨L, hL⟩ : ∃ L, row.length = L := ⟨_, rfl⟩;rw [hL] at hrc hcE hcE2 hrl;have HR := Lib.hid hL;have HRC := Lib.hid hrcell;have hgw : g < wr.heap.size := by have := HB.out.1.1.size; omega
   clear hL hrcell hrow hkm hcE HK0;go_wp2_with fail
   go_loopw [5] (fun v wr => ∃ j : Nat, j ≤ L ∧ v = .int .i64 (j : Int) ∧ w.heap.size < wr.heap.size ∧ Hid ((Below w.heap.size w wr ∧ wr.heap[w.heap.size]? = some (.cells #[.slice (some ⟨g, f, none⟩) n ce, .slice Aa n ca] 34 (0, 0))) ∧ ∀ i, i < j → edOK n row i)) (fun v _ => L - (intOf v).toNat)
   case atStart => exact ⟨0, by omega, rfl, hws, HB.out.1, fun i hi => absurd hi (Nat.not_lt_zero _)⟩
   case round =>
    obtain ⟨j, hj, rfl, hws2, HB2⟩ := hrel;by_cases hjl : j < L
    ·skip
     have hdj : decide ((j : Int) < (L : Int)) = true := decide_eq_true (by omega)
     have hdjn : decide (j < L) = true := decide_eq_true hjl;have hjm : j < row.length := by rw [HR.out]; exact hjl
     obtain ⟨g2, f2, rfl, hg2, hcs⟩ := HRC.out.resolve_left (by intro e; rw [e] at hjm; simp at hjm)
     obtain ⟨⟨p0, p1, p2⟩, -⟩ := hcs j hjm;obtain ⟨⟨lo, hi, to⟩, he⟩ : ∃ e, row[j] = e := ⟨_, rfl⟩;rw [he] at p0 p1 p2;simp only at p0 p1 p2;have HJ : Hid (AtJ row j lo hi to) := ⟨hjm, he⟩;have HCS := Lib.hid hcs;have hgw2 : g2 < wr.heap.size := by have := HB2.out.1.1.size; omega
     have hd0 : ∀ d : BelT wr.heap.size wr, d.val.cell? ⟨g2, f2 + j * 3, none⟩ = some (.int .u8 (lo : Int)) := fun d => ((HB2.out.1.1.trans (d.property.mono HB2.out.1.1.size)).cell (p := ⟨g2, f2 + j * 3, none⟩) hg2).trans p0;have hd1' : ∀ d : BelT wr.heap.size wr, d.val.cell? ⟨g2, f2 + j * 3 + 1, none⟩ = some (.int .u8 (hi : Int)) := fun d => ((HB2.out.1.1.trans (d.property.mono HB2.out.1.1.size)).cell (p := ⟨g2, f2 + j * 3 + 1, none⟩) hg2).trans p1;have hd2' : ∀ d : BelT wr.heap.size wr, d.val.cell? ⟨g2, f2 + j * 3 + 2, none⟩ = some (.int .i64 to) := fun d => ((HB2.out.1.1.trans (d.property.mono HB2.out.1.1.size)).cell (p := ⟨g2, f2 + j * 3 + 2, none⟩) hg2).trans p2;have hd3 : ∀ d : BelT wr.heap.size wr, g2 < d.val.heap.size := fun d => by have := d.property.size; omega
     have hd5 : ∀ d : BelT wr.heap.size wr, d.val.cell? ⟨w.heap.size, 0, none⟩ = some (.slice (some ⟨g, f, none⟩) n ce) := fun d => by
      rw [cell_of_row _ _ _ _ _ _ ((d.property.block w.heap.size hws2).trans HB2.out.1.2)]; rfl
     have hd6 : ∀ d : BelT wr.heap.size wr, w.heap.size < d.val.heap.size := fun d => by have := d.property.size; omega
     clear p0 p1 p2 hcs he;by_cases ha : hi < lo
     ·have t1 : decide ((hi : Int) < (lo : Int)) = true := decide_eq_true (by omega)
      have t1n : decide (hi < lo) = true := decide_eq_true ha;go_wp2_with fail;refine wp_region_below (Below.refl wr.heap.size wr) (by kernel_rfl) (by kernel_rfl) ?_
      repeat (go_big_quiet_step (fail))
      refine wpQuiet_nil ?_;intro w2 hw';have hw2 : Below wr.heap.size wr w2 := by obtain ⟨d9, rfl⟩ := hw'; exact d9.property
      have HB3 := Lib.hid (And.intro (HB2.out.1.1.trans (hw2.mono HB2.out.1.1.size)) ((hw2.block w.heap.size hws2).trans HB2.out.1.2));have hws3 : w.heap.size < w2.heap.size := by have := hw2.size; omega
      clear hw' hw2 hd0 hd1' hd2' hd3 hd5 hd6;go_wp2_with fail;go_ret;exact ⟨by rw [← HQ.out, vldZ_false (vz_bad HN.out.1 HK.out HJ.out.lt (ed_bad1 HJ.out.lt HJ.out.eq (fun q => by omega)))]; rfl, HB3.out.1⟩
     have t1 : decide ((hi : Int) < (lo : Int)) = false := decide_eq_false (by omega)
     have t1n : decide (hi < lo) = false := decide_eq_false ha;by_cases hb : to < 0
     ·have t2 : decide (to < 0) = true := decide_eq_true hb;go_wp2_with fail;refine wp_region_below (Below.refl wr.heap.size wr) (by kernel_rfl) (by kernel_rfl) ?_
      repeat (go_big_quiet_step (fail))
      refine wpQuiet_nil ?_;intro w2 hw';have hw2 : Below wr.heap.size wr w2 := by obtain ⟨d9, rfl⟩ := hw'; exact d9.property
      have HB3 := Lib.hid (And.intro (HB2.out.1.1.trans (hw2.mono HB2.out.1.1.size)) ((hw2.block w.heap.size hws2).trans HB2.out.1.2));have hws3 : w.heap.size < w2.heap.size := by have := hw2.size; omega
      clear hw' hw2 hd0 hd1' hd2' hd3 hd5 hd6;go_wp2_with fail;go_ret;exact ⟨by rw [← HQ.out, vldZ_false (vz_bad HN.out.1 HK.out HJ.out.lt (ed_bad1 HJ.out.lt HJ.out.eq (fun q => by omega)))]; rfl, HB3.out.1⟩
     have t2 : decide (to < 0) = false := decide_eq_false hb;by_cases hc : (n : Int) ≤ to
     ·have t3 : decide ((n : Int) ≤ to) = true := decide_eq_true hc;go_wp2_with fail;refine wp_region_below (Below.refl wr.heap.size wr) (by kernel_rfl) (by kernel_rfl) ?_
      repeat (go_big_quiet_step (fail))
      refine wpQuiet_nil ?_;intro w2 hw';have hw2 : Below wr.heap.size wr w2 := by obtain ⟨d9, rfl⟩ := hw'; exact d9.property
      have HB3 := Lib.hid (And.intro (HB2.out.1.1.trans (hw2.mono HB2.out.1.1.size)) ((hw2.block w.heap.size hws2).trans HB2.out.1.2));have hws3 : w.heap.size < w2.heap.size := by have := hw2.size; omega
      clear hw' hw2 hd0 hd1' hd2' hd3 hd5 hd6;go_wp2_with fail;go_ret;exact ⟨by rw [← HQ.out, vldZ_false (vz_bad HN.out.1 HK.out HJ.out.lt (ed_bad1 HJ.out.lt HJ.out.eq (fun q => by omega)))]; rfl, HB3.out.1⟩
     have t3 : decide ((n : Int) ≤ to) = false := decide_eq_false hc;by_cases hj0 : 0 < j
     ·have t4 : decide (0 < (j : Int)) = true := decide_eq_true (by omega)
      have t4n : decide (0 < j) = true := decide_eq_true hj0;obtain ⟨p, hp⟩ : ∃ p, p + 1 = j := ⟨j - 1, by omega⟩
      have hw : IntKind.i64.wrap ((j : Int) - 1) = (p : Int) := by rw [IntWalk.i64_in _ (by omega)]; omega
      have hw2 : ((j : Int) - 1) = (p : Int) := by omega
      have hpl : p < L := by omega
      have t5 : decide (p < L) = true := decide_eq_true hpl;have hpl2 : p < row.length := by rw [HR.out]; exact hpl
      obtain ⟨⟨-, p1, -⟩, -⟩ := HCS.out p hpl2;obtain ⟨ph, hph⟩ : ∃ x, (row[p]'hpl2).hi = x := ⟨_, rfl⟩;rw [hph] at p1;have hd4 : ∀ d : BelT wr.heap.size wr, d.val.cell? ⟨g2, f2 + p * 3 + 1, none⟩ = some (.int .u8 (ph : Int)) := fun d => ((HB2.out.1.1.trans (d.property.mono HB2.out.1.1.size)).cell (p := ⟨g2, f2 + p * 3 + 1, none⟩) hg2).trans p1;have HPH := Lib.hid (And.intro hp hph);clear hp p1 hph;by_cases hle : lo ≤ ph
      ·have t6 : decide ((lo : Int) ≤ (ph : Int)) = true := decide_eq_true (by omega)
       have t6n : decide (lo ≤ ph) = true := decide_eq_true hle;go_wp2_with fail;refine wp_region_below (Below.refl wr.heap.size wr) (by kernel_rfl) (by kernel_rfl) ?_
       repeat (go_big_quiet_step (fail))
       refine wpQuiet_nil ?_;intro w2 hw';have hw2 : Below wr.heap.size wr w2 := by obtain ⟨d9, rfl⟩ := hw'; exact d9.property
       have HB3 := Lib.hid (And.intro (HB2.out.1.1.trans (hw2.mono HB2.out.1.1.size)) ((hw2.block w.heap.size hws2).trans HB2.out.1.2));have hws3 : w.heap.size < w2.heap.size := by have := hw2.size; omega
       clear hw' hw2 hd0 hd1' hd2' hd3 hd5 hd6 hd4;go_wp2_with fail;go_ret;exact ⟨by rw [← HQ.out, vldZ_false (vz_bad HN.out.1 HK.out HJ.out.lt (ed_bad2 HJ.out.lt HJ.out.eq HPH.out.1 HPH.out.2 hle))]; rfl, HB3.out.1⟩
      have t6 : decide ((lo : Int) ≤ (ph : Int)) = false := decide_eq_false (by omega)
      have t6n : decide (lo ≤ ph) = false := decide_eq_false hle;have HG := Lib.hid (ed_good HJ.out.lt HJ.out.eq (by omega) (by omega) (show to < (n : Int) by omega) (fun p' hp' => by have h1 := HPH.out.1; have h2 := HPH.out.2; obtain rfl : p' = p := (by omega); omega))
      go_wp2_with fail;refine wp_region_below (Below.refl wr.heap.size wr) (by kernel_rfl) (by kernel_rfl) ?_
      repeat (go_big_quiet_step (fail))
      refine wpQuiet_nil ?_;intro w2 hw';have hw2 : Below wr.heap.size wr w2 := by obtain ⟨d9, rfl⟩ := hw'; exact d9.property
      have HB3 := Lib.hid (And.intro (HB2.out.1.1.trans (hw2.mono HB2.out.1.1.size)) ((hw2.block w.heap.size hws2).trans HB2.out.1.2));have hws3 : w.heap.size < w2.heap.size := by have := hw2.size; omega
      clear hw' hw2 hd0 hd1' hd2' hd3 hd5 hd6 hd4;go_wp2_with fail;have HN2 := Lib.hid (fun i (hi : i < j + 1) => (show edOK n row i from if h : i < j then HB2.out.2 i h else (show i = j by omega) ▸ HG.out))
      go_roundw
      case rel => exact ⟨j + 1, by omega, by go_num, hws3, HB3.out, HN2.out⟩
      case measure => simp [intOf]; omega
     ·obtain rfl : j = 0 := by omega
      have t4 : decide (0 < ((0 : Nat) : Int)) = false := by decide
      have t4n : decide (0 < 0) = false := by decide
      have t4m : decide ((0 : Int) < 0) = false := by decide
      simp only [Nat.zero_mul, Nat.add_zero] at hd0 hd1' hd2';have HG := Lib.hid (ed_good HJ.out.lt HJ.out.eq (by omega) (by omega) (show to < (n : Int) by omega) (fun p' hp' => by omega))
      go_wp2_with fail;refine wp_region_below (Below.refl wr.heap.size wr) (by kernel_rfl) (by kernel_rfl) ?_
      repeat (go_big_quiet_step (fail))
      refine wpQuiet_nil ?_;intro w2 hw';have hw2 : Below wr.heap.size wr w2 := by obtain ⟨d9, rfl⟩ := hw'; exact d9.property
      have HB3 := Lib.hid (And.intro (HB2.out.1.1.trans (hw2.mono HB2.out.1.1.size)) ((hw2.block w.heap.size hws2).trans HB2.out.1.2));have hws3 : w.heap.size < w2.heap.size := by have := hw2.size; omega
      clear hw' hw2 hd0 hd1' hd2' hd3 hd5 hd6;go_wp2_with fail;have HN2 := Lib.hid (fun i (hi : i < 1) => (show edOK n row i from (Nat.lt_one_iff.1 hi) ▸ HG.out));go_roundw
      case rel => exact ⟨1, by omega, rfl, hws3, HB3.out, HN2.out⟩
      case measure => simp [intOf]; omega
    ·obtain rfl : j = L := by omega
     have hdj : decide ((j : Int) < (j : Int)) = false := decide_eq_false (by omega)
     have hdjn : decide (j < j) = false := decide_eq_false (by omega)
     have HNX : Hid ((Below w.heap.size w wr ∧ wr.heap[w.heap.size]? = some (.cells #[.slice (some ⟨g, f, none⟩) n ce, .slice Aa n ca] 34 (0, 0))) ∧ ∀ i row, i < k + 1 → m.ed[i]? = some row → ∀ j, j < row.length → edOK n row j) := ⟨HB2.out.1, fun i r hi hr j' hj' => by
      by_cases hik : i < k
      ·exact HB.out.2 i r hik hr j' hj'
      ·obtain rfl : i = k := by omega
       have e := hr.symm.trans HK.out;injection e with e;subst e;exact HB2.out.2 j' (by have := HR.out; omega)⟩
     go_wp2_with fail;go_roundw
     case rel => exact ⟨k + 1, by omega, by go_num, hws2, HNX⟩
     case measure => simp [intOf]; omega
  ·obtain rfl : k = n := by omega
   have hd : decide ((k : Int) < (k : Int)) = false := decide_eq_false (by omega)
   have hdn : decide (k < k) = false := decide_eq_false (by omega)
   go_wp2_with fail;go_ret;exact ⟨by rw [← HQ.out, vldZ_true (vz_good HN.out.1 (by omega) (by omega) HN.out.2 HB.out.2)]; rfl, HB.out.1.1⟩
end Go.Proofs.YtjhmipidmpmlmaaGreatDoor
namespace Go.Proofs.YtjhmipidmpmlmaaGreatDoor
set_option linter.unusedVariables false
set_option linter.unusedSimpArgs false
set_option maxRecDepth 100000
theorem sortE_snoc : ∀ {p : List Ed} {b a lo hi t : Nat}, SortE b p → (∀ e ∈ p, e.hi < a) → a ≤ lo → b ≤ lo → lo ≤ hi → SortE b (p ++ [⟨lo, hi, t⟩])
 | [], b, a, lo, hi, t, _, _, _, h2, h3 => ⟨h2, h3, trivial⟩
 | e :: p, b, a, lo, hi, t, ⟨h1, h2, h3⟩, h4, h5, h6, h7 => ⟨h1, h2, sortE_snoc h3 (fun f hf => h4 f (List.mem_cons_of_mem _ hf)) h5 (by have := h4 e List.mem_cons_self; omega) h7⟩
structure OwI (n : Nat) (p : List Ed) (a : Nat) : Prop where
 srt : SortE 0 p
 top : ∀ e ∈ p, e.hi < a ∧ e.lo < 256 ∧ e.hi < 256 ∧ e.to < n
 a : a ≤ 256
theorem OwI.start (n : Nat) : OwI n [] 0 := ⟨trivial, fun e he => (by cases he), by decide⟩
theorem OwI.step {n : Nat} {p : List Ed} {a r1 r2 t : Nat} (h : OwI n p a) (ha : a < 250) (h1 : r1 < 60) (h2 : r2 < 60) (ht : t < n) :
  OwI n (p ++ [⟨min 255 (a + r1), min 255 (a + r1 + r2), t⟩]) (min 255 (a + r1 + r2) + 1) := by
 refine ⟨sortE_snoc h.srt (fun e he => (h.top e he).1) (by omega) (Nat.zero_le _) (by omega), fun e he => ?_, by omega⟩
 rcases List.mem_append.1 he with h3 | h3
 ·have := h.top e h3;refine ⟨by omega, this.2.1, this.2.2.1, this.2.2.2⟩
 ·rw [List.mem_singleton] at h3;subst h3;exact ⟨by show min 255 (a + r1 + r2) < _; omega, by show min 255 (a + r1) < 256; omega, by show min 255 (a + r1 + r2) < 256; omega, ht⟩
theorem own_vld {n : Nat} {rows : List (List Ed)} {acs : List Bool} (hn : rows.length = n) (ha : acs.length = n) (h : ∀ r ∈ rows, r.length ≤ 3 ∧ ∃ a, OwI n r a) (h5 : n ≤ 5) : Vld ⟨rows, acs⟩ ∧ McSm ⟨rows, acs⟩ := by
 refine ⟨⟨by show acs.length = rows.length; rw [hn, ha], fun r hr => (h r hr).2.elim fun a q => q.srt, fun r hr e he => ?_⟩, ⟨fun r hr e he => ?_, fun r hr => ?_, by show rows.length ≤ _; omega⟩⟩
 ·obtain ⟨-, a, q⟩ := h r hr;show e.to < rows.length;rw [hn]; exact (q.top e he).2.2.2
 ·obtain ⟨-, a, q⟩ := h r hr;exact ⟨(q.top e he).2.1, (q.top e he).2.2.1⟩
 ·have := (h r hr).1;omega
theorem leOK_vld {m m' : Mc} (h : LeOK m m') : Vld m' ∧ 1 ≤ m'.ed.length := by
 rcases h.1 with ⟨hl, hc, he⟩ | ⟨-, rfl⟩
 ·refine ⟨⟨hc.len, hc.srt, hc.to⟩, ?_⟩;rcases Nat.eq_zero_or_pos m'.ed.length with h0 | h0
  ·exfalso;obtain ⟨w, hw⟩ := hl;rw [← he] at hw;have e1 : m'.ed = [] := List.length_eq_zero_iff.1 h0;have e2 : m'.ac = [] := List.length_eq_zero_iff.1 (by rw [hc.len, h0])
   cases w with
   | nil => simp [acF, e2] at hw
   | cons c w => simp [acF, rowM, e1, trn] at hw
  ·exact h0
 ·exact ⟨⟨rfl, fun r hr => by simp at hr; subst hr; trivial, fun r hr e he => by simp at hr; subst hr; cases he⟩, Nat.le_refl _⟩
end Go.Proofs.YtjhmipidmpmlmaaGreatDoor
namespace Go.Proofs.YtjhmipidmpmlmaaGreatDoor
set_option linter.unusedVariables false
set_option linter.unusedSimpArgs false
set_option maxRecDepth 100000
open Go.RowKit
noncomputable def sameZ (m1 m2 : Mz) : Bool := vldZ m1 && (vldZ m2 && decide (cvM m1 = cvM m2))
theorem mc_parts {w : World} {Ae Aa : Option Addr} {n k ce ca : Nat} {m : Mc} (h : McIn w (.agg #[.slice Ae n ce, .slice Aa k ca]) m) : EsIn w (.slice Ae n ce) m.ed ∧ BlIn w (.slice Aa k ca) m.ac := by
 obtain ⟨ve, va, e, h1, h2⟩ := h;injection e with e;simp only [Array.mk.injEq, List.cons.injEq, and_true] at e;obtain ⟨rfl, rfl⟩ := e;exact ⟨h1, h2⟩
end Go.Proofs.YtjhmipidmpmlmaaGreatDoor
