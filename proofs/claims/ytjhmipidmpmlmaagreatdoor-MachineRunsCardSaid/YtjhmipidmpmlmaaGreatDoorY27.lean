/- Walk: machine.Valid at any machine. Printed by gen_vz.py. · Walk: ref06.Valid at any machine. Printed by gen_vz.py. · Walks: machine.Same and ref06.Same at any two machines. · Walks: machine.Same and ref06.Same at any two machines. · Walks: machine.Ends and machine.Accepts at any machine. Printed by gen_enz.py. · Walk: ref06.Next at a valid machine. · Walk: ref06.Reached at a valid machine. · Walks: ref06.Ends and ref06.Accepts at any machine. Printed by gen_enz.py. · A machine of law06.own as any machine; what the law's changes leave of it. -/
import Derived.Test.YtjhmipidmpmlmaaGreatDoorY25
import Derived.Test.YtjhmipidmpmlmaaGreatDoorY24
import Derived.Test.YtjhmipidmpmlmaaGreatDoorY20
namespace Go.Proofs.YtjhmipidmpmlmaaGreatDoor
set_option linter.unusedVariables false
set_option linter.unusedSimpArgs false
set_option maxRecDepth 100000
open Go.RowKit
theorem vz_bad {m : Mz} {k j n : Nat} {row : List EdZ} (hn : m.ed.length = n) (hk : m.ed[k]? = some row) (hj : j < row.length) (h : ¬ edOK n row j) : ¬ VldZ m := fun hv => h (by
 obtain ⟨h1, rfl⟩ := List.getElem?_eq_some_iff.1 hk
 subst hn
 exact hv.row k h1 j hj)
theorem vz_good {m : Mz} {n : Nat} (hn : m.ed.length = n) (h1 : 1 ≤ n) (h2 : n ≤ 2000) (ha : m.ac.length = n) (h : ∀ k row, k < n → m.ed[k]? = some row → ∀ j, j < row.length → edOK n row j) : VldZ m := by
 subst hn
 exact ⟨h1, h2, ha, fun k hk j hj => h k _ hk (List.getElem?_eq_getElem hk) j hj⟩
theorem ed_bad1 {n j : Nat} {row : List EdZ} (hj : j < row.length) {lo hi : Nat} {to : Int} (he : row[j] = ⟨lo, hi, to⟩) (h : ¬ (lo ≤ hi ∧ 0 ≤ to ∧ to < (n : Int))) : ¬ edOK n row j := fun q => by
 have := q hj
 rw [he] at this
 exact h ⟨this.1, this.2.1, this.2.2.1⟩
theorem ed_bad2 {n j p : Nat} {row : List EdZ} (hj : j < row.length) {lo hi : Nat} {to : Int} (he : row[j] = ⟨lo, hi, to⟩) (hp : p + 1 = j) {ph : Nat} (hph : (row[p]'(by omega)).hi = ph) (h : lo ≤ ph) : ¬ edOK n row j := fun q => by
 have := q hj
 rw [he] at this
 have h2 := this.2.2.2 p hp
 rw [hph] at h2
 simp only at h2
 omega
theorem ed_good {n j : Nat} {row : List EdZ} (hj : j < row.length) {lo hi : Nat} {to : Int} (he : row[j] = ⟨lo, hi, to⟩) (h1 : lo ≤ hi) (h2 : 0 ≤ to) (h3 : to < (n : Int)) (h4 : ∀ p (hp : p + 1 = j), (row[p]'(by omega)).hi < lo) : edOK n row j := fun _ => by
 rw [he]
 exact ⟨h1, h2, h3, fun p hp => h4 p hp⟩
structure AtJ (row : List EdZ) (j lo hi : Nat) (to : Int) : Prop where
 lt : j < row.length
 eq : row[j] = ⟨lo, hi, to⟩
set_option maxHeartbeats 8000000 in
theorem mvalidz_any (v : Value) (m : Mz) (w : World) (hm : McInZ w v m) (hrl : ∀ r ∈ m.ed, r.length ≤ 4611686018427387904) :
  Calls Tryz.prog 27 #[v] w fun e w' => e = .returned (.bool (vldZ m)) ∧ Below w.heap.size w w' := by
 obtain ⟨Ae, ce, Aa, ca, rfl, ⟨hce1, hce2⟩, hca1, hca2⟩ := mcz_form hm
 obtain ⟨he, ha⟩ : EsInZ w (.slice Ae m.ed.length ce) m.ed ∧ BlIn w (.slice Aa m.ac.length ca) m.ac := by
  obtain ⟨ve, va, e, h1, h2⟩ := hm
  injection e with e
  simp only [Array.mk.injEq, List.cons.injEq, and_true] at e
  obtain ⟨rfl, rfl⟩ := e
  exact ⟨h1, h2⟩
 obtain ⟨n, hn⟩ : ∃ n, m.ed.length = n := ⟨_, rfl⟩
 obtain ⟨na, hna⟩ : ∃ n, m.ac.length = n := ⟨_, rfl⟩
 obtain ⟨q, hq⟩ : ∃ q, vldZ m = q := ⟨_, rfl⟩
 have HE := Lib.hid he
 have HQ := Lib.hid hq
 have HN := Lib.hid (And.intro hn hna)
 have HRL := Lib.hid hrl
 rw [hn] at hce1
 rw [hna] at hca1
 rw [hq, hn, hna]
 have hb0 : Below w.heap.size w (w.alloc (.cells #[.slice Ae n ce, .slice Aa na ca] 34)) := (Below.refl _ _).alloc (Nat.le_refl _) _
 have HB0 := Lib.hid hb0
 clear he ha hn hna hm hq hrl hb0
 by_cases h1 : n < 1
 ·have hd1 : decide (n < 1) = true := decide_eq_true h1
  have hd1i : decide ((n : Int) < 1) = true := decide_eq_true (by omega)
  go_enter Tryz.func27, Tryz.ntmps27
  go_wp2_with fail
  go_ret
  exact ⟨by rw [← HQ.out, vldZ_false (fun hv => by have := hv.n1; have := HN.out.1; omega)]; rfl, HB0.out⟩
 have hd1 : decide (n < 1) = false := decide_eq_false h1
 have hd1i : decide ((n : Int) < 1) = false := decide_eq_false (by omega)
 by_cases h2 : 2000 < n
 ·have hd2 : decide (2000 < n) = true := decide_eq_true h2
  have hd2i : decide (2000 < (n : Int)) = true := decide_eq_true (by omega)
  go_enter Tryz.func27, Tryz.ntmps27
  go_wp2_with fail
  go_ret
  exact ⟨by rw [← HQ.out, vldZ_false (fun hv => by have := hv.n2; have := HN.out.1; omega)]; rfl, HB0.out⟩
 have hd2 : decide (2000 < n) = false := decide_eq_false h2
 have hd2i : decide (2000 < (n : Int)) = false := decide_eq_false (by omega)
 by_cases hne : ¬ na = n
 ·have hd3 : decide (na = n) = false := decide_eq_false hne
  have hd3i : decide ((na : Int) = (n : Int)) = false := decide_eq_false (by omega)
  have hd3b : ((na : Int) == (n : Int)) = false := by rw [beq_eq_false_iff_ne]; omega
  have hd3n : (na == n) = false := by rw [beq_eq_false_iff_ne]; exact hne
  go_enter Tryz.func27, Tryz.ntmps27
  go_wp2_with fail
  go_ret
  exact ⟨by rw [← HQ.out, vldZ_false (fun hv => by have := hv.ac; have := HN.out.1; have := HN.out.2; omega)]; rfl, HB0.out⟩
 have hne2 : n = na := (Decidable.not_not.1 hne).symm
 subst hne2
 clear hne
 go_enter Tryz.func27, Tryz.ntmps27
 go_wp2_with fail
 go_loopw [27] (fun v wr => ∃ k : Nat, k ≤ n ∧ v = .int .i64 (k : Int) ∧ Hid (Below w.heap.size w wr ∧ ∀ i row, i < k → m.ed[i]? = some row → ∀ j, j < row.length → edOK n row j)) (fun v _ => n - (intOf v).toNat)
 case atStart => exact ⟨0, by omega, rfl, HB0.out, fun i row hi => absurd hi (Nat.not_lt_zero _)⟩
 case round =>
  obtain ⟨k, hk, rfl, HB⟩ := hrel
  by_cases hlt : k < n
  ·have hd : decide ((k : Int) < (n : Int)) = true := decide_eq_true (by omega)
   have hdn : decide (k < n) = true := decide_eq_true hlt
   have hkm : k < m.ed.length := by rw [HN.out.1]; exact hlt
   obtain ⟨g, f, rv, rfl, -, hg, hcE, hed⟩ := HE.out.at_ hkm
   have hcE2 := (HB.out.1.cell (p := ⟨g, f + k, none⟩) hg).trans hcE
   have HK0 := List.getElem?_eq_getElem hkm
   obtain ⟨row, hrow⟩ : ∃ r, m.ed[k] = r := ⟨_, rfl⟩
   rw [hrow] at hed HK0
   have HK := Lib.hid HK0
   have hrl : row.length ≤ 4611686018427387904 := HRL.out _ (by rw [← hrow]; exact List.getElem_mem hkm)
   obtain ⟨Ar, cr, rfl, hrc, hrcell⟩ := hed
   obtain ⟨L, hL⟩ : ∃ L, row.length = L := ⟨_, rfl⟩
   rw [hL] at hrc hcE hcE2 hrl
   have HR := Lib.hid hL
   have HRC := Lib.hid hrcell
   have hgw : g < wr.heap.size := by have := HB.out.1.size; omega
   clear hL hrcell hrow hkm hcE HK0
   go_wp2_with fail
   go_loopw [33] (fun v wr => ∃ j : Nat, j ≤ L ∧ v = .int .i64 (j : Int) ∧ Hid (Below w.heap.size w wr ∧ ∀ i, i < j → edOK n row i)) (fun v _ => L - (intOf v).toNat)
   case atStart => exact ⟨0, by omega, rfl, HB.out.1, fun i hi => absurd hi (Nat.not_lt_zero _)⟩
   case round =>
    obtain ⟨j, hj, rfl, HB2⟩ := hrel
    by_cases hjl : j < L
    ·skip
     have hdj : decide ((j : Int) < (L : Int)) = true := decide_eq_true (by omega)
     have hdjn : decide (j < L) = true := decide_eq_true hjl
     have hjm : j < row.length := by rw [HR.out]; exact hjl
     obtain ⟨g2, f2, rfl, hg2, hcs⟩ := HRC.out.resolve_left (by intro e; rw [e] at hjm; simp at hjm)
     obtain ⟨⟨p0, p1, p2⟩, -⟩ := hcs j hjm
     obtain ⟨⟨lo, hi, to⟩, he⟩ : ∃ e, row[j] = e := ⟨_, rfl⟩
     rw [he] at p0 p1 p2
     simp only at p0 p1 p2
     have HJ : Hid (AtJ row j lo hi to) := ⟨hjm, he⟩
     have HCS := Lib.hid hcs
     have q0 := (HB2.out.1.cell (p := ⟨g2, f2 + j * 3, none⟩) hg2).trans p0
     have q1 := (HB2.out.1.cell (p := ⟨g2, f2 + j * 3 + 1, none⟩) hg2).trans p1
     have q2 := (HB2.out.1.cell (p := ⟨g2, f2 + j * 3 + 2, none⟩) hg2).trans p2
     have hgw2 : g2 < wr.heap.size := by have := HB2.out.1.size; omega
     clear p0 p1 p2 hcs he
     go_wp2_with fail
     refine wp_named fun W hW => ?_
     have hbW : Below wr.heap.size wr W := by rw [hW]; exact (Below.refl _ _).alloc (Nat.le_refl _) _
     have hrow : W.heap[wr.heap.size]? = some (.cells #[.int .u8 (lo : Int), .int .u8 (hi : Int), .int .i64 to] 58 (0, 0)) := by rw [hW]; exact heap_alloc_new wr _
     have hzW : W.heap.size = wr.heap.size + 1 := by rw [hW]; simp
     have hd0 : ∀ d : BelT W.heap.size W, d.val.cell? ⟨wr.heap.size, 0, none⟩ = some (.int .u8 (lo : Int)) := fun d => by
      rw [cell_of_row _ _ _ _ _ _ ((d.property.block wr.heap.size (by omega)).trans hrow)]; rfl
     have hd1 : ∀ d : BelT W.heap.size W, d.val.cell? ⟨wr.heap.size, 1, none⟩ = some (.int .u8 (hi : Int)) := fun d => by
      rw [cell_of_row _ _ _ _ _ _ ((d.property.block wr.heap.size (by omega)).trans hrow)]; rfl
     have hd2 : ∀ d : BelT W.heap.size W, d.val.cell? ⟨wr.heap.size, 2, none⟩ = some (.int .i64 to) := fun d => by
      rw [cell_of_row _ _ _ _ _ _ ((d.property.block wr.heap.size (by omega)).trans hrow)]; rfl
     have hd3 : ∀ d : BelT W.heap.size W, wr.heap.size < d.val.heap.size := fun d => by have := d.property.size; omega
     have HBW := Lib.hid (HB2.out.1.trans (hbW.mono HB2.out.1.size))
     clear hrow hbW hW q0 q1 q2 hcE2
     by_cases ha : hi < lo
     ·have t1 : decide ((hi : Int) < (lo : Int)) = true := decide_eq_true (by omega)
      have t1n : decide (hi < lo) = true := decide_eq_true ha
      refine wp_region_below (Below.refl W.heap.size W) (by kernel_rfl) (by kernel_rfl) ?_
      repeat (go_big_quiet_step (fail))
      refine wpQuiet_nil ?_
      intro w2 hw'
      have hw2 : Below W.heap.size W w2 := by obtain ⟨d9, rfl⟩ := hw'; exact d9.property
      have HB3 := Lib.hid (HBW.out.trans (hw2.mono HBW.out.size))
      clear hw' hw2 hd0 hd1 hd2 hd3
      go_wp2_with fail
      go_ret
      exact ⟨by rw [← HQ.out, vldZ_false (vz_bad HN.out.1 HK.out HJ.out.lt (ed_bad1 HJ.out.lt HJ.out.eq (fun q => by omega)))]; rfl, HB3.out⟩
     have t1 : decide ((hi : Int) < (lo : Int)) = false := decide_eq_false (by omega)
     have t1n : decide (hi < lo) = false := decide_eq_false ha
     by_cases hb : to < 0
     ·have t2 : decide (to < 0) = true := decide_eq_true hb
      refine wp_region_below (Below.refl W.heap.size W) (by kernel_rfl) (by kernel_rfl) ?_
      repeat (go_big_quiet_step (fail))
      refine wpQuiet_nil ?_
      intro w2 hw'
      have hw2 : Below W.heap.size W w2 := by obtain ⟨d9, rfl⟩ := hw'; exact d9.property
      have HB3 := Lib.hid (HBW.out.trans (hw2.mono HBW.out.size))
      clear hw' hw2 hd0 hd1 hd2 hd3
      go_wp2_with fail
      go_ret
      exact ⟨by rw [← HQ.out, vldZ_false (vz_bad HN.out.1 HK.out HJ.out.lt (ed_bad1 HJ.out.lt HJ.out.eq (fun q => by omega)))]; rfl, HB3.out⟩
     have t2 : decide (to < 0) = false := decide_eq_false hb
     by_cases hc : (n : Int) ≤ to
     ·have t3 : decide ((n : Int) ≤ to) = true := decide_eq_true hc
      refine wp_region_below (Below.refl W.heap.size W) (by kernel_rfl) (by kernel_rfl) ?_
      repeat (go_big_quiet_step (fail))
      refine wpQuiet_nil ?_
      intro w2 hw'
      have hw2 : Below W.heap.size W w2 := by obtain ⟨d9, rfl⟩ := hw'; exact d9.property
      have HB3 := Lib.hid (HBW.out.trans (hw2.mono HBW.out.size))
      clear hw' hw2 hd0 hd1 hd2 hd3
      go_wp2_with fail
      go_ret
      exact ⟨by rw [← HQ.out, vldZ_false (vz_bad HN.out.1 HK.out HJ.out.lt (ed_bad1 HJ.out.lt HJ.out.eq (fun q => by omega)))]; rfl, HB3.out⟩
     have t3 : decide ((n : Int) ≤ to) = false := decide_eq_false hc
     by_cases hj0 : 0 < j
     ·have t4 : decide (0 < (j : Int)) = true := decide_eq_true (by omega)
      have t4n : decide (0 < j) = true := decide_eq_true hj0
      obtain ⟨p, hp⟩ : ∃ p, p + 1 = j := ⟨j - 1, by omega⟩
      have hw : IntKind.i64.wrap ((j : Int) - 1) = (p : Int) := by rw [IntWalk.i64_in _ (by omega)]; omega
      have hw2 : ((j : Int) - 1) = (p : Int) := by omega
      have hpl : p < L := by omega
      have t5 : decide (p < L) = true := decide_eq_true hpl
      have hpl2 : p < row.length := by rw [HR.out]; exact hpl
      obtain ⟨⟨-, p1, -⟩, -⟩ := HCS.out p hpl2
      obtain ⟨ph, hph⟩ : ∃ x, (row[p]'hpl2).hi = x := ⟨_, rfl⟩
      rw [hph] at p1
      have hd4 : ∀ d : BelT W.heap.size W, d.val.cell? ⟨g2, f2 + p * 3 + 1, none⟩ = some (.int .u8 (ph : Int)) := fun d => ((HBW.out.trans (d.property.mono HBW.out.size)).cell (p := ⟨g2, f2 + p * 3 + 1, none⟩) hg2).trans p1
      have hd5 : ∀ d : BelT W.heap.size W, g2 < d.val.heap.size := fun d => by have := d.property.size; omega
      have HPH := Lib.hid (And.intro hp hph)
      clear hp p1 hph
      by_cases hle : lo ≤ ph
      ·have t6 : decide ((lo : Int) ≤ (ph : Int)) = true := decide_eq_true (by omega)
       have t6n : decide (lo ≤ ph) = true := decide_eq_true hle
       refine wp_region_below (Below.refl W.heap.size W) (by kernel_rfl) (by kernel_rfl) ?_
       repeat (go_big_quiet_step (fail))
       refine wpQuiet_nil ?_
       intro w2 hw'
       have hw2 : Below W.heap.size W w2 := by obtain ⟨d9, rfl⟩ := hw'; exact d9.property
       have HB3 := Lib.hid (HBW.out.trans (hw2.mono HBW.out.size))
       clear hw' hw2 hd0 hd1 hd2 hd3 hd4 hd5
       go_wp2_with fail
       go_ret
       exact ⟨by rw [← HQ.out, vldZ_false (vz_bad HN.out.1 HK.out HJ.out.lt (ed_bad2 HJ.out.lt HJ.out.eq HPH.out.1 HPH.out.2 hle))]; rfl, HB3.out⟩
      have t6 : decide ((lo : Int) ≤ (ph : Int)) = false := decide_eq_false (by omega)
      have t6n : decide (lo ≤ ph) = false := decide_eq_false hle
      have HG := Lib.hid (ed_good HJ.out.lt HJ.out.eq (by omega) (by omega) (show to < (n : Int) by omega) (fun p' hp' => by have h1 := HPH.out.1; have h2 := HPH.out.2; obtain rfl : p' = p := (by omega); omega))
      refine wp_region_below (Below.refl W.heap.size W) (by kernel_rfl) (by kernel_rfl) ?_
      repeat (go_big_quiet_step (fail))
      refine wpQuiet_nil ?_
      intro w2 hw'
      have hw2 : Below W.heap.size W w2 := by obtain ⟨d9, rfl⟩ := hw'; exact d9.property
      have HB3 := Lib.hid (HBW.out.trans (hw2.mono HBW.out.size))
      clear hw' hw2 hd0 hd1 hd2 hd3 hd4 hd5
      go_wp2_with fail
      have HN2 := Lib.hid (fun i (hi : i < j + 1) => (show edOK n row i from if h : i < j then HB2.out.2 i h else (show i = j by omega) ▸ HG.out))
      go_roundw
      case rel => exact ⟨j + 1, by omega, by go_num, HB3.out, HN2.out⟩
      case measure => simp [intOf]; omega
     ·obtain rfl : j = 0 := by omega
      have t4 : decide (0 < ((0 : Nat) : Int)) = false := by decide
      have t4n : decide (0 < 0) = false := by decide
      have t4m : decide ((0 : Int) < 0) = false := by decide
      have HG := Lib.hid (ed_good HJ.out.lt HJ.out.eq (by omega) (by omega) (show to < (n : Int) by omega) (fun p' hp' => by omega))
      refine wp_region_below (Below.refl W.heap.size W) (by kernel_rfl) (by kernel_rfl) ?_
      repeat (go_big_quiet_step (fail))
      refine wpQuiet_nil ?_
      intro w2 hw'
      have hw2 : Below W.heap.size W w2 := by obtain ⟨d9, rfl⟩ := hw'; exact d9.property
      have HB3 := Lib.hid (HBW.out.trans (hw2.mono HBW.out.size))
      clear hw' hw2 hd0 hd1 hd2 hd3
      go_wp2_with fail
      have HN2 := Lib.hid (fun i (hi : i < 1) => (show edOK n row i from (Nat.lt_one_iff.1 hi) ▸ HG.out))
      go_roundw
      case rel => exact ⟨1, by omega, rfl, HB3.out, HN2.out⟩
      case measure => simp [intOf]; omega
    ·obtain rfl : j = L := by omega
     have hdj : decide ((j : Int) < (j : Int)) = false := decide_eq_false (by omega)
     have hdjn : decide (j < j) = false := decide_eq_false (by omega)
     have HNX : Hid (Below w.heap.size w wr ∧ ∀ i row, i < k + 1 → m.ed[i]? = some row → ∀ j, j < row.length → edOK n row j) := ⟨HB2.out.1, fun i r hi hr j' hj' => by
      by_cases hik : i < k
      ·exact HB.out.2 i r hik hr j' hj'
      ·obtain rfl : i = k := by omega
       have e := hr.symm.trans HK.out
       injection e with e
       subst e
       exact HB2.out.2 j' (by have := HR.out; omega)⟩
     go_wp2_with fail
     go_roundw
     case rel => exact ⟨k + 1, by omega, by go_num, HNX⟩
     case measure => simp [intOf]; omega
  ·obtain rfl : k = n := by omega
   have hd : decide ((k : Int) < (k : Int)) = false := decide_eq_false (by omega)
   have hdn : decide (k < k) = false := decide_eq_false (by omega)
   go_wp2_with fail
   go_ret
   exact ⟨by rw [← HQ.out, vldZ_true (vz_good HN.out.1 (by omega) (by omega) HN.out.2 HB.out.2)]; rfl, HB.out.1⟩
set_option maxHeartbeats 8000000 in
theorem rvalidz_any (v : Value) (m : Mz) (w : World) (hm : McInZ w v m) (hrl : ∀ r ∈ m.ed, r.length ≤ 4611686018427387904) :
  Calls Tryz.prog 28 #[v] w fun e w' => e = .returned (.bool (vldZ m)) ∧ Below w.heap.size w w' := by
 obtain ⟨Ae, ce, Aa, ca, rfl, ⟨hce1, hce2⟩, hca1, hca2⟩ := mcz_form hm
 obtain ⟨he, ha⟩ : EsInZ w (.slice Ae m.ed.length ce) m.ed ∧ BlIn w (.slice Aa m.ac.length ca) m.ac := by
  obtain ⟨ve, va, e, h1, h2⟩ := hm
  injection e with e
  simp only [Array.mk.injEq, List.cons.injEq, and_true] at e
  obtain ⟨rfl, rfl⟩ := e
  exact ⟨h1, h2⟩
 obtain ⟨n, hn⟩ : ∃ n, m.ed.length = n := ⟨_, rfl⟩
 obtain ⟨na, hna⟩ : ∃ n, m.ac.length = n := ⟨_, rfl⟩
 obtain ⟨q, hq⟩ : ∃ q, vldZ m = q := ⟨_, rfl⟩
 have HE := Lib.hid he
 have HQ := Lib.hid hq
 have HN := Lib.hid (And.intro hn hna)
 have HRL := Lib.hid hrl
 rw [hn] at hce1
 rw [hna] at hca1
 rw [hq, hn, hna]
 have hb0 : Below w.heap.size w (w.alloc (.cells #[.slice Ae n ce, .slice Aa na ca] 34)) := (Below.refl _ _).alloc (Nat.le_refl _) _
 have HB0 := Lib.hid (And.intro hb0 (heap_alloc_new w (.cells #[.slice Ae n ce, .slice Aa na ca] 34)))
 clear he ha hn hna hm hq hrl hb0
 by_cases h1 : n < 1
 ·have hd1 : decide (n < 1) = true := decide_eq_true h1
  have hd1i : decide ((n : Int) < 1) = true := decide_eq_true (by omega)
  go_enter Tryz.func28, Tryz.ntmps28
  go_wp2_with fail
  go_ret
  exact ⟨by rw [← HQ.out, vldZ_false (fun hv => by have := hv.n1; have := HN.out.1; omega)]; rfl, HB0.out.1⟩
 have hd1 : decide (n < 1) = false := decide_eq_false h1
 have hd1i : decide ((n : Int) < 1) = false := decide_eq_false (by omega)
 by_cases h2 : 2000 < n
 ·have hd2 : decide (2000 < n) = true := decide_eq_true h2
  have hd2i : decide (2000 < (n : Int)) = true := decide_eq_true (by omega)
  go_enter Tryz.func28, Tryz.ntmps28
  go_wp2_with fail
  go_ret
  exact ⟨by rw [← HQ.out, vldZ_false (fun hv => by have := hv.n2; have := HN.out.1; omega)]; rfl, HB0.out.1⟩
 have hd2 : decide (2000 < n) = false := decide_eq_false h2
 have hd2i : decide (2000 < (n : Int)) = false := decide_eq_false (by omega)
 by_cases hne : ¬ na = n
 ·have hd3 : decide (na = n) = false := decide_eq_false hne
  have hd3i : decide ((na : Int) = (n : Int)) = false := decide_eq_false (by omega)
  have hd3b : ((na : Int) == (n : Int)) = false := by rw [beq_eq_false_iff_ne]; omega
  have hd3n : (na == n) = false := by rw [beq_eq_false_iff_ne]; exact hne
  go_enter Tryz.func28, Tryz.ntmps28
  go_wp2_with fail
  go_ret
  exact ⟨by rw [← HQ.out, vldZ_false (fun hv => by have := hv.ac; have := HN.out.1; have := HN.out.2; omega)]; rfl, HB0.out.1⟩
 have hne2 : n = na := (Decidable.not_not.1 hne).symm
 subst hne2
 clear hne
 go_enter Tryz.func28, Tryz.ntmps28
 go_wp2_with fail
 go_loopw [3] (fun v wr => ∃ k : Nat, k ≤ n ∧ v = .int .i64 (k : Int) ∧ w.heap.size < wr.heap.size ∧ Hid ((Below w.heap.size w wr ∧ wr.heap[w.heap.size]? = some (.cells #[.slice Ae n ce, .slice Aa n ca] 34 (0, 0))) ∧ ∀ i row, i < k → m.ed[i]? = some row → ∀ j, j < row.length → edOK n row j)) (fun v _ => n - (intOf v).toNat)
 case atStart => exact ⟨0, by omega, rfl, by simp, HB0.out, fun i row hi => absurd hi (Nat.not_lt_zero _)⟩
 case round =>
  obtain ⟨k, hk, rfl, hws, HB⟩ := hrel
  have hbx := HB.out.1.2
  obtain ⟨b0, b1⟩ : wr.cell? ⟨w.heap.size, 0, none⟩ = some (.slice Ae n ce) ∧ wr.cell? ⟨w.heap.size, 1, none⟩ = some (.slice Aa n ca) := by
   constructor <;> (rw [cell_of_row _ _ _ _ _ _ hbx]; rfl)
  clear hbx
  by_cases hlt : k < n
  ·have hd : decide ((k : Int) < (n : Int)) = true := decide_eq_true (by omega)
   have hdn : decide (k < n) = true := decide_eq_true hlt
   have hkm : k < m.ed.length := by rw [HN.out.1]; exact hlt
   obtain ⟨g, f, rv, rfl, -, hg, hcE, hed⟩ := HE.out.at_ hkm
   have hcE2 := (HB.out.1.1.cell (p := ⟨g, f + k, none⟩) hg).trans hcE
   have HK0 := List.getElem?_eq_getElem hkm
   obtain ⟨row, hrow⟩ : ∃ r, m.ed[k] = r := ⟨_, rfl⟩
   rw [hrow] at hed HK0
   have HK := Lib.hid HK0
   have hrl : row.length ≤ 4611686018427387904 := HRL.out _ (by rw [← hrow]; exact List.getElem_mem hkm)
   obtain ⟨Ar, cr, rfl, hrc, hrcell⟩ := hed
   obtain ⟨L, hL⟩ : ∃ L, row.length = L := ⟨_, rfl⟩
   rw [hL] at hrc hcE hcE2 hrl
   have HR := Lib.hid hL
   have HRC := Lib.hid hrcell
   have hgw : g < wr.heap.size := by have := HB.out.1.1.size; omega
   clear hL hrcell hrow hkm hcE HK0
   go_wp2_with fail
   go_loopw [5] (fun v wr => ∃ j : Nat, j ≤ L ∧ v = .int .i64 (j : Int) ∧ w.heap.size < wr.heap.size ∧ Hid ((Below w.heap.size w wr ∧ wr.heap[w.heap.size]? = some (.cells #[.slice (some ⟨g, f, none⟩) n ce, .slice Aa n ca] 34 (0, 0))) ∧ ∀ i, i < j → edOK n row i)) (fun v _ => L - (intOf v).toNat)
   case atStart => exact ⟨0, by omega, rfl, hws, HB.out.1, fun i hi => absurd hi (Nat.not_lt_zero _)⟩
   case round =>
    obtain ⟨j, hj, rfl, hws2, HB2⟩ := hrel
    by_cases hjl : j < L
    ·skip
     have hdj : decide ((j : Int) < (L : Int)) = true := decide_eq_true (by omega)
     have hdjn : decide (j < L) = true := decide_eq_true hjl
     have hjm : j < row.length := by rw [HR.out]; exact hjl
     obtain ⟨g2, f2, rfl, hg2, hcs⟩ := HRC.out.resolve_left (by intro e; rw [e] at hjm; simp at hjm)
     obtain ⟨⟨p0, p1, p2⟩, -⟩ := hcs j hjm
     obtain ⟨⟨lo, hi, to⟩, he⟩ : ∃ e, row[j] = e := ⟨_, rfl⟩
     rw [he] at p0 p1 p2
     simp only at p0 p1 p2
     have HJ : Hid (AtJ row j lo hi to) := ⟨hjm, he⟩
     have HCS := Lib.hid hcs
     have hgw2 : g2 < wr.heap.size := by have := HB2.out.1.1.size; omega
     have hd0 : ∀ d : BelT wr.heap.size wr, d.val.cell? ⟨g2, f2 + j * 3, none⟩ = some (.int .u8 (lo : Int)) := fun d => ((HB2.out.1.1.trans (d.property.mono HB2.out.1.1.size)).cell (p := ⟨g2, f2 + j * 3, none⟩) hg2).trans p0
     have hd1' : ∀ d : BelT wr.heap.size wr, d.val.cell? ⟨g2, f2 + j * 3 + 1, none⟩ = some (.int .u8 (hi : Int)) := fun d => ((HB2.out.1.1.trans (d.property.mono HB2.out.1.1.size)).cell (p := ⟨g2, f2 + j * 3 + 1, none⟩) hg2).trans p1
     have hd2' : ∀ d : BelT wr.heap.size wr, d.val.cell? ⟨g2, f2 + j * 3 + 2, none⟩ = some (.int .i64 to) := fun d => ((HB2.out.1.1.trans (d.property.mono HB2.out.1.1.size)).cell (p := ⟨g2, f2 + j * 3 + 2, none⟩) hg2).trans p2
     have hd3 : ∀ d : BelT wr.heap.size wr, g2 < d.val.heap.size := fun d => by have := d.property.size; omega
     have hd5 : ∀ d : BelT wr.heap.size wr, d.val.cell? ⟨w.heap.size, 0, none⟩ = some (.slice (some ⟨g, f, none⟩) n ce) := fun d => by
      rw [cell_of_row _ _ _ _ _ _ ((d.property.block w.heap.size hws2).trans HB2.out.1.2)]; rfl
     have hd6 : ∀ d : BelT wr.heap.size wr, w.heap.size < d.val.heap.size := fun d => by have := d.property.size; omega
     clear p0 p1 p2 hcs he
     by_cases ha : hi < lo
     ·have t1 : decide ((hi : Int) < (lo : Int)) = true := decide_eq_true (by omega)
      have t1n : decide (hi < lo) = true := decide_eq_true ha
      go_wp2_with fail
      refine wp_region_below (Below.refl wr.heap.size wr) (by kernel_rfl) (by kernel_rfl) ?_
      repeat (go_big_quiet_step (fail))
      refine wpQuiet_nil ?_
      intro w2 hw'
      have hw2 : Below wr.heap.size wr w2 := by obtain ⟨d9, rfl⟩ := hw'; exact d9.property
      have HB3 := Lib.hid (And.intro (HB2.out.1.1.trans (hw2.mono HB2.out.1.1.size)) ((hw2.block w.heap.size hws2).trans HB2.out.1.2))
      have hws3 : w.heap.size < w2.heap.size := by have := hw2.size; omega
      clear hw' hw2 hd0 hd1' hd2' hd3 hd5 hd6
      go_wp2_with fail
      go_ret
      exact ⟨by rw [← HQ.out, vldZ_false (vz_bad HN.out.1 HK.out HJ.out.lt (ed_bad1 HJ.out.lt HJ.out.eq (fun q => by omega)))]; rfl, HB3.out.1⟩
     have t1 : decide ((hi : Int) < (lo : Int)) = false := decide_eq_false (by omega)
     have t1n : decide (hi < lo) = false := decide_eq_false ha
     by_cases hb : to < 0
     ·have t2 : decide (to < 0) = true := decide_eq_true hb
      go_wp2_with fail
      refine wp_region_below (Below.refl wr.heap.size wr) (by kernel_rfl) (by kernel_rfl) ?_
      repeat (go_big_quiet_step (fail))
      refine wpQuiet_nil ?_
      intro w2 hw'
      have hw2 : Below wr.heap.size wr w2 := by obtain ⟨d9, rfl⟩ := hw'; exact d9.property
      have HB3 := Lib.hid (And.intro (HB2.out.1.1.trans (hw2.mono HB2.out.1.1.size)) ((hw2.block w.heap.size hws2).trans HB2.out.1.2))
      have hws3 : w.heap.size < w2.heap.size := by have := hw2.size; omega
      clear hw' hw2 hd0 hd1' hd2' hd3 hd5 hd6
      go_wp2_with fail
      go_ret
      exact ⟨by rw [← HQ.out, vldZ_false (vz_bad HN.out.1 HK.out HJ.out.lt (ed_bad1 HJ.out.lt HJ.out.eq (fun q => by omega)))]; rfl, HB3.out.1⟩
     have t2 : decide (to < 0) = false := decide_eq_false hb
     by_cases hc : (n : Int) ≤ to
     ·have t3 : decide ((n : Int) ≤ to) = true := decide_eq_true hc
      go_wp2_with fail
      refine wp_region_below (Below.refl wr.heap.size wr) (by kernel_rfl) (by kernel_rfl) ?_
      repeat (go_big_quiet_step (fail))
      refine wpQuiet_nil ?_
      intro w2 hw'
      have hw2 : Below wr.heap.size wr w2 := by obtain ⟨d9, rfl⟩ := hw'; exact d9.property
      have HB3 := Lib.hid (And.intro (HB2.out.1.1.trans (hw2.mono HB2.out.1.1.size)) ((hw2.block w.heap.size hws2).trans HB2.out.1.2))
      have hws3 : w.heap.size < w2.heap.size := by have := hw2.size; omega
      clear hw' hw2 hd0 hd1' hd2' hd3 hd5 hd6
      go_wp2_with fail
      go_ret
      exact ⟨by rw [← HQ.out, vldZ_false (vz_bad HN.out.1 HK.out HJ.out.lt (ed_bad1 HJ.out.lt HJ.out.eq (fun q => by omega)))]; rfl, HB3.out.1⟩
     have t3 : decide ((n : Int) ≤ to) = false := decide_eq_false hc
     by_cases hj0 : 0 < j
     ·have t4 : decide (0 < (j : Int)) = true := decide_eq_true (by omega)
      have t4n : decide (0 < j) = true := decide_eq_true hj0
      obtain ⟨p, hp⟩ : ∃ p, p + 1 = j := ⟨j - 1, by omega⟩
      have hw : IntKind.i64.wrap ((j : Int) - 1) = (p : Int) := by rw [IntWalk.i64_in _ (by omega)]; omega
      have hw2 : ((j : Int) - 1) = (p : Int) := by omega
      have hpl : p < L := by omega
      have t5 : decide (p < L) = true := decide_eq_true hpl
      have hpl2 : p < row.length := by rw [HR.out]; exact hpl
      obtain ⟨⟨-, p1, -⟩, -⟩ := HCS.out p hpl2
      obtain ⟨ph, hph⟩ : ∃ x, (row[p]'hpl2).hi = x := ⟨_, rfl⟩
      rw [hph] at p1
      have hd4 : ∀ d : BelT wr.heap.size wr, d.val.cell? ⟨g2, f2 + p * 3 + 1, none⟩ = some (.int .u8 (ph : Int)) := fun d => ((HB2.out.1.1.trans (d.property.mono HB2.out.1.1.size)).cell (p := ⟨g2, f2 + p * 3 + 1, none⟩) hg2).trans p1
      have HPH := Lib.hid (And.intro hp hph)
      clear hp p1 hph
      by_cases hle : lo ≤ ph
      ·have t6 : decide ((lo : Int) ≤ (ph : Int)) = true := decide_eq_true (by omega)
       have t6n : decide (lo ≤ ph) = true := decide_eq_true hle
       go_wp2_with fail
       refine wp_region_below (Below.refl wr.heap.size wr) (by kernel_rfl) (by kernel_rfl) ?_
       repeat (go_big_quiet_step (fail))
       refine wpQuiet_nil ?_
       intro w2 hw'
       have hw2 : Below wr.heap.size wr w2 := by obtain ⟨d9, rfl⟩ := hw'; exact d9.property
       have HB3 := Lib.hid (And.intro (HB2.out.1.1.trans (hw2.mono HB2.out.1.1.size)) ((hw2.block w.heap.size hws2).trans HB2.out.1.2))
       have hws3 : w.heap.size < w2.heap.size := by have := hw2.size; omega
       clear hw' hw2 hd0 hd1' hd2' hd3 hd5 hd6 hd4
       go_wp2_with fail
       go_ret
       exact ⟨by rw [← HQ.out, vldZ_false (vz_bad HN.out.1 HK.out HJ.out.lt (ed_bad2 HJ.out.lt HJ.out.eq HPH.out.1 HPH.out.2 hle))]; rfl, HB3.out.1⟩
      have t6 : decide ((lo : Int) ≤ (ph : Int)) = false := decide_eq_false (by omega)
      have t6n : decide (lo ≤ ph) = false := decide_eq_false hle
      have HG := Lib.hid (ed_good HJ.out.lt HJ.out.eq (by omega) (by omega) (show to < (n : Int) by omega) (fun p' hp' => by have h1 := HPH.out.1; have h2 := HPH.out.2; obtain rfl : p' = p := (by omega); omega))
      go_wp2_with fail
      refine wp_region_below (Below.refl wr.heap.size wr) (by kernel_rfl) (by kernel_rfl) ?_
      repeat (go_big_quiet_step (fail))
      refine wpQuiet_nil ?_
      intro w2 hw'
      have hw2 : Below wr.heap.size wr w2 := by obtain ⟨d9, rfl⟩ := hw'; exact d9.property
      have HB3 := Lib.hid (And.intro (HB2.out.1.1.trans (hw2.mono HB2.out.1.1.size)) ((hw2.block w.heap.size hws2).trans HB2.out.1.2))
      have hws3 : w.heap.size < w2.heap.size := by have := hw2.size; omega
      clear hw' hw2 hd0 hd1' hd2' hd3 hd5 hd6 hd4
      go_wp2_with fail
      have HN2 := Lib.hid (fun i (hi : i < j + 1) => (show edOK n row i from if h : i < j then HB2.out.2 i h else (show i = j by omega) ▸ HG.out))
      go_roundw
      case rel => exact ⟨j + 1, by omega, by go_num, hws3, HB3.out, HN2.out⟩
      case measure => simp [intOf]; omega
     ·obtain rfl : j = 0 := by omega
      have t4 : decide (0 < ((0 : Nat) : Int)) = false := by decide
      have t4n : decide (0 < 0) = false := by decide
      have t4m : decide ((0 : Int) < 0) = false := by decide
      simp only [Nat.zero_mul, Nat.add_zero] at hd0 hd1' hd2'
      have HG := Lib.hid (ed_good HJ.out.lt HJ.out.eq (by omega) (by omega) (show to < (n : Int) by omega) (fun p' hp' => by omega))
      go_wp2_with fail
      refine wp_region_below (Below.refl wr.heap.size wr) (by kernel_rfl) (by kernel_rfl) ?_
      repeat (go_big_quiet_step (fail))
      refine wpQuiet_nil ?_
      intro w2 hw'
      have hw2 : Below wr.heap.size wr w2 := by obtain ⟨d9, rfl⟩ := hw'; exact d9.property
      have HB3 := Lib.hid (And.intro (HB2.out.1.1.trans (hw2.mono HB2.out.1.1.size)) ((hw2.block w.heap.size hws2).trans HB2.out.1.2))
      have hws3 : w.heap.size < w2.heap.size := by have := hw2.size; omega
      clear hw' hw2 hd0 hd1' hd2' hd3 hd5 hd6
      go_wp2_with fail
      have HN2 := Lib.hid (fun i (hi : i < 1) => (show edOK n row i from (Nat.lt_one_iff.1 hi) ▸ HG.out))
      go_roundw
      case rel => exact ⟨1, by omega, rfl, hws3, HB3.out, HN2.out⟩
      case measure => simp [intOf]; omega
    ·obtain rfl : j = L := by omega
     have hdj : decide ((j : Int) < (j : Int)) = false := decide_eq_false (by omega)
     have hdjn : decide (j < j) = false := decide_eq_false (by omega)
     have HNX : Hid ((Below w.heap.size w wr ∧ wr.heap[w.heap.size]? = some (.cells #[.slice (some ⟨g, f, none⟩) n ce, .slice Aa n ca] 34 (0, 0))) ∧ ∀ i row, i < k + 1 → m.ed[i]? = some row → ∀ j, j < row.length → edOK n row j) := ⟨HB2.out.1, fun i r hi hr j' hj' => by
      by_cases hik : i < k
      ·exact HB.out.2 i r hik hr j' hj'
      ·obtain rfl : i = k := by omega
       have e := hr.symm.trans HK.out
       injection e with e
       subst e
       exact HB2.out.2 j' (by have := HR.out; omega)⟩
     go_wp2_with fail
     go_roundw
     case rel => exact ⟨k + 1, by omega, by go_num, hws2, HNX⟩
     case measure => simp [intOf]; omega
  ·obtain rfl : k = n := by omega
   have hd : decide ((k : Int) < (k : Int)) = false := decide_eq_false (by omega)
   have hdn : decide (k < k) = false := decide_eq_false (by omega)
   go_wp2_with fail
   go_ret
   exact ⟨by rw [← HQ.out, vldZ_true (vz_good HN.out.1 (by omega) (by omega) HN.out.2 HB.out.2)]; rfl, HB.out.1.1⟩
theorem sortE_len256 : ∀ {r : List Ed} {b : Nat}, SortE b r → (∀ e ∈ r, e.hi < 256) → r = [] ∨ r.length + b ≤ 256
 | [], b, _, _ => .inl rfl
 | e :: r, b, ⟨h1, h2, h3⟩, h => by
  have h4 := h e (by simp)
  rcases sortE_len256 h3 (fun x hx => h x (by simp [hx])) with rfl | h5
  ·exact .inr (by simp; omega)
  ·exact .inr (by simp; omega)
theorem VldZ.sm {w : World} {v : Value} {m : Mz} (h : McInZ w v m) (hv : VldZ m) : McSm (cvM m) := by
 have hby : ∀ r ∈ (cvM m).ed, ∀ e ∈ r, e.lo < 256 ∧ e.hi < 256 := by
  obtain ⟨ve, va, rfl, ⟨A, c, rfl, hc, h1⟩, h2⟩ := h
  intro r hr0 e he
  obtain ⟨r', hr', rfl⟩ := List.mem_map.1 hr0
  obtain ⟨k, hk, rfl⟩ := List.getElem_of_mem hr'
  obtain ⟨e', he', rfl⟩ := List.mem_map.1 he
  obtain ⟨i, hi, rfl⟩ := List.getElem_of_mem he'
  rcases h1 with h1 | ⟨g, f, rfl, hg, hcell⟩
  ·rw [h1] at hk; exact absurd hk (Nat.not_lt_zero _)
  ·obtain ⟨rv, q1, A', c', rfl, hc', q2⟩ := hcell k hk
   rcases q2 with q2 | ⟨g2, f2, rfl, hg2, q3⟩
   ·rw [q2] at hi; exact absurd hi (Nat.not_lt_zero _)
   ·obtain ⟨-, p1, p2, -⟩ := q3 i hi
    exact ⟨p1, p2⟩
 refine ⟨hby, fun r hr => ?_, by have := hv.n2; simp [cvM]; omega⟩
 rcases sortE_len256 (hv.vld.srt r hr) (fun e he => (hby r hr e he).2) with rfl | h5
 ·simp
 ·omega
set_option maxHeartbeats 4000000 in
theorem eqfe_any (v1 v2 : Value) (l1 l2 : List (List Ed)) (w : World) (h1 : EsIn w v1 l1) (h2 : EsIn w v2 l2) (hl : l1.length ≤ 1000000) (hr : ∀ r ∈ l1, r.length ≤ 10000) :
  Calls Tryz.prog 48 #[v1, v2, .func (.func 49) #[] #[]] w fun e w' => e = .returned (.bool (decide (l1 = l2))) ∧ Below w.heap.size w w' := by
 obtain ⟨A1, c1, rfl, hc1, hcs1⟩ := h1
 obtain ⟨A2, c2, rfl, hc2, hcs2⟩ := h2
 obtain ⟨n1, hn1⟩ : ∃ n, l1.length = n := ⟨_, rfl⟩
 obtain ⟨n2, hn2⟩ : ∃ n, l2.length = n := ⟨_, rfl⟩
 obtain ⟨q, hq⟩ : ∃ q, decide (l1 = l2) = q := ⟨_, rfl⟩
 have HN := Lib.hid (And.intro hn1 (And.intro hn2 hq))
 have HC := Lib.hid (And.intro hcs1 hcs2)
 have HRL := Lib.hid hr
 rw [hn1] at hc1 hl
 rw [hn2] at hc2
 rw [hn1, hn2, hq]
 clear hn1 hn2 hq hcs1 hcs2 hr
 by_cases hnn : n1 = n2
 ·subst hnn
  go_enter Tryz.func48, Tryz.ntmps48
  go_wp2_with fail
  go_loopw [17] (fun v wr => ∃ k : Nat, k ≤ n1 ∧ v = .int .i64 (k : Int) ∧ Hid (Below w.heap.size w wr ∧ ∀ i, i < k → l1[i]? = l2[i]?)) (fun v _ => n1 - (intOf v).toNat)
  case atStart => exact ⟨0, by omega, rfl, Below.refl _ _, fun i hi => absurd hi (Nat.not_lt_zero _)⟩
  case round =>
   obtain ⟨k, hk, rfl, HB⟩ := hrel
   by_cases hlt : k < n1
   ·have hd : decide ((k : Int) < (n1 : Int)) = true := decide_eq_true (by omega)
    have hdn : decide (k < n1) = true := decide_eq_true hlt
    have hk1 : k < l1.length := by rw [HN.out.1]; exact hlt
    have hk2 : k < l2.length := by rw [HN.out.2.1]; exact hlt
    obtain ⟨g1, f1, rfl, hg1, hq1⟩ := HC.out.1.resolve_left (by intro e; rw [e] at hk1; simp at hk1)
    obtain ⟨g2, f2, rfl, hg2, hq2⟩ := HC.out.2.resolve_left (by intro e; rw [e] at hk2; simp at hk2)
    obtain ⟨rv1, hc1', he1⟩ := hq1 k hk1
    obtain ⟨rv2, hc2', he2⟩ := hq2 k hk2
    obtain ⟨x1, hx1⟩ : ∃ x, l1[k] = x := ⟨_, rfl⟩
    obtain ⟨x2, hx2⟩ : ∃ x, l2[k] = x := ⟨_, rfl⟩
    rw [hx1] at he1
    rw [hx2] at he2
    have hrl : x1.length ≤ 10000 := by rw [← hx1]; exact HRL.out _ (List.getElem_mem hk1)
    have HX : Hid (l1[k]? = some x1 ∧ l2[k]? = some x2) := ⟨by rw [List.getElem?_eq_getElem hk1, hx1], by rw [List.getElem?_eq_getElem hk2, hx2]⟩
    have b1 := (HB.out.1.cell (p := ⟨g1, f1 + k, none⟩) hg1).trans hc1'
    have b2 := (HB.out.1.cell (p := ⟨g2, f2 + k, none⟩) hg2).trans hc2'
    have s1 : g1 < wr.heap.size := by have := HB.out.1.size; omega
    have s2 : g2 < wr.heap.size := by have := HB.out.1.size; omega
    have hcall := sleqe_any rv1 rv2 x1 x2 wr (he1.later HB.out.1) (he2.later HB.out.1) (by omega)
    obtain ⟨Ar1, cr1, rfl, -, -⟩ := he1
    obtain ⟨Ar2, cr2, rfl, -, -⟩ := he2
    obtain ⟨L1, hL1⟩ : ∃ n, x1.length = n := ⟨_, rfl⟩
    obtain ⟨L2, hL2⟩ : ∃ n, x2.length = n := ⟨_, rfl⟩
    obtain ⟨z, hz⟩ : ∃ z, decide (x1 = x2) = z := ⟨_, rfl⟩
    rw [hL1] at b1 hcall
    rw [hL2] at b2 hcall
    rw [hz] at hcall
    have HCALL := Lib.hid hcall
    have HZ := Lib.hid hz
    clear hx1 hx2 hc1' hc2' hq1 hq2 hL1 hL2 hcall hz hrl
    go_wp2_with fail
    go_enter Tryz.func49, Tryz.ntmps49
    go_wp2_with fail
    refine HCALL.out.mono ?_
    rintro e w2 ⟨rfl, hb2⟩
    have HB3 := Lib.hid (HB.out.1.trans (hb2.mono HB.out.1.size))
    clear hb2
    cases z with
    | true =>
     have hxx : x1 = x2 := of_decide_eq_true HZ.out
     have HI := Lib.hid (fun i (hi : i < k + 1) => (show l1[i]? = l2[i]? from if h : i < k then HB.out.2 i h else (show i = k by omega) ▸ (HX.out.1.trans (hxx ▸ HX.out.2.symm))))
     clear hxx
     go_wp2_with fail
     go_roundw
     case rel => exact ⟨k + 1, by omega, by go_num, HB3.out, HI.out⟩
     case measure => simp [intOf]; omega
    | false =>
     have HF : Hid (false = q) := by
      rw [← HN.out.2.2]
      refine (decide_eq_false fun e => of_decide_eq_false HZ.out ?_).symm
      have h1 := HX.out.1
      rw [e, HX.out.2] at h1
      exact (Option.some.inj h1).symm
     go_wp2_with fail
     go_ret
     exact ⟨ret_bool HF.out, HB3.out⟩
   ·obtain rfl : k = n1 := by omega
    have hd : decide ((k : Int) < (k : Int)) = false := decide_eq_false (by omega)
    have hdn : decide (k < k) = false := decide_eq_false (by omega)
    have HF : Hid (true = q) := by
     rw [← HN.out.2.2]
     refine (decide_eq_true (List.ext_getElem? fun i => ?_)).symm
     by_cases hi : i < k
     ·exact HB.out.2 i hi
     ·rw [List.getElem?_eq_none (by rw [HN.out.1]; omega), List.getElem?_eq_none (by rw [HN.out.2.1]; omega)]
    go_wp2_with fail
    go_ret
    exact ⟨ret_bool HF.out, HB.out.1⟩
 ·have HF : Hid (false = q) := by
   rw [← HN.out.2.2]
   refine (decide_eq_false fun e => hnn ?_).symm
   rw [← HN.out.1, ← HN.out.2.1, e]
  have hni : ¬ ((n1 : Int) = (n2 : Int)) := by omega
  go_enter Tryz.func48, Tryz.ntmps48
  go_wp2_with fail
  go_ret
  exact ⟨ret_bool HF.out, Below.refl _ _⟩
noncomputable def sameZ (m1 m2 : Mz) : Bool := vldZ m1 && (vldZ m2 && decide (cvM m1 = cvM m2))
theorem cvM_eq (m1 m2 : Mz) : decide (cvM m1 = cvM m2) = (decide (m1.ac = m2.ac) && decide ((cvM m1).ed = (cvM m2).ed)) := by
 have h : cvM m1 = cvM m2 ↔ m1.ac = m2.ac ∧ (cvM m1).ed = (cvM m2).ed := by
  constructor
  ·intro e; exact ⟨congrArg Mc.ac e, congrArg Mc.ed e⟩
  ·rintro ⟨h1, h2⟩
   show (⟨(cvM m1).ed, m1.ac⟩ : Mc) = ⟨(cvM m2).ed, m2.ac⟩
   rw [h1, h2]
 by_cases h1 : m1.ac = m2.ac
 ·by_cases h2 : (cvM m1).ed = (cvM m2).ed
  ·rw [decide_eq_true (h.2 ⟨h1, h2⟩), decide_eq_true h1, decide_eq_true h2]; rfl
  ·rw [decide_eq_false (fun e => h2 (h.1 e).2), decide_eq_true h1, decide_eq_false h2]; rfl
 ·rw [decide_eq_false (fun e => h1 (h.1 e).1), decide_eq_false h1]; rfl
theorem mc_parts {w : World} {Ae Aa : Option Addr} {n k ce ca : Nat} {m : Mc} (h : McIn w (.agg #[.slice Ae n ce, .slice Aa k ca]) m) : EsIn w (.slice Ae n ce) m.ed ∧ BlIn w (.slice Aa k ca) m.ac := by
 obtain ⟨ve, va, e, h1, h2⟩ := h
 injection e with e
 simp only [Array.mk.injEq, List.cons.injEq, and_true] at e
 obtain ⟨rfl, rfl⟩ := e
 exact ⟨h1, h2⟩
set_option maxHeartbeats 2000000 in
theorem msamez_any (v1 v2 : Value) (m1 m2 : Mz) (w : World) (hm1 : McInZ w v1 m1) (hm2 : McInZ w v2 m2) (hr1 : ∀ r ∈ m1.ed, r.length ≤ 4611686018427387904) (hr2 : ∀ r ∈ m2.ed, r.length ≤ 4611686018427387904) :
  Calls Tryz.prog 29 #[v1, v2] w fun e w' => e = .returned (.bool (sameZ m1 m2)) ∧ Below w.heap.size w w' := by
 obtain ⟨Ae1, ce1, Aa1, ca1, rfl, -, -⟩ := mcz_form hm1
 obtain ⟨Ae2, ce2, Aa2, ca2, rfl, -, -⟩ := mcz_form hm2
 have HM := Lib.hid (And.intro hm1 hm2)
 have HV1 := Lib.hid fun W (h : Below w.heap.size w W) => mvalidz_any _ m1 W (hm1.later h) hr1
 have HV2 := Lib.hid fun W (h : Below w.heap.size w W) => mvalidz_any _ m2 W (hm2.later h) hr2
 clear hm1 hm2 hr1 hr2
 obtain ⟨n1, hn1⟩ : ∃ n, m1.ed.length = n := ⟨_, rfl⟩
 obtain ⟨k1, hk1⟩ : ∃ n, m1.ac.length = n := ⟨_, rfl⟩
 obtain ⟨n2, hn2⟩ : ∃ n, m2.ed.length = n := ⟨_, rfl⟩
 obtain ⟨k2, hk2⟩ : ∃ n, m2.ac.length = n := ⟨_, rfl⟩
 rw [hn1, hk1, hn2, hk2] at HM
 rw [hn1, hk1] at HV1
 rw [hn2, hk2] at HV2
 rw [hn1, hk1, hn2, hk2]
 clear hn1 hk1 hn2 hk2
 obtain ⟨q, hq⟩ : ∃ q, sameZ m1 m2 = q := ⟨_, rfl⟩
 obtain ⟨x1, hx1⟩ : ∃ q, vldZ m1 = q := ⟨_, rfl⟩
 obtain ⟨x2, hx2⟩ : ∃ q, vldZ m2 = q := ⟨_, rfl⟩
 have HQ : Hid ((x1 && (x2 && decide (cvM m1 = cvM m2))) = q) := by rw [← hx1, ← hx2]; exact hq
 have HX := Lib.hid (And.intro hx1 hx2)
 rw [hq]
 rw [hx1] at HV1
 rw [hx2] at HV2
 clear hq hx1 hx2
 have HB0 : Hid (Bx w (.slice Ae1 n1 ce1) (.slice Aa1 k1 ca1) (.slice Ae2 n2 ce2) (.slice Aa2 k2 ca2) ((w.alloc (.cells #[.slice Ae1 n1 ce1, .slice Aa1 k1 ca1] 34)).alloc (.cells #[.slice Ae2 n2 ce2, .slice Aa2 k2 ca2] 34))) :=
  ⟨((Below.refl _ _).alloc (Nat.le_refl _) _).alloc (by simp) _, by simp, by rw [old_alloc _ _ _ (by simp)]; exact heap_alloc_new w _, by simpa using heap_alloc_new (w.alloc (.cells #[.slice Ae1 n1 ce1, .slice Aa1 k1 ca1] 34)) (.cells #[.slice Ae2 n2 ce2, .slice Aa2 k2 ca2] 34)⟩
 go_enter Tryz.func29, Tryz.ntmps29
 go_wp2_with fail
 refine (HV1.out _ HB0.out.bel).mono ?_
 rintro e w1 ⟨rfl, hb1⟩
 have HB1 := Lib.hid (HB0.out.later hb1)
 obtain ⟨b0, b1, b2, b3, s0, s1⟩ := HB1.out.cells
 clear hb1
 cases x1 with
 | false =>
  go_wp2_with fail
  go_ret
  exact ⟨ret_bool HQ.out, HB1.out.bel⟩
 | true =>
  go_wp2_with fail
  refine (HV2.out _ HB1.out.bel).mono ?_
  rintro e w2 ⟨rfl, hb2⟩
  have HB2 := Lib.hid (HB1.out.later hb2)
  clear hb2 b0 b1 b2 b3 s0 s1
  obtain ⟨b0, b1, b2, b3, s0, s1⟩ := HB2.out.cells
  cases x2 with
  | false =>
   go_wp2_with fail
   go_ret
   exact ⟨ret_bool HQ.out, HB2.out.bel⟩
  | true =>
   have hv1 := vldZ_iff.1 HX.out.1
   have hv2 := vldZ_iff.1 HX.out.2
   have hs1 := VldZ.sm HM.out.1 hv1
   have p1 := mc_parts (HM.out.1.cv hv1)
   have p2 := mc_parts (HM.out.2.cv hv2)
   have hac : m1.ac.length ≤ 1000000 := by have := hv1.ac; have := hv1.n2; omega
   have HEB := Lib.hid fun W (h : Below w.heap.size w W) => sleqb_any _ _ m1.ac m2.ac W (p1.2.later h) (p2.2.later h) hac
   have HEF := Lib.hid fun W (h : Below w.heap.size w W) => eqfe_any _ _ (cvM m1).ed (cvM m2).ed W (p1.1.later h) (p2.1.later h) (by have := hv1.n2; simp [cvM]; omega) hs1.rl
   have hq := HQ.out
   rw [cvM_eq, Bool.true_and, Bool.true_and] at hq
   obtain ⟨y1, hy1⟩ : ∃ y, decide (m1.ac = m2.ac) = y := ⟨_, rfl⟩
   obtain ⟨y2, hy2⟩ : ∃ y, decide ((cvM m1).ed = (cvM m2).ed) = y := ⟨_, rfl⟩
   rw [hy1, hy2] at hq
   rw [hy1] at HEB
   rw [hy2] at HEF
   have HY := Lib.hid hq
   clear hv1 hv2 hs1 p1 p2 hac hq hy1 hy2
   go_wp2_with fail
   refine (HEB.out _ HB2.out.bel).mono ?_
   rintro e w3 ⟨rfl, hb3⟩
   have HB3 := Lib.hid (HB2.out.later hb3)
   clear hb3 b0 b1 b2 b3 s0 s1
   obtain ⟨b0, b1, b2, b3, s0, s1⟩ := HB3.out.cells
   cases y1 with
   | false =>
    go_wp2_with fail
    go_ret
    exact ⟨ret_bool HY.out, HB3.out.bel⟩
   | true =>
    go_wp2_with fail
    refine (HEF.out _ HB3.out.bel).mono ?_
    rintro e w4 ⟨rfl, hb4⟩
    have HB4 := Lib.hid (HB3.out.later hb4)
    clear hb4
    go_wp2_with fail
    go_ret
    exact ⟨ret_bool HY.out, HB4.out.bel⟩
set_option maxHeartbeats 2000000 in
theorem rsamez_any (v1 v2 : Value) (m1 m2 : Mz) (w : World) (hm1 : McInZ w v1 m1) (hm2 : McInZ w v2 m2) (hr1 : ∀ r ∈ m1.ed, r.length ≤ 4611686018427387904) (hr2 : ∀ r ∈ m2.ed, r.length ≤ 4611686018427387904) :
  Calls Tryz.prog 10 #[v1, v2] w fun e w' => e = .returned (.bool (sameZ m1 m2)) ∧ Below w.heap.size w w' := by
 obtain ⟨Ae1, ce1, Aa1, ca1, rfl, -, -⟩ := mcz_form hm1
 obtain ⟨Ae2, ce2, Aa2, ca2, rfl, -, -⟩ := mcz_form hm2
 have HM := Lib.hid (And.intro hm1 hm2)
 have HV1 := Lib.hid fun W (h : Below w.heap.size w W) => rvalidz_any _ m1 W (hm1.later h) hr1
 have HV2 := Lib.hid fun W (h : Below w.heap.size w W) => rvalidz_any _ m2 W (hm2.later h) hr2
 clear hm1 hm2 hr1 hr2
 obtain ⟨n1, hn1⟩ : ∃ n, m1.ed.length = n := ⟨_, rfl⟩
 obtain ⟨k1, hk1⟩ : ∃ n, m1.ac.length = n := ⟨_, rfl⟩
 obtain ⟨n2, hn2⟩ : ∃ n, m2.ed.length = n := ⟨_, rfl⟩
 obtain ⟨k2, hk2⟩ : ∃ n, m2.ac.length = n := ⟨_, rfl⟩
 rw [hn1, hk1, hn2, hk2] at HM
 rw [hn1, hk1] at HV1
 rw [hn2, hk2] at HV2
 rw [hn1, hk1, hn2, hk2]
 clear hn1 hk1 hn2 hk2
 obtain ⟨q, hq⟩ : ∃ q, sameZ m1 m2 = q := ⟨_, rfl⟩
 obtain ⟨x1, hx1⟩ : ∃ q, vldZ m1 = q := ⟨_, rfl⟩
 obtain ⟨x2, hx2⟩ : ∃ q, vldZ m2 = q := ⟨_, rfl⟩
 have HQ : Hid ((x1 && (x2 && decide (cvM m1 = cvM m2))) = q) := by rw [← hx1, ← hx2]; exact hq
 have HX := Lib.hid (And.intro hx1 hx2)
 rw [hq]
 rw [hx1] at HV1
 rw [hx2] at HV2
 clear hq hx1 hx2
 have HB0 : Hid (Bx w (.slice Ae1 n1 ce1) (.slice Aa1 k1 ca1) (.slice Ae2 n2 ce2) (.slice Aa2 k2 ca2) ((w.alloc (.cells #[.slice Ae1 n1 ce1, .slice Aa1 k1 ca1] 34)).alloc (.cells #[.slice Ae2 n2 ce2, .slice Aa2 k2 ca2] 34))) :=
  ⟨((Below.refl _ _).alloc (Nat.le_refl _) _).alloc (by simp) _, by simp, by rw [old_alloc _ _ _ (by simp)]; exact heap_alloc_new w _, by simpa using heap_alloc_new (w.alloc (.cells #[.slice Ae1 n1 ce1, .slice Aa1 k1 ca1] 34)) (.cells #[.slice Ae2 n2 ce2, .slice Aa2 k2 ca2] 34)⟩
 go_enter Tryz.func10, Tryz.ntmps10
 go_wp2_with fail
 refine (HV1.out _ HB0.out.bel).mono ?_
 rintro e w1 ⟨rfl, hb1⟩
 have HB1 := Lib.hid (HB0.out.later hb1)
 obtain ⟨b0, b1, b2, b3, s0, s1⟩ := HB1.out.cells
 clear hb1
 cases x1 with
 | false =>
  go_wp2_with fail
  go_ret
  exact ⟨ret_bool HQ.out, HB1.out.bel⟩
 | true =>
  go_wp2_with fail
  refine (HV2.out _ HB1.out.bel).mono ?_
  rintro e w2 ⟨rfl, hb2⟩
  have HB2 := Lib.hid (HB1.out.later hb2)
  clear hb2 b0 b1 b2 b3 s0 s1
  obtain ⟨b0, b1, b2, b3, s0, s1⟩ := HB2.out.cells
  cases x2 with
  | false =>
   go_wp2_with fail
   go_ret
   exact ⟨ret_bool HQ.out, HB2.out.bel⟩
  | true =>
   have hv1 := vldZ_iff.1 HX.out.1
   have hv2 := vldZ_iff.1 HX.out.2
   have hs1 := VldZ.sm HM.out.1 hv1
   have hs2 := VldZ.sm HM.out.2 hv2
   have p1 := HM.out.1.cv hv1
   have p2 := HM.out.2.cv hv2
   have hq := HQ.out
   rw [Bool.true_and, Bool.true_and] at hq
   have HEQ := Lib.hid fun W (h : Below w.heap.size w W) => requal_any _ _ (cvM m1) (cvM m2) W (p1.later h) (p2.later h) hv1.vld hv2.vld hs1 hs2
   rw [hq] at HEQ
   clear hv1 hv2 hs1 hs2 p1 p2 hq
   go_wp2_with fail
   refine (HEQ.out _ HB2.out.bel).mono ?_
   rintro e w3 ⟨rfl, hb3⟩
   have HB3 := Lib.hid (HB2.out.later hb3)
   clear hb3
   go_wp2_with fail
   go_ret
   exact ⟨rfl, HB3.out.bel⟩
noncomputable def endsZ (m : Mz) (bs : List Nat) (i : Int) : List Nat := if vldZ m = true ∧ 0 ≤ i ∧ i ≤ (bs.length : Int) then rchF (cvM m) (bs.drop i.toNat) 0 i.toNat else []
noncomputable def accZ (m : Mz) (bs : List Nat) : Bool := vldZ m && acF (cvM m) bs 0
theorem McInZ.smv {w : World} {v : Value} {m : Mz} (h : McInZ w v m) (hv : VldZ m) : McSm (cvM m) := VldZ.sm h hv
set_option maxHeartbeats 2000000 in
theorem endsz_any (v vb : Value) (m : Mz) (bs : List Nat) (i : Int) (w : World) (hm : McInZ w v m) (hr : ∀ r ∈ m.ed, r.length ≤ 4611686018427387904) (hb : ByIn w vb bs) (hbl : bs.length ≤ 900000) (hby : ∀ b ∈ bs, b < 256) :
  Calls Tryz.prog 30 #[v, vb, .int .i64 i] w (RhPost (endsZ m bs i) w) := by
 by_cases hall : vldZ m = true ∧ 0 ≤ i ∧ i ≤ (bs.length : Int)
 ·obtain ⟨k, rfl⟩ : ∃ k : Nat, i = (k : Int) := ⟨i.toNat, by omega⟩
  have hyes : endsZ m bs (k : Int) = rchF (cvM m) (bs.drop k) 0 k := by unfold endsZ; rw [if_pos hall]; simp
  rw [hyes]
  have hv := vldZ_iff.1 hall.1
  exact ends_any v vb (cvM m) bs k w (hm.cv hv) hv.vld (hm.smv hv) (by have := hv.n1; simpa [cvM] using this) (by have := hv.n2; simpa [cvM] using this) hb hbl hby (by omega)
 have hno : endsZ m bs i = [] := by unfold endsZ; rw [if_neg hall]
 rw [hno]
 obtain ⟨Ae, ce, Aa, ca, rfl, -, -⟩ := mcz_form hm
 obtain ⟨Ab, cb, rfl, hcb, hbc⟩ := id hb
 obtain ⟨x, hx⟩ : ∃ q, vldZ m = q := ⟨_, rfl⟩
 have HV := Lib.hid fun W (h : Below w.heap.size w W) => mvalidz_any _ m W (hm.later h) hr
 obtain ⟨n, hn⟩ : ∃ n, m.ed.length = n := ⟨_, rfl⟩
 obtain ⟨na, hna⟩ : ∃ n, m.ac.length = n := ⟨_, rfl⟩
 obtain ⟨L, hL⟩ : ∃ n, bs.length = n := ⟨_, rfl⟩
 have HB0 : Hid (Below w.heap.size w (w.alloc (.cells #[.slice Ae m.ed.length ce, .slice Aa m.ac.length ca] 34))) := (Below.refl _ _).alloc (Nat.le_refl _) _
 rw [hx, hn, hna] at HV
 rw [hn, hna] at HB0
 rw [hn, hna, hL]
 rw [hx, hL] at hall
 clear hm hr hb hbl hby hbc hcb hn hna hL hno
 cases x with
 | false =>
  clear hall
  go_enter Tryz.func30, Tryz.ntmps30
  go_wp2_with fail
  refine (HV.out _ HB0.out).mono ?_
  rintro e w1 ⟨rfl, hb1⟩
  have HB1 := Lib.hid (HB0.out.trans (hb1.mono (by simp)))
  clear hb1
  go_wp2_with fail
  go_ret
  exact ⟨_, rfl, OR.nil_ _ _ _, HB1.out⟩
 | true =>
  by_cases h0 : i < 0
  ·have t1 : decide (i < 0) = true := decide_eq_true h0
   go_enter Tryz.func30, Tryz.ntmps30
   go_wp2_with fail
   refine (HV.out _ HB0.out).mono ?_
   rintro e w1 ⟨rfl, hb1⟩
   have HB1 := Lib.hid (HB0.out.trans (hb1.mono (by simp)))
   clear hb1
   go_wp2_with fail
   go_ret
   exact ⟨_, rfl, OR.nil_ _ _ _, HB1.out⟩
  ·have t1 : decide (i < 0) = false := decide_eq_false h0
   have t2 : decide ((L : Int) < i) = true := decide_eq_true (by
    by_cases h2 : (L : Int) < i
    ·exact h2
    ·exact absurd ⟨rfl, by omega, by omega⟩ hall)
   go_enter Tryz.func30, Tryz.ntmps30
   go_wp2_with fail
   refine (HV.out _ HB0.out).mono ?_
   rintro e w1 ⟨rfl, hb1⟩
   have HB1 := Lib.hid (HB0.out.trans (hb1.mono (by simp)))
   clear hb1
   go_wp2_with fail
   go_ret
   exact ⟨_, rfl, OR.nil_ _ _ _, HB1.out⟩
set_option maxHeartbeats 2000000 in
theorem acceptsz_any (v vb : Value) (m : Mz) (bs : List Nat) (w : World) (hm : McInZ w v m) (hr : ∀ r ∈ m.ed, r.length ≤ 4611686018427387904) (hb : ByIn w vb bs) (hbl : bs.length ≤ 900000) (hby : ∀ b ∈ bs, b < 256) :
  Calls Tryz.prog 25 #[v, vb] w fun e w' => e = .returned (.bool (accZ m bs)) ∧ Below w.heap.size w w' := by
 by_cases hv : VldZ m
 ·have e : accZ m bs = acF (cvM m) bs 0 := by unfold accZ; rw [vldZ_true hv, Bool.true_and]
  rw [e]
  exact accepts_any v vb (cvM m) bs w (hm.cv hv) hv.vld (hm.smv hv) (by have := hv.n1; simpa [cvM] using this) (by have := hv.n2; simpa [cvM] using this) hb hbl hby
 ·have e : accZ m bs = false := by unfold accZ; rw [vldZ_false hv, Bool.false_and]
  rw [e]
  obtain ⟨Ae, ce, Aa, ca, rfl, -, -⟩ := mcz_form hm
  obtain ⟨Ab, cb, rfl, hcb, hbc⟩ := id hb
  have HEN := Lib.hid fun W (h : Below w.heap.size w W) => endsz_any _ _ m bs 0 W (hm.later h) hr (hb.later h) hbl hby
  have he : endsZ m bs 0 = [] := by unfold endsZ; rw [if_neg (fun h => hv (vldZ_iff.1 h.1))]
  rw [he] at HEN
  obtain ⟨n, hn⟩ : ∃ n, m.ed.length = n := ⟨_, rfl⟩
  obtain ⟨na, hna⟩ : ∃ n, m.ac.length = n := ⟨_, rfl⟩
  obtain ⟨L, hL⟩ : ∃ n, bs.length = n := ⟨_, rfl⟩
  have HB0 : Hid (Below w.heap.size w (w.alloc (.cells #[.slice Ae m.ed.length ce, .slice Aa m.ac.length ca] 34))) := (Below.refl _ _).alloc (Nat.le_refl _) _
  rw [hn, hna] at HB0
  rw [hn, hna, hL] at HEN
  rw [hn, hna, hL]
  clear hm hr hb hbl hby hbc hcb hn hna hL he e hv
  go_enter Tryz.func25, Tryz.ntmps25
  go_wp2_with fail
  refine (HEN.out _ HB0.out).mono ?_
  rintro e w1 ⟨rv, rfl, hown, hb1⟩
  obtain ⟨A1, c1, rfl, -, -⟩ := own_form (show w1.ownsRow _ _ _ _ _ _ from hown)
  have HB1 := Lib.hid (HB0.out.trans (hb1.mono (by simp)))
  clear hown hb1
  go_wp2_with fail
  go_ret
  exact ⟨rfl, HB1.out⟩
theorem mcf {w : World} {v : Value} {m : Mc} (h : McIn w v m) : ∃ Ae ce Aa ca, v = .agg #[.slice Ae m.ed.length ce, .slice Aa m.ac.length ca] ∧ (m.ed.length ≤ ce ∧ ce ≤ 9223372036854775807) ∧ (m.ac.length ≤ ca ∧ ca ≤ 9223372036854775807) := by
 obtain ⟨ve, va, rfl, he, ha⟩ := h
 obtain ⟨Ae, ce, rfl, h1⟩ := he.form
 obtain ⟨Aa, ca, rfl, h2⟩ := ha.form
 exact ⟨Ae, ce, Aa, ca, rfl, h1, h2⟩
theorem trn_drop_hit {r : List Ed} {k c : Nat} {lo hi to : Nat} (h : k < r.length) (he : r[k] = ⟨lo, hi, to⟩) (h1 : lo ≤ c) (h2 : c ≤ hi) : trn (r.drop k) c = some to := by
 rw [List.drop_eq_getElem_cons h, he, trn, if_pos ⟨h1, h2⟩]
theorem trn_drop_miss {r : List Ed} {k c : Nat} {lo hi to : Nat} (h : k < r.length) (he : r[k] = ⟨lo, hi, to⟩) (h1 : ¬ (lo ≤ c ∧ c ≤ hi)) : trn (r.drop k) c = trn (r.drop (k + 1)) c := by
 rw [List.drop_eq_getElem_cons h, he, trn, if_neg h1]
set_option maxHeartbeats 2000000 in
theorem rnext_any (v : Value) (m : Mc) (s c : Nat) (w : World) (hm : McIn w v m) (hsm : McSm m) (hs : s < m.ed.length) :
  Calls Tryz.prog 53 #[v, .int .i64 (s : Int), .int .u8 (c : Int)] w fun e w' => e = .returned (.int .i64 (nxF m s c)) ∧ Below w.heap.size w w' := by
 obtain ⟨Ae, ce, Aa, ca, rfl, hcn, -⟩ := mcf hm
 obtain ⟨he, -⟩ := mc_parts hm
 obtain ⟨g, f, rv, rfl, -, hg, hcE, hed⟩ := he.at_ hs
 obtain ⟨n, hn⟩ : ∃ n, m.ed.length = n := ⟨_, rfl⟩
 obtain ⟨na, hna⟩ : ∃ n, m.ac.length = n := ⟨_, rfl⟩
 obtain ⟨row, hrow⟩ : ∃ r, m.ed[s] = r := ⟨_, rfl⟩
 have hrm : rowM m s = row := by unfold rowM; rw [List.getElem?_eq_getElem hs, hrow]; rfl
 rw [hrow] at hed
 have hrl : row.length ≤ 10000 := hsm.rl _ (by rw [← hrow]; exact List.getElem_mem hs)
 have hnl : n ≤ 100000 := by rw [← hn]; exact hsm.n
 obtain ⟨q, hq⟩ : ∃ q, nxF m s c = q := ⟨_, rfl⟩
 have hq2 : (match trn row c with | none => -1 | some t => (t : Int)) = q := by rw [← hq, ← hrm]; rfl
 obtain ⟨Ar, cr, rfl, hrc, hrcell⟩ := hed
 obtain ⟨L, hL⟩ : ∃ L, row.length = L := ⟨_, rfl⟩
 rw [hL] at hrc hcE hrl
 rw [hn] at hs hcn
 rw [hn, hna, hq]
 have HQ := Lib.hid hq2
 have HL := Lib.hid hL
 have HRC := Lib.hid hrcell
 have HCE := Lib.hid hcE
 have hds : decide (s < n) = true := decide_eq_true hs
 have HB0 : Hid (Below w.heap.size w (w.alloc (.cells #[.slice (some ⟨g, f, none⟩) n ce, .slice Aa na ca] 34)) ∧ (w.alloc (.cells #[.slice (some ⟨g, f, none⟩) n ce, .slice Aa na ca] 34)).heap[w.heap.size]? = some (.cells #[.slice (some ⟨g, f, none⟩) n ce, .slice Aa na ca] 34 (0, 0))) := ⟨(Below.refl _ _).alloc (Nat.le_refl _) _, heap_alloc_new w _⟩
 clear hm hsm he hn hna hrow hrm hq hq2 hrcell hL hcE
 go_enter Tryz.func53, Tryz.ntmps53
 go_wp2_with fail
 go_loopw [7] (fun v wr => ∃ k : Nat, k ≤ L ∧ v = .int .i64 (k : Int) ∧ w.heap.size < wr.heap.size ∧ Hid ((Below w.heap.size w wr ∧ wr.heap[w.heap.size]? = some (.cells #[.slice (some ⟨g, f, none⟩) n ce, .slice Aa na ca] 34 (0, 0))) ∧ trn (row.drop k) c = trn row c)) (fun v _ => L - (intOf v).toNat)
 case atStart => exact ⟨0, by omega, rfl, by simp, HB0.out, by rw [List.drop_zero]⟩
 case round =>
  obtain ⟨k, hk, rfl, hws, HB⟩ := hrel
  have hbx := HB.out.1.2
  obtain ⟨b0, b1⟩ : wr.cell? ⟨w.heap.size, 0, none⟩ = some (.slice (some ⟨g, f, none⟩) n ce) ∧ wr.cell? ⟨w.heap.size, 1, none⟩ = some (.slice Aa na ca) := by
   constructor <;> (rw [cell_of_row _ _ _ _ _ _ hbx]; rfl)
  have hgw : g < wr.heap.size := by have := HB.out.1.1.size; omega
  have hcs := (HB.out.1.1.cell (p := ⟨g, f + s, none⟩) hg).trans HCE.out
  clear hbx
  by_cases hlt : k < L
  ·have hd : decide ((k : Int) < (L : Int)) = true := decide_eq_true (by omega)
   have hdn : decide (k < L) = true := decide_eq_true hlt
   have hkm : k < row.length := by rw [HL.out]; exact hlt
   obtain ⟨g2, f2, rfl, hg2, hcells⟩ := HRC.out.resolve_left (by intro e; rw [e] at hkm; simp at hkm)
   obtain ⟨p0, p1, p2⟩ := hcells k hkm
   obtain ⟨⟨lo, hi, to⟩, he⟩ : ∃ e, row[k] = e := ⟨_, rfl⟩
   rw [he] at p0 p1 p2
   simp only at p0 p1 p2
   have q0 := (HB.out.1.1.cell (p := ⟨g2, f2 + k * 3, none⟩) hg2).trans p0
   have q1 := (HB.out.1.1.cell (p := ⟨g2, f2 + k * 3 + 1, none⟩) hg2).trans p1
   have q2 := (HB.out.1.1.cell (p := ⟨g2, f2 + k * 3 + 2, none⟩) hg2).trans p2
   have hgw2 : g2 < wr.heap.size := by have := HB.out.1.1.size; omega
   have HK := Lib.hid (fun h1 h2 => trn_drop_hit (c := c) hkm he h1 h2)
   have HKM := Lib.hid (fun h1 => trn_drop_miss (c := c) hkm he h1)
   clear p0 p1 p2 hcells he hkm
   have hba : Below w.heap.size w (wr.alloc (.cells #[.int .u8 (lo : Int), .int .u8 (hi : Int)] 56)) := HB.out.1.1.alloc HB.out.1.1.size _
   have hbb : (wr.alloc (.cells #[.int .u8 (lo : Int), .int .u8 (hi : Int)] 56)).heap[w.heap.size]? = some (.cells #[.slice (some ⟨g, f, none⟩) n ce, .slice Aa na ca] 34 (0, 0)) := (old_alloc _ _ _ hws).trans HB.out.1.2
   have HBA := Lib.hid (And.intro hba hbb)
   clear hba hbb
   by_cases hlo : lo ≤ c
   ·have t1 : decide ((lo : Int) ≤ (c : Int)) = true := decide_eq_true (by omega)
    have t1n : decide (lo ≤ c) = true := decide_eq_true hlo
    by_cases hhi : c ≤ hi
    ·have t2 : decide ((c : Int) ≤ (hi : Int)) = true := decide_eq_true (by omega)
     have t2n : decide (c ≤ hi) = true := decide_eq_true hhi
     have HF : Hid ((to : Int) = q) := by
      have h1 := HQ.out
      rw [← HB.out.2, HK.out hlo hhi] at h1
      exact h1
     go_wp2_with fail
     go_ret
     exact ⟨ret_int HF.out, HBA.out.1⟩
    ·have t2 : decide ((c : Int) ≤ (hi : Int)) = false := decide_eq_false (by omega)
     have t2n : decide (c ≤ hi) = false := decide_eq_false hhi
     have HN2 := Lib.hid ((HKM.out (fun h => hhi h.2)).symm.trans HB.out.2)
     go_wp2_with fail
     go_roundw
     case rel => exact ⟨k + 1, by omega, by go_num, by simp; omega, HBA.out, HN2.out⟩
     case measure => simp [intOf]; omega
   ·have t1 : decide ((lo : Int) ≤ (c : Int)) = false := decide_eq_false (by omega)
    have t1n : decide (lo ≤ c) = false := decide_eq_false hlo
    have HN2 := Lib.hid ((HKM.out (fun h => hlo h.1)).symm.trans HB.out.2)
    go_wp2_with fail
    go_roundw
    case rel => exact ⟨k + 1, by omega, by go_num, by simp; omega, HBA.out, HN2.out⟩
    case measure => simp [intOf]; omega
  ·obtain rfl : k = L := by omega
   have hd : decide ((k : Int) < (k : Int)) = false := decide_eq_false (by omega)
   have hdn : decide (k < k) = false := decide_eq_false (by omega)
   have HF : Hid ((-1 : Int) = q) := by
    have h1 := HQ.out
    rw [← HB.out.2, List.drop_of_length_le (by rw [HL.out]; omega)] at h1
    exact h1
   go_wp2_with fail
   go_ret
   exact ⟨ret_int HF.out, HB.out.1.1⟩
set_option maxHeartbeats 2000000 in
theorem reached_any (v vb : Value) (m : Mc) (bs : List Nat) (i : Nat) (w : World) (hm : McIn w v m) (hv : Vld m) (hsm : McSm m) (h1 : 1 ≤ m.ed.length) (hb : ByIn w vb bs) (hbl : bs.length ≤ 900000) (hby : ∀ b ∈ bs, b < 256) (hi : i ≤ bs.length) :
  Calls Tryz.prog 52 #[v, vb, .int .i64 (i : Int)] w (RhPost (rchF m (bs.drop i) 0 i) w) := by
 obtain ⟨ve, va, rfl, he, ha⟩ := id hm
 obtain ⟨Ae, ce, rfl, hce1, hce2⟩ := he.form
 obtain ⟨Aa, ca, rfl, hca1, hca2⟩ := ha.form
 obtain ⟨Ab, cb, rfl, hcb, hbc⟩ := id hb
 obtain ⟨n, hn⟩ : ∃ n, m.ed.length = n := ⟨_, rfl⟩
 have hac : m.ac.length = n := by rw [hv.len, hn]
 obtain ⟨L, hL⟩ : ∃ n, bs.length = n := ⟨_, rfl⟩
 have hnx := fun (s c : Nat) (W : World) (h : Below w.heap.size w W) (hs : s < m.ed.length) => rnext_any _ m s c W (hm.later h) hsm hs
 have hnn := hsm.n
 obtain ⟨R, hR⟩ : ∃ R, rchF m (bs.drop i) 0 i = R := ⟨_, rfl⟩
 rw [hn] at hce1 hnn hnx
 rw [hac] at hca1 hnx
 rw [hL] at hcb hbl hi
 have HNX := Lib.hid hnx
 have HA := Lib.hid ha
 have HV := Lib.hid hv
 have HBC := Lib.hid hbc
 have HN := Lib.hid (And.intro hn hac)
 have HL := Lib.hid hL
 have HI0 : Hid (RhI m bs R [] 0 i) := .inr ⟨0, rfl, h1, by rw [hL]; exact hi, hR⟩
 have hW0 : RhW w (.slice Ae n ce) (.slice Aa n ca) (.slice none 0 0) [] (w.alloc (.cells #[.slice Ae n ce, .slice Aa n ca] 34)) := ⟨OR.nil_ _ _ _, (Below.refl _ _).alloc (Nat.le_refl _) _, by simp, heap_alloc_new w _⟩
 have HW0 := Lib.hid hW0
 obtain ⟨i3, hi3, hk0, hk1, hk2⟩ := info_parts info_int
 have hri : RhPost (rchF m (bs.drop i) 0 i) w = RhPost R w := by rw [hR]
 rw [hri, hn, hac, hL]
 clear hnx ha he hv hbc hn hac hL hR hW0 hm hsm hb h1 hri
 go_enter Tryz.func52, Tryz.ntmps52
 go_wp2_with fail
 go_loopg [7, 8, 9] (L + 1 - i) (fun q s7 s8 s9 wr => ∃ (sx : Int) (k : Nat) (o : List Nat), s8 = .int .i64 sx ∧ s9 = .int .i64 (k : Int) ∧ o.length ≤ k ∧ k ≤ L + 1 ∧ q = L + 1 - k ∧ Hid (RhW w (.slice Ae n ce) (.slice Aa n ca) s7 o wr) ∧ Hid (RhI m bs R o sx k))
 case atStart => exact ⟨0, i, [], rfl, rfl, by simp, by omega, rfl, HW0, HI0⟩
 case round =>
  obtain ⟨sx, k, o, rfl, rfl, hok, hkL, hq, HW, HI⟩ := hrel
  have hbx := HW.out.box
  obtain ⟨x0, x1⟩ : wr.cell? ⟨w.heap.size, 0, none⟩ = some (.slice Ae n ce) ∧ wr.cell? ⟨w.heap.size, 1, none⟩ = some (.slice Aa n ca) := by
   constructor <;> (rw [cell_of_row _ _ _ _ _ _ hbx]; rfl)
  have hwz := HW.out.siz
  have hws : w.heap.size < wr.heap.size := by omega
  obtain ⟨Ar, cr, rfl⟩ : ∃ A c, u7 = .slice A o.length c := by
   obtain ⟨A, c, e, -⟩ := own_form (show wr.ownsRow _ _ _ _ _ _ from HW.out.own)
   exact ⟨A, c, e⟩
  clear hbx
  by_cases hsx : sx = -1
  ·have hd : decide ((0 : Int) ≤ -1) = false := by decide
   have HR : Hid (o = R) := by
    rcases HI.out with h | ⟨s, h, -⟩
    ·exact h.2
    ·omega
   subst hsx
   clear HI
   go_wp2_with fail
   go_ret
   exact ⟨_, rfl, HR.out ▸ HW.out.own.mono (by omega), HW.out.bel⟩
  ·obtain ⟨s, hsx2, hsm, hkb, hRR⟩ := HI.out.resolve_left (fun h => hsx h.1)
   subst hsx2
   rw [HN.out.1] at hsm
   rw [HL.out] at hkb
   have hsn : s < n := hsm
   have hds : decide (s < n) = true := decide_eq_true hsn
   have hd : decide ((0 : Int) ≤ (s : Int)) = true := decide_eq_true (by omega)
   obtain ⟨g0, f0, rfl, -, hg0, hac0⟩ := HA.out.at_ (k := s) (by rw [HN.out.2]; exact hsn)
   obtain ⟨b, hb⟩ : ∃ b, m.ac[s]'(by rw [HN.out.2]; exact hsn) = b := ⟨_, rfl⟩
   rw [hb] at hac0
   have hbg : (m.ac[s]?).getD false = b := by rw [List.getElem?_eq_getElem (by rw [HN.out.2]; exact hsn), hb]; rfl
   have hacw := (HW.out.bel.cell (p := ⟨g0, f0 + s, none⟩) hg0).trans hac0
   have hg1 : g0 < wr.heap.size := by have := HW.out.bel.size; omega
   have HST := Lib.hid (fun o' => rhI_step (o' := o') HV.out hRR hbg)
   clear hsx hsm hRR hbg hac0 hb HI
   cases b with
   | true =>
    by_cases hkl : k < L
    ·have hdk : decide (k < L) = true := decide_eq_true hkl
     have hne : decide (L ≤ k) = false := decide_eq_false (by omega)
     have hnei : decide ((L : Int) ≤ (k : Int)) = false := decide_eq_false (by omega)
     have hneb : (k == L) = false := by simp; omega
     have hnec : ((k : Int) == (L : Int)) = false := by simp; omega
     have hown := HW.out.own
     go_wp2_with (at_builtin; refine app_one inC_E Tryz.underlying22 hi3 hk0 hk1 hk2 rfl (by decide) _ _ _ _ o k _ (w.heap.size + 1) rfl rfl rfl rfl rfl hown (by omega) (by omega) ?_; intro v1 w1 hown1 hb1)
     have HW1 := Lib.hid (HW.out.next hown1 hb1)
     have HT := Lib.hid (HST.out (o ++ [k]) rfl)
     clear hown hown1 hb1 hacw hg1 x0 x1 hwz hws
     have hkb : k < bs.length := by rw [HL.out]; exact hkl
     obtain ⟨g, ff, rfl, hg, hcs⟩ := HBC.out.resolve_left (by intro e; rw [e] at hkb; simp at hkb)
     have hck := hcs k hkb
     obtain ⟨c, hc⟩ : ∃ c, bs[k] = c := ⟨_, rfl⟩
     rw [hc] at hck
     have hnext := HT.out.2 hkb
     rw [hc] at hnext
     have HNEXT := Lib.hid hnext
     have hbW := HW1.out.bel
     have hb1 := HW1.out.box
     have hz1 := HW1.out.siz
     have hd0 : ∀ d' : BelT w1.heap.size w1, d'.val.cell? ⟨w.heap.size, 0, none⟩ = some (.slice Ae n ce) := fun d' => by
      rw [cell_of_row _ _ _ _ _ _ ((d'.property.block w.heap.size (by omega)).trans hb1)]; rfl
     have hd1 : ∀ d' : BelT w1.heap.size w1, d'.val.cell? ⟨w.heap.size, 1, none⟩ = some (.slice (some ⟨g0, f0, none⟩) n ca) := fun d' => by
      rw [cell_of_row _ _ _ _ _ _ ((d'.property.block w.heap.size (by omega)).trans hb1)]; rfl
     have hd2 : ∀ d' : BelT w1.heap.size w1, w.heap.size < d'.val.heap.size := fun d' => by have := d'.property.size; omega
     have hd3 : ∀ d' : BelT w1.heap.size w1, d'.val.cell? ⟨g, ff + k, none⟩ = some (.int .u8 (c : Int)) := fun d' => ((hbW.trans (d'.property.mono hbW.size)).cell (p := ⟨g, ff + k, none⟩) hg).trans hck
     have hd4 : ∀ d' : BelT w1.heap.size w1, g < d'.val.heap.size := fun d' => by have := d'.property.size; have := hbW.size; omega
     have hcall : ∀ d' : BelT w1.heap.size w1, Calls Tryz.prog 53 #[.agg #[.slice Ae n ce, .slice (some ⟨g0, f0, none⟩) n ca], .int .i64 (s : Int), .int .u8 (c : Int)] d'.val fun e w' => e = .returned (.int .i64 (nxF m s c)) ∧ Below d'.val.heap.size d'.val w' := fun d' => HNX.out s c d'.val (hbW.trans (d'.property.mono hbW.size)) hsn
     obtain ⟨x, hx⟩ : ∃ x, nxF m s c = x := ⟨_, rfl⟩
     rw [hx] at hcall HNEXT
     have HCALL := Lib.hid hcall
     clear hck hcs hkb hc hnext hbW hb1 hcall hx
     refine wp_region_below (Below.refl w1.heap.size w1) (by kernel_rfl) (by kernel_rfl) ?_
     repeat (go_big_quiet_step ((go_at_call 53; exact Calls.below_of (Nat.le_refl _) (HCALL.out _))))
     refine wpQuiet_nil ?_
     intro w2 hw'
     have hw2 : Below w1.heap.size w1 w2 := by obtain ⟨d9, rfl⟩ := hw'; exact d9.property
     have HW2 := Lib.hid (HW1.out.later hw2)
     clear hw' hd0 hd1 hd2 hd3 hd4 hw2
     go_wp2_with fail
     go_roundg (L - k)
     case measure => omega
     case rel => exact ⟨x, k + 1, o ++ [k], rfl, by go_num, by (try simp); omega, by omega, by omega, HW2, HNEXT⟩
    ·obtain rfl : k = L := by omega
     have hdk : decide (k < k) = false := decide_eq_false (by omega)
     have hne : decide (k ≤ k) = true := decide_eq_true (Nat.le_refl _)
     have hnei : decide ((k : Int) ≤ (k : Int)) = true := decide_eq_true (Int.le_refl _)
     have hown := HW.out.own
     go_wp2_with (at_builtin; refine app_one inC_E Tryz.underlying22 hi3 hk0 hk1 hk2 rfl (by decide) _ _ _ _ o k _ (w.heap.size + 1) rfl rfl rfl rfl rfl hown (by omega) (by omega) ?_; intro v1 w1 hown1 hb1)
     have HW1 := Lib.hid (HW.out.next hown1 hb1)
     have HT := Lib.hid (HST.out (o ++ [k]) rfl)
     clear hown hown1 hb1 hacw hg1 x0 x1
     have HE := Lib.hid (HT.out.1 (Nat.le_of_eq HL.out))
     go_ret
     exact ⟨_, rfl, HE.out ▸ HW1.out.own.mono (by omega), HW1.out.bel⟩
   | false =>
    have HW1 := HW
    have HT := Lib.hid (HST.out o rfl)
    by_cases hkl : k < L
    ·have hdk : decide (k < L) = true := decide_eq_true hkl
     have hne : decide (L ≤ k) = false := decide_eq_false (by omega)
     have hnei : decide ((L : Int) ≤ (k : Int)) = false := decide_eq_false (by omega)
     have hneb : (k == L) = false := by simp; omega
     have hnec : ((k : Int) == (L : Int)) = false := by simp; omega
     have hkb : k < bs.length := by rw [HL.out]; exact hkl
     obtain ⟨g, ff, rfl, hg, hcs⟩ := HBC.out.resolve_left (by intro e; rw [e] at hkb; simp at hkb)
     have hck := hcs k hkb
     obtain ⟨c, hc⟩ : ∃ c, bs[k] = c := ⟨_, rfl⟩
     rw [hc] at hck
     have hnext := HT.out.2 hkb
     rw [hc] at hnext
     have HNEXT := Lib.hid hnext
     have hbW := HW1.out.bel
     have hb1 := HW1.out.box
     have hz1 := HW1.out.siz
     have hd0 : ∀ d' : BelT wr.heap.size wr, d'.val.cell? ⟨w.heap.size, 0, none⟩ = some (.slice Ae n ce) := fun d' => by
      rw [cell_of_row _ _ _ _ _ _ ((d'.property.block w.heap.size (by omega)).trans hb1)]; rfl
     have hd1 : ∀ d' : BelT wr.heap.size wr, d'.val.cell? ⟨w.heap.size, 1, none⟩ = some (.slice (some ⟨g0, f0, none⟩) n ca) := fun d' => by
      rw [cell_of_row _ _ _ _ _ _ ((d'.property.block w.heap.size (by omega)).trans hb1)]; rfl
     have hd2 : ∀ d' : BelT wr.heap.size wr, w.heap.size < d'.val.heap.size := fun d' => by have := d'.property.size; omega
     have hd3 : ∀ d' : BelT wr.heap.size wr, d'.val.cell? ⟨g, ff + k, none⟩ = some (.int .u8 (c : Int)) := fun d' => ((hbW.trans (d'.property.mono hbW.size)).cell (p := ⟨g, ff + k, none⟩) hg).trans hck
     have hd4 : ∀ d' : BelT wr.heap.size wr, g < d'.val.heap.size := fun d' => by have := d'.property.size; have := hbW.size; omega
     have hcall : ∀ d' : BelT wr.heap.size wr, Calls Tryz.prog 53 #[.agg #[.slice Ae n ce, .slice (some ⟨g0, f0, none⟩) n ca], .int .i64 (s : Int), .int .u8 (c : Int)] d'.val fun e w' => e = .returned (.int .i64 (nxF m s c)) ∧ Below d'.val.heap.size d'.val w' := fun d' => HNX.out s c d'.val (hbW.trans (d'.property.mono hbW.size)) hsn
     obtain ⟨x, hx⟩ : ∃ x, nxF m s c = x := ⟨_, rfl⟩
     rw [hx] at hcall HNEXT
     have HCALL := Lib.hid hcall
     clear hck hcs hkb hc hnext hbW hb1 hcall hx
     go_wp2_with fail
     try exact absurd (show ((k : Int) == (L : Int)) = true by assumption) (by rw [hnec]; decide)
     refine wp_region_below (Below.refl wr.heap.size wr) (by kernel_rfl) (by kernel_rfl) ?_
     repeat (go_big_quiet_step ((go_at_call 53; exact Calls.below_of (Nat.le_refl _) (HCALL.out _))))
     refine wpQuiet_nil ?_
     intro w2 hw'
     have hw2 : Below wr.heap.size wr w2 := by obtain ⟨d9, rfl⟩ := hw'; exact d9.property
     have HW2 := Lib.hid (HW1.out.later hw2)
     clear hw' hd0 hd1 hd2 hd3 hd4 hw2
     go_wp2_with fail
     go_roundg (L - k)
     case measure => omega
     case rel => exact ⟨x, k + 1, o, rfl, by go_num, by (try simp); omega, by omega, by omega, HW2, HNEXT⟩
    ·obtain rfl : k = L := by omega
     have hdk : decide (k < k) = false := decide_eq_false (by omega)
     have hne : decide (k ≤ k) = true := decide_eq_true (Nat.le_refl _)
     have hnei : decide ((k : Int) ≤ (k : Int)) = true := decide_eq_true (Int.le_refl _)
     have HE := Lib.hid (HT.out.1 (Nat.le_of_eq HL.out))
     go_wp2_with fail
     go_ret
     exact ⟨_, rfl, HE.out ▸ HW1.out.own.mono (by omega), HW1.out.bel⟩
set_option maxHeartbeats 2000000 in
theorem rendsz_any (v vb : Value) (m : Mz) (bs : List Nat) (i : Int) (w : World) (hm : McInZ w v m) (hr : ∀ r ∈ m.ed, r.length ≤ 4611686018427387904) (hb : ByIn w vb bs) (hbl : bs.length ≤ 900000) (hby : ∀ b ∈ bs, b < 256) :
  Calls Tryz.prog 31 #[v, vb, .int .i64 i] w (RhPost (endsZ m bs i) w) := by
 by_cases hall : vldZ m = true ∧ 0 ≤ i ∧ i ≤ (bs.length : Int)
 ·obtain ⟨k, rfl⟩ : ∃ k : Nat, i = (k : Int) := ⟨i.toNat, by omega⟩
  have hyes : endsZ m bs (k : Int) = rchF (cvM m) (bs.drop k) 0 k := by unfold endsZ; rw [if_pos hall]; simp
  rw [hyes]
  have hv := vldZ_iff.1 hall.1
  have hk : k ≤ bs.length := by omega
  have HRh := Lib.hid fun W (h : Below w.heap.size w W) => reached_any v vb (cvM m) bs k W ((hm.cv hv).later h) hv.vld (hm.smv hv) (by have := hv.n1; simpa [cvM] using this) (hb.later h) hbl hby hk
  have HV := Lib.hid fun W (h : Below w.heap.size w W) => rvalidz_any v m W (hm.later h) hr
  rw [vldZ_true hv] at HV
  obtain ⟨R, hR⟩ : ∃ R, rchF (cvM m) (bs.drop k) 0 k = R := ⟨_, rfl⟩
  rw [hR] at HRh
  have hri : RhPost (rchF (cvM m) (bs.drop k) 0 k) w = RhPost R w := by rw [hR]
  rw [hri]
  obtain ⟨Ae, ce, Aa, ca, rfl, -, -⟩ := mcz_form hm
  obtain ⟨Ab, cb, rfl, hcb, hbc⟩ := id hb
  obtain ⟨n, hn⟩ : ∃ n, m.ed.length = n := ⟨_, rfl⟩
  obtain ⟨na, hna⟩ : ∃ n, m.ac.length = n := ⟨_, rfl⟩
  obtain ⟨L, hL⟩ : ∃ n, bs.length = n := ⟨_, rfl⟩
  have HB0 : Hid (Below w.heap.size w (w.alloc (.cells #[.slice Ae m.ed.length ce, .slice Aa m.ac.length ca] 34))) := (Below.refl _ _).alloc (Nat.le_refl _) _
  have HROW := Lib.hid (heap_alloc_new w (.cells #[.slice Ae m.ed.length ce, .slice Aa m.ac.length ca] 34))
  have t1 : decide ((k : Int) < 0) = false := decide_eq_false (by omega)
  rw [hL] at hk
  have t2 : decide ((L : Int) < (k : Int)) = false := decide_eq_false (by omega)
  have t2n : decide (L < k) = false := decide_eq_false (by omega)
  rw [hn, hna] at HV HB0 HROW
  rw [hn, hna, hL] at HRh
  rw [hn, hna, hL]
  clear hm hr hb hbl hby hbc hcb hn hna hL hyes hv hall hR hri
  go_enter Tryz.func31, Tryz.ntmps31
  go_wp2_with fail
  refine (HV.out _ HB0.out).mono ?_
  rintro e w1 ⟨rfl, hb1⟩
  have hs1 := hb1.size
  simp only [World.size_alloc] at hs1
  have hbx := (hb1.block w.heap.size (by simp)).trans HROW.out
  obtain ⟨x0, x1⟩ : w1.cell? ⟨w.heap.size, 0, none⟩ = some (.slice Ae n ce) ∧ w1.cell? ⟨w.heap.size, 1, none⟩ = some (.slice Aa na ca) := by
   constructor <;> (rw [cell_of_row _ _ _ _ _ _ hbx]; rfl)
  have HB1 := Lib.hid (HB0.out.trans (hb1.mono (by simp)))
  have hws : w.heap.size < w1.heap.size := by omega
  clear hb1 hbx
  go_wp2_with fail
  refine (HRh.out _ HB1.out).mono ?_
  rintro e w2 ⟨rv, rfl, hown, hb2⟩
  have HX := Lib.hid (And.intro (hown.mono (show w.heap.size ≤ w1.heap.size by omega)) (HB1.out.trans (hb2.mono (by omega))))
  clear hown hb2
  go_wp2_with fail
  go_ret
  exact ⟨_, rfl, HX.out.1, HX.out.2⟩
 have hno : endsZ m bs i = [] := by unfold endsZ; rw [if_neg hall]
 rw [hno]
 obtain ⟨Ae, ce, Aa, ca, rfl, -, -⟩ := mcz_form hm
 obtain ⟨Ab, cb, rfl, hcb, hbc⟩ := id hb
 obtain ⟨x, hx⟩ : ∃ q, vldZ m = q := ⟨_, rfl⟩
 have HV := Lib.hid fun W (h : Below w.heap.size w W) => rvalidz_any _ m W (hm.later h) hr
 obtain ⟨n, hn⟩ : ∃ n, m.ed.length = n := ⟨_, rfl⟩
 obtain ⟨na, hna⟩ : ∃ n, m.ac.length = n := ⟨_, rfl⟩
 obtain ⟨L, hL⟩ : ∃ n, bs.length = n := ⟨_, rfl⟩
 have HB0 : Hid (Below w.heap.size w (w.alloc (.cells #[.slice Ae m.ed.length ce, .slice Aa m.ac.length ca] 34))) := (Below.refl _ _).alloc (Nat.le_refl _) _
 rw [hx, hn, hna] at HV
 rw [hn, hna] at HB0
 rw [hn, hna, hL]
 rw [hx, hL] at hall
 clear hm hr hb hbl hby hbc hcb hn hna hL hno
 cases x with
 | false =>
  clear hall
  go_enter Tryz.func31, Tryz.ntmps31
  go_wp2_with fail
  refine (HV.out _ HB0.out).mono ?_
  rintro e w1 ⟨rfl, hb1⟩
  have HB1 := Lib.hid (HB0.out.trans (hb1.mono (by simp)))
  clear hb1
  go_wp2_with fail
  go_ret
  exact ⟨_, rfl, OR.nil_ _ _ _, HB1.out⟩
 | true =>
  by_cases h0 : i < 0
  ·have t1 : decide (i < 0) = true := decide_eq_true h0
   go_enter Tryz.func31, Tryz.ntmps31
   go_wp2_with fail
   refine (HV.out _ HB0.out).mono ?_
   rintro e w1 ⟨rfl, hb1⟩
   have HB1 := Lib.hid (HB0.out.trans (hb1.mono (by simp)))
   clear hb1
   go_wp2_with fail
   go_ret
   exact ⟨_, rfl, OR.nil_ _ _ _, HB1.out⟩
  ·have t1 : decide (i < 0) = false := decide_eq_false h0
   have t2 : decide ((L : Int) < i) = true := decide_eq_true (by
    by_cases h2 : (L : Int) < i
    ·exact h2
    ·exact absurd ⟨rfl, by omega, by omega⟩ hall)
   go_enter Tryz.func31, Tryz.ntmps31
   go_wp2_with fail
   refine (HV.out _ HB0.out).mono ?_
   rintro e w1 ⟨rfl, hb1⟩
   have HB1 := Lib.hid (HB0.out.trans (hb1.mono (by simp)))
   clear hb1
   go_wp2_with fail
   go_ret
   exact ⟨_, rfl, OR.nil_ _ _ _, HB1.out⟩
def AcI (m : Mc) (bs : List Nat) (q : Bool) (sx : Int) (k : Nat) : Prop := (sx = -1 ∧ q = false) ∨ ∃ s : Nat, sx = (s : Int) ∧ s < m.ed.length ∧ acF m (bs.drop k) s = q
theorem AcI.step {m : Mc} {bs : List Nat} {q : Bool} {s k : Nat} (hv : Vld m) (h : acF m (bs.drop k) s = q) (hk : k < bs.length) : AcI m bs q (nxF m s bs[k]) (k + 1) := by
 rw [List.drop_eq_getElem_cons hk, acF_cons] at h
 unfold AcI nxF
 cases ht : trn (rowM m s) bs[k] with
 | none => rw [ht] at h; exact .inl ⟨rfl, h.symm⟩
 | some t => rw [ht] at h; exact .inr ⟨t, rfl, hv.trn_lt ht, h⟩
set_option maxHeartbeats 4000000 in
theorem racceptsz_any (v vb : Value) (m : Mz) (bs : List Nat) (w : World) (hm : McInZ w v m) (hr : ∀ r ∈ m.ed, r.length ≤ 4611686018427387904) (hb : ByIn w vb bs) (hbl : bs.length ≤ 900000) (hby : ∀ b ∈ bs, b < 256) :
  Calls Tryz.prog 32 #[v, vb] w fun e w' => e = .returned (.bool (accZ m bs)) ∧ Below w.heap.size w w' := by
 have HV := Lib.hid fun W (h : Below w.heap.size w W) => rvalidz_any v m W (hm.later h) hr
 by_cases hv0 : ¬ VldZ m
 ·skip
  have e : accZ m bs = false := by unfold accZ; rw [vldZ_false hv0, Bool.false_and]
  rw [e]
  rw [vldZ_false hv0] at HV
  obtain ⟨Ae, ce, Aa, ca, rfl, -, -⟩ := mcz_form hm
  obtain ⟨Ab, cb, rfl, hcb, hbc⟩ := id hb
  obtain ⟨n, hn⟩ : ∃ n, m.ed.length = n := ⟨_, rfl⟩
  obtain ⟨na, hna⟩ : ∃ n, m.ac.length = n := ⟨_, rfl⟩
  obtain ⟨L, hL⟩ : ∃ n, bs.length = n := ⟨_, rfl⟩
  have HB0 : Hid (Below w.heap.size w (w.alloc (.cells #[.slice Ae m.ed.length ce, .slice Aa m.ac.length ca] 34))) := (Below.refl _ _).alloc (Nat.le_refl _) _
  rw [hn, hna] at HB0 HV
  rw [hn, hna, hL]
  clear hm hr hb hbl hby hbc hcb hn hna hL e hv0
  go_enter Tryz.func32, Tryz.ntmps32
  go_wp2_with fail
  refine (HV.out _ HB0.out).mono ?_
  rintro e w1 ⟨rfl, hb1⟩
  have HB1 := Lib.hid (HB0.out.trans (hb1.mono (by simp)))
  clear hb1
  go_wp2_with fail
  go_ret
  exact ⟨rfl, HB1.out⟩
 have hv : VldZ m := Classical.not_not.1 hv0
 have e : accZ m bs = acF (cvM m) bs 0 := by unfold accZ; rw [vldZ_true hv, Bool.true_and]
 rw [e]
 rw [vldZ_true hv] at HV
 have hcv := hm.cv hv
 have hsm := hm.smv hv
 have hvd := hv.vld
 have hn1 : 0 < (cvM m).ed.length := by have := hv.n1; simp [cvM]; omega
 have hac0 : m.ac.length = (cvM m).ed.length := by rw [hv.ac]; simp [cvM]
 have HNX := Lib.hid fun (s c : Nat) (W : World) (h : Below w.heap.size w W) (hs : s < (cvM m).ed.length) => rnext_any v (cvM m) s c W (hcv.later h) hsm hs
 have HVD := Lib.hid hvd
 obtain ⟨M, hM⟩ : ∃ M, cvM m = M := ⟨_, rfl⟩
 have hma : M.ac = m.ac := by rw [← hM]; rfl
 rw [hM] at HNX HVD hcv hn1 hac0 ⊢
 obtain ⟨Ae, ce, Aa, ca, rfl, -, -⟩ := mcf hcv
 have HA := Lib.hid (mc_parts hcv).2
 obtain ⟨Ab, cb, rfl, hcb, hbc⟩ := id hb
 rw [hma] at HNX HV HA ⊢
 obtain ⟨n, hn⟩ : ∃ n, M.ed.length = n := ⟨_, rfl⟩
 have hna : m.ac.length = n := by rw [hac0, hn]
 obtain ⟨L, hL⟩ : ∃ n, bs.length = n := ⟨_, rfl⟩
 obtain ⟨q, hq⟩ : ∃ q, acF M bs 0 = q := ⟨_, rfl⟩
 have HI0 : Hid (AcI M bs q 0 0) := .inr ⟨0, rfl, hn1, by rw [List.drop_zero]; exact hq⟩
 have HAC := Lib.hid (And.intro hn (And.intro hna hma))
 rw [hn, hna] at HV
 rw [hn] at HNX hn1
 rw [hna] at HNX HA
 rw [hL] at hcb hbl
 have HL := Lib.hid hL
 have HBC := Lib.hid hbc
 rw [hn, hna, hL, hq]
 have HB0 : Hid (Below w.heap.size w (w.alloc (.cells #[.slice Ae n ce, .slice Aa n ca] 34)) ∧ (w.alloc (.cells #[.slice Ae n ce, .slice Aa n ca] 34)).heap[w.heap.size]? = some (.cells #[.slice Ae n ce, .slice Aa n ca] 34 (0, 0))) := ⟨(Below.refl _ _).alloc (Nat.le_refl _) _, heap_alloc_new w _⟩
 clear hm hr hb hby hv e hcv hsm hvd hM hma hac0 hn hna hL hq hbc
 go_enter Tryz.func32, Tryz.ntmps32
 go_wp2_with fail
 refine (HV.out _ HB0.out.1).mono ?_
 rintro e w1 ⟨rfl, hb1⟩
 have HB1 : Hid (Below w.heap.size w w1 ∧ w1.heap[w.heap.size]? = some (.cells #[.slice Ae n ce, .slice Aa n ca] 34 (0, 0))) := ⟨HB0.out.1.trans (hb1.mono (by simp)), (hb1.block _ (by simp)).trans HB0.out.2⟩
 have hw1 : w.heap.size < w1.heap.size := by have := hb1.size; simp at this; omega
 clear hb1
 go_wp2_with fail
 go_loopw [5, 6] (fun v5 v6 wr => ∃ (sx : Int) (k : Nat), k ≤ L ∧ v5 = .int .i64 sx ∧ v6 = .int .i64 (k : Int) ∧ w.heap.size < wr.heap.size ∧ Hid (Below w.heap.size w wr ∧ wr.heap[w.heap.size]? = some (.cells #[.slice Ae n ce, .slice Aa n ca] 34 (0, 0))) ∧ Hid (AcI M bs q sx k)) (fun _ v6 _ => L - (intOf v6).toNat)
 case atStart => exact ⟨0, 0, by omega, rfl, rfl, hw1, HB1, HI0⟩
 case round =>
  obtain ⟨sx, k, hk, rfl, rfl, hws, HB, HI⟩ := hrel
  have hbx := HB.out.2
  obtain ⟨x0, x1⟩ : wr.cell? ⟨w.heap.size, 0, none⟩ = some (.slice Ae n ce) ∧ wr.cell? ⟨w.heap.size, 1, none⟩ = some (.slice Aa n ca) := by
   constructor <;> (rw [cell_of_row _ _ _ _ _ _ hbx]; rfl)
  clear hbx
  by_cases hsx : sx = -1
  ·have HF : Hid (false = q) := by
    rcases HI.out with h | ⟨s, h, -⟩
    ·exact h.2.symm
    ·omega
   subst hsx
   have hdg : decide ((0 : Int) ≤ -1) = false := by decide
   clear HI
   by_cases hlt : k < L
   ·have hd : decide ((k : Int) < (L : Int)) = true := decide_eq_true (by omega)
    have hdn : decide (k < L) = true := decide_eq_true hlt
    go_wp2_with fail
    go_ret
    exact ⟨ret_bool HF.out, HB.out.1⟩
   ·have hd : decide ((k : Int) < (L : Int)) = false := decide_eq_false (by omega)
    have hdn : decide (k < L) = false := decide_eq_false hlt
    go_wp2_with fail
    go_ret
    exact ⟨ret_bool HF.out, HB.out.1⟩
  ·obtain ⟨s, hs1, hs2, hs3⟩ := HI.out.resolve_left (fun h => hsx h.1)
   subst hs1
   rw [HAC.out.1] at hs2
   have hds : decide (s < n) = true := decide_eq_true hs2
   have hdg : decide ((0 : Int) ≤ (s : Int)) = true := decide_eq_true (by omega)
   by_cases hlt : k < L
   ·have hd : decide ((k : Int) < (L : Int)) = true := decide_eq_true (by omega)
    have hdn : decide (k < L) = true := decide_eq_true hlt
    have hkb : k < bs.length := by rw [HL.out]; exact hlt
    obtain ⟨g, ff, rfl, hg, hcs⟩ := HBC.out.resolve_left (by intro e; rw [e] at hkb; simp at hkb)
    have hck := hcs k hkb
    have hst := AcI.step HVD.out hs3 hkb
    obtain ⟨c, hc⟩ : ∃ c, bs[k] = c := ⟨_, rfl⟩
    rw [hc] at hck hst
    have hbW := HB.out.1
    have hb1 := HB.out.2
    have hd0 : ∀ d' : BelT wr.heap.size wr, d'.val.cell? ⟨w.heap.size, 0, none⟩ = some (.slice Ae n ce) := fun d' => by
     rw [cell_of_row _ _ _ _ _ _ ((d'.property.block w.heap.size (by omega)).trans hb1)]; rfl
    have hd1 : ∀ d' : BelT wr.heap.size wr, d'.val.cell? ⟨w.heap.size, 1, none⟩ = some (.slice Aa n ca) := fun d' => by
     rw [cell_of_row _ _ _ _ _ _ ((d'.property.block w.heap.size (by omega)).trans hb1)]; rfl
    have hd2 : ∀ d' : BelT wr.heap.size wr, w.heap.size < d'.val.heap.size := fun d' => by have := d'.property.size; omega
    have hd3 : ∀ d' : BelT wr.heap.size wr, d'.val.cell? ⟨g, ff + k, none⟩ = some (.int .u8 (c : Int)) := fun d' => ((hbW.trans (d'.property.mono hbW.size)).cell (p := ⟨g, ff + k, none⟩) hg).trans hck
    have hd4 : ∀ d' : BelT wr.heap.size wr, g < d'.val.heap.size := fun d' => by have := d'.property.size; have := hbW.size; omega
    have hcall : ∀ d' : BelT wr.heap.size wr, Calls Tryz.prog 53 #[.agg #[.slice Ae n ce, .slice Aa n ca], .int .i64 (s : Int), .int .u8 (c : Int)] d'.val fun e w' => e = .returned (.int .i64 (nxF M s c)) ∧ Below d'.val.heap.size d'.val w' := fun d' => HNX.out s c d'.val (hbW.trans (d'.property.mono hbW.size)) hs2
    obtain ⟨x, hx⟩ : ∃ x, nxF M s c = x := ⟨_, rfl⟩
    rw [hx] at hcall hst
    have HCALL := Lib.hid hcall
    have HST := Lib.hid hst
    clear hck hcs hkb hc hst hbW hb1 hcall hx hs3 hsx HI
    go_wp2_with fail
    refine wp_region_below (Below.refl wr.heap.size wr) (by kernel_rfl) (by kernel_rfl) ?_
    repeat (go_big_quiet_step ((go_at_call 53; exact Calls.below_of (Nat.le_refl _) (HCALL.out _))))
    refine wpQuiet_nil ?_
    intro w2 hw'
    have hw2 : Below wr.heap.size wr w2 := by obtain ⟨d9, rfl⟩ := hw'; exact d9.property
    have HB2 : Hid (Below w.heap.size w w2 ∧ w2.heap[w.heap.size]? = some (.cells #[.slice Ae n ce, .slice Aa n ca] 34 (0, 0))) := ⟨HB.out.1.trans (hw2.mono HB.out.1.size), (hw2.block _ hws).trans HB.out.2⟩
    have hws2 : w.heap.size < w2.heap.size := by have := hw2.size; omega
    clear hw' hd0 hd1 hd2 hd3 hd4 hw2
    go_wp2_with fail
    go_roundw
    case rel => exact ⟨x, k + 1, by omega, rfl, by go_num, hws2, HB2, HST⟩
    case measure => simp [intOf]; omega
   ·obtain rfl : k = L := by omega
    have hd : decide ((k : Int) < (k : Int)) = false := decide_eq_false (by omega)
    have hdn : decide (k < k) = false := decide_eq_false (by omega)
    obtain ⟨g0, f0, rfl, -, hg0, hac0⟩ := HA.out.at_ (k := s) (by rw [HAC.out.2.1]; exact hs2)
    obtain ⟨b, hb⟩ : ∃ b, m.ac[s]'(by rw [HAC.out.2.1]; exact hs2) = b := ⟨_, rfl⟩
    rw [hb] at hac0
    have HF : Hid (b = q) := by
     rw [List.drop_of_length_le (by rw [HL.out]; omega)] at hs3
     rw [← hs3]
     show b = (M.ac[s]?).getD false
     rw [HAC.out.2.2, List.getElem?_eq_getElem (by rw [HAC.out.2.1]; exact hs2), hb]; rfl
    have hacw := (HB.out.1.cell (p := ⟨g0, f0 + s, none⟩) hg0).trans hac0
    have hg1 : g0 < wr.heap.size := by have := HB.out.1.size; omega
    clear hs3 hsx HI hb hac0
    go_wp2_with fail
    go_ret
    exact ⟨ret_bool HF.out, HB.out.1⟩
def zE (e : Ed) : EdZ := ⟨e.lo, e.hi, (e.to : Int)⟩
def zM (m : Mc) : Mz := ⟨m.ed.map (·.map zE), m.ac⟩
theorem edz_of {w : World} {v : Value} {r : List Ed} (h : EdIn w v r) (hb : ∀ e ∈ r, e.lo < 256 ∧ e.hi < 256 ∧ e.to < 1000000) : EdInZ w v (r.map zE) := by
 obtain ⟨A, c, rfl, hc, h⟩ := h
 refine ⟨A, c, by rw [List.length_map], by rw [List.length_map]; exact hc, ?_⟩
 rcases h with h | ⟨g, f, rfl, hg, hcell⟩
 ·exact .inl (by simp [h])
 ·refine .inr ⟨g, f, rfl, hg, fun i hi => ?_⟩
  have hi' : i < r.length := by simpa using hi
  obtain ⟨p0, p1, p2⟩ := hcell i hi'
  have hbi := hb _ (List.getElem_mem hi')
  rw [List.getElem_map]
  exact ⟨⟨p0, p1, p2⟩, hbi.1, hbi.2.1, by show (-9223372036854775808 : Int) ≤ ((r[i].to : Nat) : Int); omega, by show ((r[i].to : Nat) : Int) < 9223372036854775808; omega⟩
theorem mcz_of {w : World} {v : Value} {m : Mc} (h : McIn w v m) (hv : Vld m) (hs : McSm m) : McInZ w v (zM m) := by
 obtain ⟨ve, va, rfl, ⟨A, c, rfl, hc, h1⟩, h2⟩ := h
 refine ⟨_, va, rfl, ⟨A, c, by simp [zM], by simpa [zM] using hc, ?_⟩, h2⟩
 rcases h1 with h1 | ⟨g, f, rfl, hg, hcell⟩
 ·exact .inl (by simp [zM, h1])
 ·refine .inr ⟨g, f, rfl, hg, fun i hi => ?_⟩
  have hi' : i < m.ed.length := by simpa [zM] using hi
  obtain ⟨rv, q1, q2⟩ := hcell i hi'
  have he : (zM m).ed[i] = m.ed[i].map zE := by simp [zM]
  rw [he]
  refine ⟨rv, q1, edz_of q2 fun e hee => ?_⟩
  have hb := hs.by_ _ (List.getElem_mem hi') e hee
  have ht := hv.to _ (List.getElem_mem hi') e hee
  have hn := hs.n
  exact ⟨hb.1, hb.2, by omega⟩
theorem zM_rows {m : Mc} {k : Nat} (hs : ∀ r ∈ m.ed, r.length ≤ k) : ∀ r ∈ (zM m).ed, r.length ≤ k := fun r hr => by
 obtain ⟨r', hr', rfl⟩ := List.mem_map.1 hr
 rw [List.length_map]; exact hs r' hr'
theorem blin_tail {w : World} {g f n c : Nat} {l : List Bool} (h : BlIn w (.slice (some ⟨g, f, none⟩) n c) l) (hl : 1 ≤ l.length) : BlIn w (.slice (some ⟨g, f + 1, none⟩) (n - 1) (c - 1)) (l.drop 1) := by
 obtain ⟨A, c', e, hc, h⟩ := h
 injection e with e1 e2 e3
 subst e1 e2 e3
 refine ⟨_, _, by rw [List.length_drop], ⟨by rw [List.length_drop]; omega, by omega⟩, ?_⟩
 rcases h with h | ⟨g', f', e, hg, hcell⟩
 ·rw [h] at hl; exact absurd hl (by decide)
 ·injection e with e
  injection e with e1 e2
  subst e1 e2
  refine .inr ⟨g, f + 1, rfl, hg, fun i hi => ?_⟩
  have hi' : 1 + i < l.length := by rw [List.length_drop] at hi; omega
  have := hcell (1 + i) hi'
  rw [List.getElem_drop, ← this]
  congr 2
  omega
theorem owr_set {B : Nat} {w : World} {v : Value} {m : Mc} (h : OwR B w v m) (hv : Vld m) (hs : McSm m) {r0 : List Ed} (h0 : m.ed[0]? = some r0) (hr : 0 < r0.length) :
  ∃ gE cE g2 c2 vA x, v = .agg #[.slice (some ⟨gE, 0, none⟩) m.ed.length cE, vA] ∧ gE < w.heap.size ∧ w.cell? ⟨gE, 0, none⟩ = some (.slice (some ⟨g2, 0, none⟩) r0.length c2) ∧ B ≤ g2 ∧ g2 < w.heap.size ∧ w.frozen? ⟨g2, 2, none⟩ = false ∧ w.cell? ⟨g2, 2, none⟩ = some (.int .i64 x) ∧
   ∀ t : Int, -9223372036854775808 ≤ t → t < 9223372036854775808 → ∃ mz, (∀ r ∈ mz.ed, r.length ≤ 3) ∧ ∀ W : World, w.heap.size ≤ W.heap.size → (∀ k, B ≤ k → k < w.heap.size → W.heap[k]? = (w.setCell ⟨g2, 2, none⟩ (.int .i64 t)).heap[k]?) → McInZ W v mz := by
 obtain ⟨vE, vA, gv, rfl, hE, hA, hrow, hd, hsm⟩ := h
 obtain ⟨hlt0, e0⟩ := List.getElem?_eq_some_iff.1 h0
 obtain ⟨u0, hu0, hor0⟩ := hrow 0 r0 h0
 obtain ⟨AE, cE, rfl, hcE, hcE2⟩ := own_form hE
 obtain ⟨gE, rfl, hBE, hgE, hcellE⟩ := own_at1 hE (by omega)
 obtain ⟨A0, c2, rfl, hc2, hcs0⟩ := hor0.cells edC_E
 obtain ⟨g2, rfl, hB2, hg2, hcell2⟩ := hcs0.resolve_left (by intro e; rw [e] at hr; simp at hr)
 have hfr : w.frozen? ⟨g2, 2, none⟩ = false := World.ownsRow.frozenAt (show w.ownsRow _ _ _ _ _ _ from hor0) 2
 have hx : w.cell? ⟨g2, 2, none⟩ = some (.int .i64 (r0[0].to : Int)) := by
  have := (hcell2 0 hr 2 (by decide)).1
  simpa [edC] using this
 refine ⟨gE, cE, g2, c2, vA, _, rfl, hgE, by rw [hcellE 0 (by omega), hu0], hB2, hg2, hfr, hx, fun t ht1 ht2 => ?_⟩
 refine ⟨⟨(m.ed.map (·.map zE)).set 0 ((r0.map zE).set 0 ⟨r0[0].lo, r0[0].hi, t⟩), m.ac⟩, fun r hr' => ?_, fun W hz hW => ?_⟩
 ·rcases List.mem_or_eq_of_mem_set hr' with h1 | rfl
  ·obtain ⟨r', hr'', rfl⟩ := List.mem_map.1 h1
   obtain ⟨i, hi, rfl⟩ := List.getElem_of_mem hr''
   obtain ⟨r1, h2, h3⟩ := hsm i hi
   rw [List.getElem?_eq_getElem hi] at h2
   injection h2 with h2
   rw [List.length_map, h2]; exact h3
  ·obtain ⟨r1, h2, h3⟩ := hsm 0 (by omega)
   rw [h0] at h2
   injection h2 with h2
   rw [List.length_set, List.length_map, h2]; exact h3
 ·have hset : ∀ k, B ≤ k → k < w.heap.size → k ≠ g2 → W.heap[k]? = w.heap[k]? := fun k h1 h2 h3 => (hW k h1 h2).trans (Below.heap_setCell _ _ _ _ h3)
  have hneE : gE ≠ g2 := fun e => own_apart hE (show w.ownsRow _ _ _ _ _ _ from hor0) (by decide) gE rfl (by rw [e]; rfl)
  have hAk : BlIn W vA m.ac := BlIn.of_OR (OR.keep hA fun g hg => hset g (World.ownsRow.lt hA g hg).1 (World.ownsRow.lt hA g hg).2 fun e => own_apart (show w.ownsRow _ _ _ _ _ _ from hA) (show w.ownsRow _ _ _ _ _ _ from hor0) (by decide) g hg (by rw [e]; rfl))
  refine ⟨_, vA, rfl, ⟨some ⟨gE, 0, none⟩, cE, by simp, by simpa using ⟨hcE, hcE2⟩, .inr ⟨gE, 0, rfl, by omega, fun i hi => ?_⟩⟩, hAk⟩
  have hi' : i < m.ed.length := by simpa using hi
  obtain ⟨u, hu, hor⟩ := hrow i m.ed[i] (List.getElem?_eq_getElem hi')
  refine ⟨u, ?_, ?_⟩
  ·rw [Nat.zero_add]
   have h1 : W.cell? ⟨gE, i, none⟩ = w.cell? ⟨gE, i, none⟩ := World.cell?_of_block (a := ⟨gE, i, none⟩) (hset gE hBE hgE hneE)
   rw [h1, hcellE i hi', hu]
  ·have hbb : ∀ e ∈ m.ed[i], e.lo < 256 ∧ e.hi < 256 ∧ e.to < 1000000 := fun e hee => by
    have hb := hs.by_ _ (List.getElem_mem hi') e hee
    have ht := hv.to _ (List.getElem_mem hi') e hee
    have hn := hs.n
    exact ⟨hb.1, hb.2, by omega⟩
   by_cases hi0 : i = 0
   ·subst hi0
    have hu1 : u = .slice (some ⟨g2, 0, none⟩) r0.length c2 := by rw [hu0] at hu; injection hu with hu; exact hu.symm
    subst hu1
    rw [List.getElem_set_self]
    refine ⟨_, c2, by simp, by simpa using ⟨hc2, by
     obtain ⟨A', c', e', -, h'⟩ := own_form (show w.ownsRow _ _ _ _ _ _ from hor0)
     injection e' with _ _ e3; rw [e3]; exact h'⟩, .inr ⟨g2, 0, rfl, by omega, fun j hj => ?_⟩⟩
    have hj' : j < r0.length := by simpa using hj
    have hWg : W.heap[g2]? = (w.setCell ⟨g2, 2, none⟩ (.int .i64 t)).heap[g2]? := hW g2 hB2 hg2
    have hcW : ∀ o, W.cell? ⟨g2, o, none⟩ = (w.setCell ⟨g2, 2, none⟩ (.int .i64 t)).cell? ⟨g2, o, none⟩ := fun o => World.cell?_of_block (a := ⟨g2, o, none⟩) hWg
    have hce : ∀ o, o ≠ 2 → (w.setCell ⟨g2, 2, none⟩ (.int .i64 t)).cell? ⟨g2, o, none⟩ = w.cell? ⟨g2, o, none⟩ := fun o ho => by
     simp [World.cell?, World.setCell, Array.getElem?_modify]
     cases hh : w.heap[g2]? with
     | none => simp
     | some ob => cases ob <;> simp [Array.getElem?_setIfInBounds, Ne.symm ho]
    have hcs : (w.setCell ⟨g2, 2, none⟩ (.int .i64 t)).cell? ⟨g2, 2, none⟩ = some (.int .i64 t) := by
     simp [World.cell?, World.setCell, Array.getElem?_modify]
     simp [World.cell?] at hx
     cases hh : w.heap[g2]? with
     | none => rw [hh] at hx; simp at hx
     | some ob =>
      rw [hh] at hx
      cases ob with
      | cells cs T md =>
       simp at hx ⊢
       rw [Array.getElem?_setIfInBounds_self_of_lt]
       exact (Array.getElem?_eq_some_iff.1 hx).1
      | _ => simp at hx
    have p0 := (hcell2 j hj' 0 (by decide)).1
    have p1 := (hcell2 j hj' 1 (by decide)).1
    have p2 := (hcell2 j hj' 2 (by decide)).1
    have hb := hbb r0[j] (by rw [e0]; exact List.getElem_mem hj')
    simp only [Nat.zero_add]
    by_cases hj0 : j = 0
    ·subst hj0
     rw [List.getElem_set_self]
     refine ⟨⟨?_, ?_, ?_⟩, hb.1, hb.2.1, ht1, ht2⟩
     ·rw [hcW, hce _ (by decide)]; simpa [edC] using p0
     ·rw [hcW, hce _ (by decide)]; simpa [edC] using p1
     ·rw [hcW]; simpa using hcs
    ·rw [List.getElem_set_ne (Ne.symm hj0), List.getElem_map]
     refine ⟨⟨?_, ?_, ?_⟩, hb.1, hb.2.1, by show (-9223372036854775808 : Int) ≤ ((r0[j].to : Nat) : Int); omega, by show ((r0[j].to : Nat) : Int) < 9223372036854775808; omega⟩
     ·rw [hcW, hce _ (by omega)]; simpa [edC, zE] using p0
     ·rw [hcW, hce _ (by omega)]; simpa [edC, zE] using p1
     ·rw [hcW, hce _ (by omega)]; simpa [edC, zE] using p2
   ·have hne : u.ownBlock ≠ some g2 := fun hh => hd 0 i _ u (by omega) hu0 hu g2 rfl hh
    rw [List.getElem_set_ne (fun e => hi0 e.symm), List.getElem_map]
    exact edz_of (EdIn.of_OR (OR.keep hor fun g hg => hset g (World.ownsRow.lt hor g hg).1 (World.ownsRow.lt hor g hg).2 fun e => hne (by rw [hg, e]))) hbb
end Go.Proofs.YtjhmipidmpmlmaaGreatDoor
