/- The law MachineRuns: the call returns true, for every tape, machine, bytes and place. Printed by gen_runs.py from XLawR.src. -/
import Derived.Test.YtjhmipidmpmlmaaGreatDoorY26
import Derived.Test.YtjhmipidmpmlmaaGreatDoorY27
import Derived.Test.YtjhmipidmpmlmaaGreatDoorY25
import Derived.Deep.Cut
namespace Go.Proofs.YtjhmipidmpmlmaaGreatDoor
set_option linter.unusedVariables false
set_option linter.unusedSimpArgs false
set_option maxRecDepth 100000
open Go.RowKit
theorem TapeArg.later {A : Option Addr} {n : Nat} {w w' : World} (h : TapeArg A n w) (hb : Below w.heap.size w w') : TapeArg A n w' :=
 ⟨h.1, fun j hj => by
  obtain ⟨ad, x, h1, h2, h3⟩ := h.2 j hj
  exact ⟨ad, x, h1, Nat.lt_of_lt_of_le h2 hb.size, (hb.cell (p := ad.add j) (by rw [Reads_block]; exact h2)).trans h3⟩⟩
theorem info_mach : (Tryz.prog.info? 34).map (fun i => (i.zero, i.size, i.bytes)) = some (some (.agg #[.slice none 0 0, .slice none 0 0]), 2, 48) := by kernel_rfl
def Held (p : Prop) : Prop := p
theorem held_in {p : Prop} (h : Held p) : p := h
theorem held_out {p : Prop} (h : p) : Held p := h
theorem setCell_congr {w1 w2 : World} {k : Nat} {p : Addr} {v : Value} (h : w1.heap[k]? = w2.heap[k]?) : (w1.setCell p v).heap[k]? = (w2.setCell p v).heap[k]? := by
 simp [World.setCell, Array.getElem?_modify, h]
theorem McUp.kz {B b zA : Nat} {w W V : World} {v : Value} {m : Mc} (h : McUp B w v m) (hb : b < B) (hf : Fr b w W) (hk : KeepF [b, zA] [] W V) (hz : zA < B ∨ w.heap.size ≤ zA) : McIn V v m :=
 h V ⟨hk.os.trans hf.os, hk.tape.trans hf.tape, hk.output.trans hf.output, Nat.le_trans hf.size hk.size, fun k h1 hn => by
  have hkB : B ≤ k := by
   by_cases hh : B ≤ k
   ·exact hh
   ·exact absurd (List.mem_range.2 (by omega)) hn
  exact (hk.blk k (Nat.lt_of_lt_of_le h1 hf.size) (fun e => by simp at e; omega)).trans (hf.block k h1 (fun e => by injection e with e; omega)), fun k hk => by cases hk⟩
theorem own3_form {w : World} {B : Nat} {v : Value} {xs : List Value} {T : TypeId} (h : w.ownsRow B T 2 v (2 + 1) xs) : ∃ g c, v = .slice (some ⟨g, 0, none⟩) 3 c ∧ B ≤ g ∧ g < w.heap.size ∧ ∀ j, j < 6 → w.cell? ⟨g, j, none⟩ = xs[j]? := by
 obtain ⟨A, c, rfl, -, -⟩ := own_form h
 rcases h.2 with ⟨h1, -⟩ | ⟨g, cap, cur, h1, hb, hg, -⟩
 ·cases h1
 ·injection h1 with h2 h3 h4
  subst h2 h4
  exact ⟨g, c, rfl, hb, (Array.getElem?_eq_some_iff.1 hg).1, fun j hj => World.ownsRow.cellAt h j hj⟩
theorem or_int_at {B : Nat} {A : Option Addr} {n c : Nat} {R : List Nat} {w : World} {p : Nat} (h : OR 3 1 inC B (.slice A n c) R w) (hp : p < R.length) : ∃ g, A = some ⟨g, 0, none⟩ ∧ g < w.heap.size ∧ w.cell? ⟨g, p, none⟩ = some (.int .i64 ((R[p] : Nat) : Int)) := by
 obtain ⟨A', c', e, -, hor⟩ := h.cells inC_E
 injection e with e1 e2 e3
 obtain ⟨g, hA, -, hg, hcs⟩ := hor.resolve_left (by intro e; rw [e] at hp; simp at hp)
 refine ⟨g, e1.trans hA, hg, ?_⟩
 have := (hcs p hp 0 (by decide)).1
 rw [Nat.mul_one, Nat.add_zero] at this
 rw [this]; rfl
structure RunW (w : World) (zA gN : Nat) (Ae1 Aa1 Ae2 Aa2 Ae3 Aa3 : Option Addr) (e1 ce1 a1 ca1 l2 ce2 q2 ca2 l3 ce3 lK cK : Nat) (z2 z3 : Mz) (W : World) : Prop where
 tp : TapeOK (w.heap.size + 1) W
 bel : Below w.heap.size w W
 cA : W.heap[zA]? = some (.cells #[.slice Ae1 e1 ce1, .slice Aa1 a1 ca1, .slice Ae2 l2 ce2, .slice Aa2 q2 ca2] 34 (0, 0))
 cN : W.heap[gN]? = some (.cells #[.slice Ae3 l3 ce3, .slice Aa3 lK cK] 34 (0, 0))
 lt : w.heap.size + 1 < zA ∧ zA < gN
 i2 : ∀ V, KeepF [w.heap.size + 1, zA] [] W V → McInZ V (.agg #[.slice Ae2 l2 ce2, .slice Aa2 q2 ca2]) z2
 i3 : ∀ V, KeepF [w.heap.size + 1, zA] [] W V → McInZ V (.agg #[.slice Ae3 l3 ce3, .slice Aa3 lK cK]) z3
 r2 : ∀ r ∈ z2.ed, r.length ≤ 10000
 r3 : ∀ r ∈ z3.ed, r.length ≤ 10000
theorem mcz_cut {w : World} {Ae Aa : Option Addr} {l ce n ca : Nat} {m : Mz} {l' : List Bool} {Aa' : Option Addr} {n' ca' : Nat} (h : McInZ w (.agg #[.slice Ae l ce, .slice Aa n ca]) m) (hb : BlIn w (.slice Aa' n' ca') l') : McInZ w (.agg #[.slice Ae l ce, .slice Aa' n' ca']) ⟨m.ed, l'⟩ := by
 obtain ⟨ve, va, e, h1, -⟩ := h
 injection e with e
 simp only [Array.mk.injEq, List.cons.injEq, and_true] at e
 obtain ⟨rfl, rfl⟩ := e
 exact ⟨_, _, rfl, h1, hb⟩
theorem mcz_bools {w : World} {Ae Aa : Option Addr} {l ce n ca : Nat} {m : Mz} (h : McInZ w (.agg #[.slice Ae l ce, .slice Aa n ca]) m) : BlIn w (.slice Aa n ca) m.ac := by
 obtain ⟨ve, va, e, -, h2⟩ := h
 injection e with e
 simp only [Array.mk.injEq, List.cons.injEq, and_true] at e
 obtain ⟨rfl, rfl⟩ := e
 exact h2
def factR2 (s : Nat) (Ae1 Aa1 : Option Addr) (e1 ce1 a1 ca1 : Nat) (W : World) : Nat → Nat → Value → World → Prop
 | c, 0, x, w => x = .agg #[.slice Ae1 e1 ce1, .slice Aa1 a1 ca1]
 | c, 1, x, w => x = .pointer (some ⟨s + 1, 0, none⟩)
 | c, 2, x, w => c = 1 → ∃ m Ae ce Aa ca, x = .agg #[.slice Ae m.ed.length ce, .slice Aa m.ac.length ca] ∧ McUp W.heap.size w x m ∧ Vld m ∧ McSm m ∧ (1 ≤ m.ed.length ∧ m.ed.length ≤ 5)
 | _, _, _, _ => True
def factR24 (gA cA gT gF i k j : Nat) (Ae Aa At : Option Addr) (ne ce na ca nt ct : Nat) (x : Int) (R : List Nat) (W : World) : Nat → Nat → Value → World → Prop
 | c, 0, x', w' => x' = .slice (some ⟨gA, 0, none⟩) 3 cA
 | c, 1, x', w' => x' = .int .i64 (i : Int)
 | c, 2, x', w' => x' = .pointer (some ⟨gA, i * 2, none⟩)
 | c, 3, x', w' => x' = .agg #[.slice Ae ne ce, .slice Aa na ca]
 | c, 4, x', w' => x' = .slice (some ⟨gT, 0, none⟩) 2 2
 | c, 5, x', w' => x' = .int .i64 (k : Int)
 | c, 6, x', w' => x' = .pointer (some ⟨gT, k, none⟩)
 | c, 7, x', w' => x' = .slice At nt ct
 | c, 8, x', w' => x' = .slice (some ⟨gF, 0, none⟩) 2 2
 | c, 9, x', w' => x' = .int .i64 (j : Int)
 | c, 10, x', w' => x' = .pointer (some ⟨gF, j, none⟩)
 | c, 11, x', w' => x' = .int .i64 x
 | c, 12, x', w' => 1 ≤ c → ∃ A c', x' = .slice A R.length c' ∧ OR 3 1 inC W.heap.size x' R w'
 | c, 13, x', w' => x' = .slice (some ⟨gA, 0, none⟩) 3 cA
 | c, 14, x', w' => x' = .int .i64 (i : Int)
 | c, 15, x', w' => x' = .pointer (some ⟨gA, i * 2, none⟩)
 | c, 16, x', w' => x' = .agg #[.slice Ae ne ce, .slice Aa na ca]
 | c, 17, x', w' => x' = .slice (some ⟨gT, 0, none⟩) 2 2
 | c, 18, x', w' => x' = .int .i64 (k : Int)
 | c, 19, x', w' => x' = .pointer (some ⟨gT, k, none⟩)
 | c, 20, x', w' => x' = .slice At nt ct
 | c, 21, x', w' => x' = .slice (some ⟨gF, 0, none⟩) 2 2
 | c, 22, x', w' => x' = .int .i64 (j : Int)
 | c, 23, x', w' => x' = .pointer (some ⟨gF, j, none⟩)
 | c, 24, x', w' => x' = .int .i64 x
 | c, 25, x', w' => 2 ≤ c → ∃ A c', x' = .slice A R.length c' ∧ OR 3 1 inC W.heap.size x' R w'
 | _, _, _, _ => True
def factR7 (s k4 gE3 g2 l3 cE3 L0 cr0 : Nat) : Nat → Nat → Value → World → Prop
 | c, 0, x, w => x = .pointer (some ⟨k4, 0, none⟩)
 | c, 1, x, w => x = .slice (some ⟨gE3, 0, none⟩) l3 cE3
 | c, 2, x, w => x = .pointer (some ⟨gE3, 0, none⟩)
 | c, 3, x, w => x = .slice (some ⟨g2, 0, none⟩) L0 cr0
 | c, 4, x, w => x = .pointer (some ⟨s + 1, 0, none⟩)
 | c, 5, x, w => ∃ t : Int, -1 ≤ t ∧ t ≤ 6 ∧ x = .int .i64 t
 | c, 6, x, w => x = .pointer (some ⟨g2, 0, none⟩)
 | c, 7, x, w => x = .pointer (some ⟨g2, 2, none⟩)
 | _, _, _, _ => True
set_option maxHeartbeats 16000000 in
theorem runs_law (A : Option Addr) (n c : Nat) (v1 : Value) (m1 : Mz) (A2 : Option Addr) (n2 c2 : Nat) (bs : List Nat) (fr : Int) (w : World) (ht : TapeArg A n w) (hm1 : McInZ w v1 m1) (hr1 : ∀ r ∈ m1.ed, r.length ≤ 140737488351232)
  (hb : ByIn w (.slice A2 n2 c2) bs) (hby : ∀ b ∈ bs, b < 256) (hv : VrOK w) :
  Calls Tryz.prog 7 #[.slice A n c, v1, .slice A2 n2 c2, .int .i64 fr] w fun e w' => e = .returned (.bool true) ∧ Below w.heap.size w w' := by
 obtain ⟨Ae1, ce1, Aa1, ca1, rfl, -, -⟩ := mcz_form hm1
 obtain ⟨e1, he1⟩ : ∃ k, m1.ed.length = k := ⟨_, rfl⟩
 obtain ⟨a1, ha1⟩ : ∃ k, m1.ac.length = k := ⟨_, rfl⟩
 rw [he1, ha1] at hm1 ⊢
 have hb0 := (Below.refl w.heap.size w).alloc (Nat.le_refl _) (.cells #[.slice Ae1 e1 ce1, .slice Aa1 a1 ca1] 34)
 have hz0 : (w.alloc (.cells #[.slice Ae1 e1 ce1, .slice Aa1 a1 ca1] 34)).heap.size = w.heap.size + 1 := by simp
 have h0 := tape_new (c := c) (ht.later hb0)
 rw [hz0] at h0
 have H0 := Lib.hid (And.intro hm1 (And.intro hr1 (And.intro hb (And.intro hby hv))))
 have HT0 := Lib.hid h0
 clear hm1 hr1 hb hby hv ht h0 hb0 hz0 he1 ha1
 obtain ⟨im, him, hm0, hm1, hm2⟩ := info_parts info_mach
 go_enter Tryz.func7, Tryz.ntmps7
 go_wp2_with fail
 refine wp_named fun W hW => ?_
 have hT : TapeOK (w.heap.size + 1) W := by rw [hW]; exact HT0.out
 have hB : Below w.heap.size w W := by rw [hW]; exact ((Below.refl _ _).alloc (Nat.le_refl _) _).alloc (by simp) _
 have hR : W.heap[w.heap.size]? = some (.cells #[.slice Ae1 e1 ce1, .slice Aa1 a1 ca1] 34 (0, 0)) := by rw [hW, old_alloc _ _ _ (by simp)]; exact heap_alloc_new w _
 have hz : w.heap.size + 1 < W.heap.size := hT.lt
 have HW := Lib.hid (And.intro hT (And.intro hB (And.intro hR hz)))
 have hS0 : Fr (w.heap.size + 1) W W.drew ∧ TapeOK (w.heap.size + 1) W.drew := ⟨Fr.of_below (Below.refl _ _).drew, hT.below (Below.refl _ _).drew⟩
 clear hW hT hB hR hz HT0
 refine wp_region_chain 3 [2] (factR2 w.heap.size Ae1 Aa1 e1 ce1 a1 ca1 W) (fun c w' => Fr (w.heap.size + 1) W w' ∧ TapeOK (w.heap.size + 1) w') (by as_aux_lemma => kernel_rfl) (by as_aux_lemma => kernel_rfl) (by as_aux_lemma => kernel_rfl) (by as_aux_lemma => kernel_rfl) (by as_aux_lemma => kernel_rfl) (by as_aux_lemma => kernel_rfl) (by decide) hS0 ?_ ?_
 ·simp only [pq4, pq5]
  refine HSteps.pure (by decide) ?_ (HSteps.pure (by decide) ?_ (HSteps.eff 0 rfl ?_ (HSteps.nil)))
  ·intro v wz c hlo hS hE K hK
   simp only [putAll, Act.put, pq1, pq2, pq3, Nat.zero_add, Nat.reduceAdd, pq4, pq5] at hK ⊢
   have hrw := (hS.1.block w.heap.size (by have := HW.out.2.2.2; omega) (fun e => by injection e with e; omega)).trans HW.out.2.2.1
   obtain ⟨y0, y1⟩ : wz.cell? ⟨w.heap.size, 0, none⟩ = some (.slice Ae1 e1 ce1) ∧ wz.cell? ⟨w.heap.size, 1, none⟩ = some (.slice Aa1 a1 ca1) := by constructor <;> (rw [cell_of_row _ _ _ _ _ _ hrw]; rfl)
   have ly : w.heap.size < wz.heap.size := (Array.getElem?_eq_some_iff.1 hrw).1
   clear hrw
   have HX := Lib.hid hS
   clear hS hE hlo
   go_wp2_with fail
   exact hK.out _ rfl
  ·intro v wz c hlo hS hE K hK
   simp only [putAll, Act.put, pq1, pq2, pq3, Nat.zero_add, Nat.reduceAdd, pq4, pq5] at hK ⊢
   have HX := Lib.hid hS
   clear hS hE hlo
   go_wp2_with fail
   exact hK.out _ rfl
  ·intro v wz hS hE K hK
   simp only [putAll, Act.put, pq1, pq2, pq3, Nat.zero_add, Nat.reduceAdd, pq4, pq5] at hK ⊢
   have e1 : v 1 = _ := hE.1 rfl
   rw [e1] at hK ⊢
   have HX := Lib.hid hS
   clear hS hE
   go_wp2_with fail
   refine (own_any (w.heap.size + 1) wz HX.out.2).mono ?_
   rintro e wy ⟨rv, m, rfl, hup, hvd, hsm, hml, hty, hfy⟩
   obtain ⟨Ae, ce, Aa, ca, e1⟩ := mc_form (hup wy (kf_bel (Below.refl _ _)))
   have HP := Lib.hid (And.intro (hup.mono HX.out.1.size) (And.intro hvd (And.intro hsm (And.intro hml (And.intro hty (And.intro hfy e1))))))
   clear hup hvd hsm hml hty hfy
   subst e1
   go_wp2_with fail
   refine hK.out _ _ (fun j z hj h => ?_) ⟨HX.out.1.trans HP.out.2.2.2.2.2.1, HP.out.2.2.2.2.1⟩ (fun _ => ⟨m, Ae, ce, Aa, ca, rfl, HP.out.1, HP.out.2.1, HP.out.2.2.1, HP.out.2.2.2.1⟩)
   match j with
   | 0 | 1 => exact h
   | 2 => exact absurd rfl hj
   | _ + 3 => exact trivial
 ·intro v wz hS hF
  have e0 : v 0 = _ := hF 0 (by decide)
  have e1 : v 1 = _ := hF 1 (by decide)
  have E2 := hF 2 (by decide)
  simp only [putAll, Act.put, pq1, pq2, pq3, Nat.zero_add, Nat.reduceAdd, pq4, pq5, List.drop_succ_cons, List.drop_zero, e0, e1]
  clear hF e0 e1
  obtain ⟨m2, Ae2, ce2, Aa2, ca2, e2, hup2, hvd2, hsm2, hml2⟩ := E2 rfl
  rw [e2]
  have hin2 := hup2 wz (kf_bel (Below.refl _ _))
  have hz1 := hS.1.size
  rw [e2] at hup2
  obtain ⟨l2, hl2⟩ : ∃ k, m2.ed.length = k := ⟨_, rfl⟩
  obtain ⟨q2, hq2⟩ : ∃ k, m2.ac.length = k := ⟨_, rfl⟩
  rw [hl2, hq2] at hup2 ⊢
  have H2 := Lib.hid (And.intro hup2 (And.intro hvd2 (And.intro hsm2 (And.intro hml2 (And.intro hl2 hq2)))))
  have HS2 := Lib.hid hS
  clear E2 e2 hup2 hvd2 hsm2 hml2 hin2 hl2 hq2 hS
  go_wp2_with fail
  refine calls_named fun W3 hW3 => ?_
  have hb3 : Below wz.heap.size wz W3 := by rw [hW3]; exact (Below.refl _ _).alloc (Nat.le_refl _) _
  have hA3 : W3.heap[wz.heap.size]? = some (.cells #[.slice Ae1 e1 ce1, .slice Aa1 a1 ca1, .slice Ae2 l2 ce2, .slice Aa2 q2 ca2] 34 (0, 0)) := by rw [hW3]; exact heap_alloc_new wz _
  have hz3 : W3.heap.size = wz.heap.size + 1 := by rw [hW3]; simp
  have HW3 := Lib.hid (And.intro (HS2.out.1.trans (Fr.of_below hb3)) (And.intro (HS2.out.2.below hb3) (And.intro hb3 (And.intro hA3 hz3))))
  clear hW3 hb3 hA3 hz3
  refine (own2_any (w.heap.size + 1) W3 HW3.out.2.1).mono ?_
  rintro e w4 ⟨rv3, m3, rfl, hup3, hvd3, hsm3, hml3, ht4, hf4, hR3⟩
  obtain ⟨vE3, vA3, gv3, e3, hE3, hA3, hrow3, hd3, hs3⟩ := id hR3
  obtain ⟨AE3, cE3, rfl, hcE3, -⟩ := own_form hE3
  obtain ⟨gE3, rfl, hBE3, hgE3, hcl3⟩ := own_at1 hE3 (by omega)
  have hEb : w.heap.size + 1 < gE3 := by have := HW3.out.2.2.2.2; have := HS2.out.2.lt; omega
  have hac3 : m3.ac.length = m3.ed.length := hvd3.len
  obtain ⟨AK3, cK3, rfl, hcK3, -⟩ := own_form (show w4.ownsRow _ _ _ _ _ _ from hA3)
  obtain ⟨gK3, rfl, -, hgK3, -⟩ := own_at1 (show w4.ownsRow _ _ _ _ _ _ from hA3) (by omega)
  subst e3
  obtain ⟨r0, hr0, hr03⟩ := hs3 0 (by omega)
  obtain ⟨u0, hu0, hor0⟩ := hrow3 0 r0 hr0
  obtain ⟨Ar0, cr0, rfl, -, -⟩ := own_form (show w4.ownsRow _ _ _ _ _ _ from hor0)
  have hc00 := hcl3 0 (by omega)
  rw [hu0] at hc00
  obtain ⟨l3, hl3⟩ : ∃ k, m3.ed.length = k := ⟨_, rfl⟩
  obtain ⟨L0, hL0⟩ : ∃ k, r0.length = k := ⟨_, rfl⟩
  have hacl : m3.ac.length = l3 := hac3.trans hl3
  rw [hl3] at hcE3
  rw [hacl] at hcK3
  rw [hL0] at hc00
  have H3 := Lib.hid (And.intro hup3 (And.intro hvd3 (And.intro hsm3 (And.intro hml3 (And.intro hR3 (And.intro hr0 (And.intro hL0 (And.intro hl3 hacl))))))))
  have HF4 := Lib.hid (And.intro (HW3.out.1.trans hf4) (And.intro ht4 hf4))
  have hl31 : 1 ≤ l3 := by omega
  have hl35 : l3 ≤ 5 := by omega
  rw [hl3, hacl]
  clear hup3 hvd3 hsm3 hml3 ht4 hf4 hR3 hE3 hA3 hrow3 hd3 hs3 hcl3 hac3 hr0 hu0 hor0 hl3 hL0 hr03 hacl
  go_wp2_with fail
  refine calls_named fun W5 hW5 => ?_
  have hb5 : Below w4.heap.size w4 W5 := by rw [hW5]; exact (Below.refl _ _).alloc (Nat.le_refl _) _
  have hBx5 : W5.heap[w4.heap.size]? = some (.cells #[.slice (some ⟨gE3, 0, none⟩) l3 cE3, .slice (some ⟨gK3, 0, none⟩) l3 cK3] 34 (0, 0)) := by rw [hW5]; exact heap_alloc_new w4 _
  have hz5 : W5.heap.size = w4.heap.size + 1 := by rw [hW5]; simp
  have HW5 := Lib.hid (And.intro hb5 (And.intro hBx5 (And.intro hz5 (HF4.out.2.1.below hb5))))
  clear hW5 hb5 hBx5 hz5
  refine (next_any (w.heap.size + 1) 2 W5 (by decide) (by decide) HW5.out.2.2.2).mono ?_
  rintro e w6 ⟨r, rfl, hr1, hr2, ht6, hf6⟩
  have hlt4 : w.heap.size + 1 < w4.heap.size := HF4.out.2.1.lt
  have hBx6 := (hf6.block w4.heap.size (by rw [HW5.out.2.2.1]; omega) (fun e => by injection e with e; omega)).trans HW5.out.2.1
  obtain ⟨x0, x1⟩ : w6.cell? ⟨w4.heap.size, 0, none⟩ = some (.slice (some ⟨gE3, 0, none⟩) l3 cE3) ∧ w6.cell? ⟨w4.heap.size, 1, none⟩ = some (.slice (some ⟨gK3, 0, none⟩) l3 cK3) := by constructor <;> (rw [cell_of_row _ _ _ _ _ _ hBx6]; rfl)
  have fx1 : w6.frozen? ⟨w4.heap.size, 1, none⟩ = false := by simp [World.frozen?, hBx6]
  have lx : w4.heap.size < w6.heap.size := (Array.getElem?_eq_some_iff.1 hBx6).1
  have HF6 := Lib.hid (And.intro hf6 (And.intro ht6 hBx6))
  clear hf6 ht6 hBx6
  have hltz : w.heap.size + 1 < wz.heap.size := HS2.out.2.lt
  have hz34 : wz.heap.size + 1 ≤ w4.heap.size := by have := HF4.out.2.2.size; have := HW3.out.2.2.2.2; omega
  have hz46 : w4.heap.size + 1 ≤ w6.heap.size := by have := HF6.out.1.size; have := HW5.out.2.2.1; omega
  have hF46 : Fr (w.heap.size + 1) w4 w6 := (Fr.of_below HW5.out.1).trans HF6.out.1
  have HF46 := Lib.hid hF46
  have HF6z := Lib.hid (((Fr.of_below HW3.out.2.2.1).trans HF4.out.2.2).trans hF46)
  have hA6 : w6.heap[wz.heap.size]? = some (.cells #[.slice Ae1 e1 ce1, .slice Aa1 a1 ca1, .slice Ae2 l2 ce2, .slice Aa2 q2 ca2] 34 (0, 0)) := (hF46.block _ (by omega) (fun e => by injection e with e; omega)).trans ((HF4.out.2.2.block _ (by have := HW3.out.2.2.2.2; omega) (fun e => by injection e with e; omega)).trans HW3.out.2.2.2.1)
  have HM2 := Lib.hid (fun W8 V (hf : Fr (w.heap.size + 1) wz W8) (hk : KeepF [w.heap.size + 1, wz.heap.size] [] W8 V) => mcz_of (McUp.kz H2.out.1 (by have := HW.out.2.2.2; omega) hf hk (.inr (Nat.le_refl _))) H2.out.2.1 H2.out.2.2.1)
  have HM3 := Lib.hid (fun W8 V (hf : Fr (w.heap.size + 1) w4 W8) (hk : KeepF [w.heap.size + 1, wz.heap.size] [] W8 V) => mcz_of (McUp.kz H3.out.1 (by have := HW3.out.2.2.2.2; omega) hf hk (.inl (by have := HW3.out.2.2.2.2; omega))) H3.out.2.1 H3.out.2.2.1)
  have hKl : 1 ≤ (zM m3).ac.length := by show 1 ≤ m3.ac.length; rw [H3.out.2.2.2.2.2.2.2.2]; exact hl31
  rw [H3.out.2.2.2.2.2.2.2.1, H3.out.2.2.2.2.2.2.2.2] at HM3
  clear hF46
  go_upto_if 31 with fail
  go_cut [] from 32 (fun wx => ∃ AK lK cK z3, Hid (RunW w wz.heap.size w4.heap.size Ae1 Aa1 Ae2 Aa2 (some ⟨gE3, 0, none⟩) AK e1 ce1 a1 ca1 l2 ce2 q2 ca2 l3 cE3 lK cK (zM m2) z3 wx))
  case first =>
   as_aux_lemma =>
    rcases (show r = 0 ∨ r = 1 by omega) with rfl | rfl
    ·have hd1 : decide (1 ≤ l3) = true := decide_eq_true hl31
     by_cases hck : cK3 - 1 = 0
     ·go_wp2_with fail
      go_meet
      case rel =>
       have hbel : Below (wz.heap.size + 1) w6 (w6.setCell ⟨w4.heap.size, 1, none⟩ (.slice (some ⟨gK3, 0, none⟩) (l3 - 1) (0))) := (Below.refl _ _).setCell (by show _ ≤ w4.heap.size; omega) _
       have hF8 : Fr (w.heap.size + 1) wz (w6.setCell ⟨w4.heap.size, 1, none⟩ (.slice (some ⟨gK3, 0, none⟩) (l3 - 1) (0))) := fr_low (HF6z.out) (hbel.mono (Nat.le_succ _))
       refine ⟨some ⟨gK3, 0, none⟩, l3 - 1, 0, ⟨(zM m3).ed, []⟩, ?_⟩
       show RunW w wz.heap.size w4.heap.size Ae1 Aa1 Ae2 Aa2 (some ⟨gE3, 0, none⟩) (some ⟨gK3, 0, none⟩) e1 ce1 a1 ca1 l2 ce2 q2 ca2 l3 cE3 (l3 - 1) (0) (zM m2) (⟨(zM m3).ed, []⟩) (w6.setCell ⟨w4.heap.size, 1, none⟩ (.slice (some ⟨gK3, 0, none⟩) (l3 - 1) (0)))
       exact ⟨HF6.out.2.1.below' hbel (by omega), HW.out.2.1.trans ((HS2.out.1.trans hF8).below (by omega) HW.out.2.1.size), (hbel.block wz.heap.size (by omega)).trans hA6, (by have := set_row3 HF6.out.2.2 1 (.slice (some ⟨gK3, 0, none⟩) (l3 - 1) (0)); simpa using this), ⟨hltz, by omega⟩, fun V hf => HM2.out _ V hF8 hf, fun V hf => mcz_cut (HM3.out _ V (fr_low HF46.out (Below.setCell (B := w4.heap.size) (Below.refl _ _) (by show w4.heap.size ≤ w4.heap.size; omega) _)) hf) ⟨_, _, by rw [show l3 - 1 = 0 by omega]; rfl, ⟨Nat.le_refl _, by decide⟩, .inl rfl⟩, zM_rows (H2.out.2.2.1.rl), fun r hr => zM_rows H3.out.2.2.1.rl r hr⟩
     ·go_wp2_with fail
      go_meet
      case rel =>
       have hbel : Below (wz.heap.size + 1) w6 (w6.setCell ⟨w4.heap.size, 1, none⟩ (.slice (some ⟨gK3, 1, none⟩) (l3 - 1) (cK3 - 1))) := (Below.refl _ _).setCell (by show _ ≤ w4.heap.size; omega) _
       have hF8 : Fr (w.heap.size + 1) wz (w6.setCell ⟨w4.heap.size, 1, none⟩ (.slice (some ⟨gK3, 1, none⟩) (l3 - 1) (cK3 - 1))) := fr_low (HF6z.out) (hbel.mono (Nat.le_succ _))
       refine ⟨some ⟨gK3, 1, none⟩, l3 - 1, cK3 - 1, ⟨(zM m3).ed, (zM m3).ac.drop 1⟩, ?_⟩
       show RunW w wz.heap.size w4.heap.size Ae1 Aa1 Ae2 Aa2 (some ⟨gE3, 0, none⟩) (some ⟨gK3, 1, none⟩) e1 ce1 a1 ca1 l2 ce2 q2 ca2 l3 cE3 (l3 - 1) (cK3 - 1) (zM m2) (⟨(zM m3).ed, (zM m3).ac.drop 1⟩) (w6.setCell ⟨w4.heap.size, 1, none⟩ (.slice (some ⟨gK3, 1, none⟩) (l3 - 1) (cK3 - 1)))
       exact ⟨HF6.out.2.1.below' hbel (by omega), HW.out.2.1.trans ((HS2.out.1.trans hF8).below (by omega) HW.out.2.1.size), (hbel.block wz.heap.size (by omega)).trans hA6, (by have := set_row3 HF6.out.2.2 1 (.slice (some ⟨gK3, 1, none⟩) (l3 - 1) (cK3 - 1)); simpa using this), ⟨hltz, by omega⟩, fun V hf => HM2.out _ V hF8 hf, fun V hf => mcz_cut (HM3.out _ V (fr_low HF46.out (Below.setCell (B := w4.heap.size) (Below.refl _ _) (by show w4.heap.size ≤ w4.heap.size; omega) _)) hf) (blin_tail (mcz_bools (HM3.out _ V (fr_low HF46.out (Below.setCell (B := w4.heap.size) (Below.refl _ _) (by show w4.heap.size ≤ w4.heap.size; omega) _)) hf)) hKl), zM_rows (H2.out.2.2.1.rl), fun r hr => zM_rows H3.out.2.2.1.rl r hr⟩
    ·have hc06 : w6.cell? ⟨gE3, 0, none⟩ = some (.slice Ar0 L0 cr0) := (World.cell?_of_block (a := ⟨gE3, 0, none⟩) (HF46.out.block gE3 hgE3 (fun e => by injection e with e; omega))).trans hc00
     have lE6 : gE3 < w6.heap.size := by omega
     have hd1 : decide (0 < l3) = true := decide_eq_true (by omega)
     by_cases hL0 : L0 = 0
     ·have hd2 : decide ((0 : Int) < (L0 : Int)) = false := decide_eq_false (by omega)
      have hd2n : decide (0 < L0) = false := decide_eq_false (by omega)
      go_wp2_with fail
      go_meet
      case rel =>
       have hbel : Below (wz.heap.size + 1) w6 (w6) := Below.refl _ _
       have hF8 : Fr (w.heap.size + 1) wz (w6) := fr_low (HF6z.out) (hbel.mono (Nat.le_succ _))
       refine ⟨some ⟨gK3, 0, none⟩, l3, cK3, zM m3, ?_⟩
       show RunW w wz.heap.size w4.heap.size Ae1 Aa1 Ae2 Aa2 (some ⟨gE3, 0, none⟩) (some ⟨gK3, 0, none⟩) e1 ce1 a1 ca1 l2 ce2 q2 ca2 l3 cE3 (l3) (cK3) (zM m2) (zM m3) (w6)
       exact ⟨HF6.out.2.1.below' hbel (by omega), HW.out.2.1.trans ((HS2.out.1.trans hF8).below (by omega) HW.out.2.1.size), (hbel.block wz.heap.size (by omega)).trans hA6, HF6.out.2.2, ⟨hltz, by omega⟩, fun V hf => HM2.out _ V hF8 hf, fun V hf => HM3.out _ V HF46.out hf, zM_rows (H2.out.2.2.1.rl), fun r hr => zM_rows H3.out.2.2.1.rl r hr⟩
     ·have hd2 : decide ((0 : Int) < (L0 : Int)) = true := decide_eq_true (by omega)
      have hd2n : decide (0 < L0) = true := decide_eq_true (by omega)
      obtain ⟨gE', cE', g2, c2', vA', xx, ev, hgE', hcE', hBg2, hg2, hfz2, hx2, hset⟩ := owr_set H3.out.2.2.2.2.1 H3.out.2.1 H3.out.2.2.1 H3.out.2.2.2.2.2.1 (by rw [H3.out.2.2.2.2.2.2.1]; omega)
      injection ev with ev
      simp only [Array.mk.injEq, List.cons.injEq, and_true] at ev
      obtain ⟨ev1, rfl⟩ := ev
      injection ev1 with ev2 ev3 ev4
      injection ev2 with ev2
      injection ev2 with ev5
      subst ev5
      rw [hcE'] at hc00
      injection hc00 with hc00
      injection hc00 with hr1 hr2 hr3
      subst hr1
      have hF46' := HF46.out
      have hgg : w6.heap[g2]? = w4.heap[g2]? := hF46'.block g2 hg2 (fun e => by injection e with e; have := HW3.out.2.2.2.2; omega)
      have hfz6 : w6.frozen? ⟨g2, 2, none⟩ = false := (World.frozen?_of_block (w := w4) (a := ⟨g2, 2, none⟩) hgg).trans hfz2
      have HG := Lib.hid (And.intro hgg (And.intro hset (And.intro hBg2 hg2)))
      have hS7 : Fr (w.heap.size + 1) w6 w6.drew ∧ TapeOK (w.heap.size + 1) w6.drew := ⟨Fr.of_below (Below.refl _ _).drew, HF6.out.2.1.below (Below.refl _ _).drew⟩
      have hdL : decide (0 < L0) = true := decide_eq_true (by omega)
      have HX2 := Lib.hid hx2
      clear hset hgg ev3 ev4 hx2 hfz2
      go_wp2_with fail
      refine wp_region_chain 8 [5] (factR7 w.heap.size w4.heap.size gE3 g2 l3 cE3 L0 cr0) (fun c w' => Fr (w.heap.size + 1) w6 w' ∧ TapeOK (w.heap.size + 1) w') (by as_aux_lemma => kernel_rfl) (by as_aux_lemma => kernel_rfl) (by as_aux_lemma => kernel_rfl) (by as_aux_lemma => kernel_rfl) (by as_aux_lemma => kernel_rfl) (by as_aux_lemma => kernel_rfl) (by decide) hS7 ?_ ?_
      ·simp only [pq4, pq5]
       refine HSteps.pure (by decide) ?_ (HSteps.pure (by decide) ?_ (HSteps.pure (by decide) ?_ (HSteps.pure (by decide) ?_ (HSteps.pure (by decide) ?_ (HSteps.eff 0 rfl ?_ (HSteps.pure (by decide) ?_ (HSteps.pure (by decide) ?_ (HSteps.nil))))))))
       ·intro v wy c hlo hS hE K hK
        simp only [putAll, Act.put, pq1, pq2, pq3, Nat.zero_add, Nat.reduceAdd, pq4, pq5] at hK ⊢
        have HX := Lib.hid hS
        clear hS hE hlo
        go_wp2_with fail
        exact hK.out _ rfl
       ·intro v wy c hlo hS hE K hK
        simp only [putAll, Act.put, pq1, pq2, pq3, Nat.zero_add, Nat.reduceAdd, pq4, pq5] at hK ⊢
        have e0 : v 0 = _ := hE.1 rfl
        rw [e0] at hK ⊢
        have y0 := (World.cell?_of_block (a := ⟨w4.heap.size, 0, none⟩) (hS.1.block w4.heap.size (by omega) (fun e => by injection e with e; omega))).trans x0
        have ly : w4.heap.size < wy.heap.size := by have := hS.1.size; omega
        have HX := Lib.hid hS
        clear hS hE hlo
        go_wp2_with fail
        exact hK.out _ rfl
       ·intro v wy c hlo hS hE K hK
        simp only [putAll, Act.put, pq1, pq2, pq3, Nat.zero_add, Nat.reduceAdd, pq4, pq5] at hK ⊢
        have e1 : v 1 = _ := hE.1 rfl
        rw [e1] at hK ⊢
        have HX := Lib.hid hS
        clear hS hE hlo
        go_wp2_with fail
        exact hK.out _ rfl
       ·intro v wy c hlo hS hE K hK
        simp only [putAll, Act.put, pq1, pq2, pq3, Nat.zero_add, Nat.reduceAdd, pq4, pq5] at hK ⊢
        have e2 : v 2 = _ := hE.1 rfl
        rw [e2] at hK ⊢
        have y0 := (World.cell?_of_block (a := ⟨gE3, 0, none⟩) (hS.1.block gE3 (by omega) (fun e => by injection e with e; omega))).trans hc06
        have ly : gE3 < wy.heap.size := by have := hS.1.size; omega
        have HX := Lib.hid hS
        clear hS hE hlo
        go_wp2_with fail
        exact hK.out _ rfl
       ·intro v wy c hlo hS hE K hK
        simp only [putAll, Act.put, pq1, pq2, pq3, Nat.zero_add, Nat.reduceAdd, pq4, pq5] at hK ⊢
        have HX := Lib.hid hS
        clear hS hE hlo
        go_wp2_with fail
        exact hK.out _ rfl
       ·intro v wy hS hE K hK
        simp only [putAll, Act.put, pq1, pq2, pq3, Nat.zero_add, Nat.reduceAdd, pq4, pq5] at hK ⊢
        have e4 : v 4 = _ := hE.1 rfl
        rw [e4] at hK ⊢
        have HX := Lib.hid hS
        clear hS hE
        go_wp2_with fail
        refine (between_any (w.heap.size + 1) (-1) 6 wy (by decide) (by decide) (by decide) HX.out.2).mono ?_
        rintro e wt ⟨tt, rfl, htt1, htt2, hty, hfy⟩
        have HP := Lib.hid (And.intro hty (And.intro hfy (And.intro htt1 htt2)))
        clear hty hfy htt1 htt2
        go_wp2_with fail
        refine hK.out _ _ (fun j z hj h => ?_) ⟨HX.out.1.trans HP.out.2.1, HP.out.1⟩ ⟨tt, HP.out.2.2.1, HP.out.2.2.2, rfl⟩
        match j with
        | 0 | 1 | 2 | 3 | 4 | 6 | 7 => exact h
        | 5 => exact absurd rfl hj
        | _ + 8 => exact trivial
       ·intro v wy c hlo hS hE K hK
        simp only [putAll, Act.put, pq1, pq2, pq3, Nat.zero_add, Nat.reduceAdd, pq4, pq5] at hK ⊢
        have e3 : v 3 = _ := hE.1 rfl
        rw [e3] at hK ⊢
        have HX := Lib.hid hS
        clear hS hE hlo
        go_wp2_with fail
        exact hK.out _ rfl
       ·intro v wy c hlo hS hE K hK
        simp only [putAll, Act.put, pq1, pq2, pq3, Nat.zero_add, Nat.reduceAdd, pq4, pq5] at hK ⊢
        have e6 : v 6 = _ := hE.1 rfl
        rw [e6] at hK ⊢
        have HX := Lib.hid hS
        clear hS hE hlo
        go_wp2_with fail
        exact hK.out _ rfl
      ·intro v wy hS hF
       have e0 : v 0 = _ := hF 0 (by decide)
       have e1 : v 1 = _ := hF 1 (by decide)
       have e2 : v 2 = _ := hF 2 (by decide)
       have e3 : v 3 = _ := hF 3 (by decide)
       have e4 : v 4 = _ := hF 4 (by decide)
       have e6 : v 6 = _ := hF 6 (by decide)
       have e7 : v 7 = _ := hF 7 (by decide)
       have E5 := hF 5 (by decide)
       simp only [putAll, Act.put, pq1, pq2, pq3, Nat.zero_add, Nat.reduceAdd, pq4, pq5, List.drop_succ_cons, List.drop_zero, e0, e1, e2, e3, e4, e6, e7]
       clear hF e0 e1 e2 e3 e4 e6 e7
       obtain ⟨tt, htt1, htt2, e5⟩ := E5
       rw [e5]
       have hz7 := hS.1.size
       have hg7 : wy.heap[g2]? = w6.heap[g2]? := hS.1.block g2 (by omega) (fun e => by injection e with e; have := HG.out.2.2.1; have := HW3.out.2.2.2.2; omega)
       have hfz7 : wy.frozen? ⟨g2, 2, none⟩ = false := (World.frozen?_of_block (w := w6) (a := ⟨g2, 2, none⟩) hg7).trans hfz6
       have lg7 : g2 < wy.heap.size := by omega
       have hx7 : wy.cell? ⟨g2, 2, none⟩ = some (.int .i64 xx) := (World.cell?_of_block (w := w6) (a := ⟨g2, 2, none⟩) hg7).trans ((World.cell?_of_block (w := w4) (a := ⟨g2, 2, none⟩) HG.out.1).trans HX2.out)
       have hBx7 : wy.heap[w4.heap.size]? = some (.cells #[.slice (some ⟨gE3, 0, none⟩) l3 cE3, .slice (some ⟨gK3, 0, none⟩) l3 cK3] 34 (0, 0)) := (hS.1.block w4.heap.size (by omega) (fun e => by injection e with e; omega)).trans HF6.out.2.2
       obtain ⟨p0, p1⟩ : wy.cell? ⟨w4.heap.size, 0, none⟩ = some (.slice (some ⟨gE3, 0, none⟩) l3 cE3) ∧ wy.cell? ⟨w4.heap.size, 1, none⟩ = some (.slice (some ⟨gK3, 0, none⟩) l3 cK3) := by constructor <;> (rw [cell_of_row _ _ _ _ _ _ hBx7]; rfl)
       have lx7 : w4.heap.size < wy.heap.size := by omega
       have hne7 : ¬ w4.heap.size = g2 := by omega
       have hne7' : ¬ g2 = w4.heap.size := by omega
       have HS7 := Lib.hid (And.intro hS (And.intro hg7 (And.intro htt1 htt2)))
       have HBX7 := Lib.hid hBx7
       clear hS hg7 htt1 htt2 e5 hBx7
       go_wp2_with fail
       go_meet
       case rel =>
        obtain ⟨z3, hzr, hzi⟩ := HG.out.2.1 tt (by have := HS7.out.2.2.1; omega) (by have := HS7.out.2.2.2; omega)
        have hW3z := HW3.out.2.2.2.2
        have hg2B := HG.out.2.2.1
        have hi3 : ∀ V, KeepF [w.heap.size + 1, wz.heap.size] [] (wy.setCell ⟨g2, 2, none⟩ (.int .i64 tt)) V → McInZ V (.agg #[.slice (some ⟨gE3, 0, none⟩) l3 cE3, .slice (some ⟨gK3, 0, none⟩) l3 cK3]) z3 := fun V hf => by
         have hzs : (wy.setCell ⟨g2, 2, none⟩ (.int .i64 tt)).heap.size = wy.heap.size := by simp [World.setCell]
         have hV := hzi V (by have := hf.size; omega) (fun k hk1 hk2 => by
          refine (hf.blk k (by omega) (fun e => by simp at e; omega)).trans ?_
          exact setCell_congr ((HS7.out.1.1.block k (by omega) (fun e => by injection e with e; omega)).trans (HF46.out.block k hk2 (fun e => by injection e with e; omega))))
         rw [H3.out.2.2.2.2.2.2.2.1, H3.out.2.2.2.2.2.2.2.2] at hV
         exact hV
        have hbel : Below (wz.heap.size + 1) wy (wy.setCell ⟨g2, 2, none⟩ (.int .i64 tt)) := (Below.refl _ _).setCell (by show _ ≤ g2; omega) _
        have hF8 : Fr (w.heap.size + 1) wz (wy.setCell ⟨g2, 2, none⟩ (.int .i64 tt)) := fr_low (HF6z.out.trans HS7.out.1.1) (hbel.mono (Nat.le_succ _))
        refine ⟨some ⟨gK3, 0, none⟩, l3, cK3, z3, ?_⟩
        show RunW w wz.heap.size w4.heap.size Ae1 Aa1 Ae2 Aa2 (some ⟨gE3, 0, none⟩) (some ⟨gK3, 0, none⟩) e1 ce1 a1 ca1 l2 ce2 q2 ca2 l3 cE3 (l3) (cK3) (zM m2) (z3) (wy.setCell ⟨g2, 2, none⟩ (.int .i64 tt))
        exact ⟨HS7.out.1.2.below' hbel (by omega), HW.out.2.1.trans ((HS2.out.1.trans hF8).below (by omega) HW.out.2.1.size), (hbel.block wz.heap.size (by omega)).trans ((HS7.out.1.1.block wz.heap.size (by omega) (fun e => by injection e with e; omega)).trans hA6), ((Below.heap_setCell _ _ _ _ (by show w4.heap.size ≠ g2; omega)).trans HBX7.out), ⟨hltz, by omega⟩, fun V hf => HM2.out _ V hF8 hf, fun V hf => hi3 V hf, zM_rows (H2.out.2.2.1.rl), fun r hr => by have := hzr r hr; omega⟩
  case rest =>
   obtain ⟨AK, lK, cK, z3, HRC⟩ := hcut
   clear hc00 x0 x1 fx1 lx hKl
   obtain ⟨p0, p1⟩ : wc.cell? ⟨w4.heap.size, 0, none⟩ = some (.slice (some ⟨gE3, 0, none⟩) l3 cE3) ∧ wc.cell? ⟨w4.heap.size, 1, none⟩ = some (.slice AK lK cK) := by constructor <;> (rw [cell_of_row _ _ _ _ _ _ HRC.out.cN]; rfl)
   have lp : w4.heap.size < wc.heap.size := (Array.getElem?_eq_some_iff.1 HRC.out.cN).1
   have HR8 : Hid (RunW w wz.heap.size wc.heap.size Ae1 Aa1 Ae2 Aa2 (some ⟨gE3, 0, none⟩) AK e1 ce1 a1 ca1 l2 ce2 q2 ca2 l3 cE3 lK cK (zM m2) z3 (wc.alloc (.cells #[.slice (some ⟨gE3, 0, none⟩) l3 cE3, .slice AK lK cK] 34))) := by
    have hbc : Below wc.heap.size wc (wc.alloc (.cells #[.slice (some ⟨gE3, 0, none⟩) l3 cE3, .slice AK lK cK] 34)) := (Below.refl _ _).alloc (Nat.le_refl _) _
    have hk : ∀ V, KeepF [w.heap.size + 1, wz.heap.size] [] (wc.alloc (.cells #[.slice (some ⟨gE3, 0, none⟩) l3 cE3, .slice AK lK cK] 34)) V → KeepF [w.heap.size + 1, wz.heap.size] [] wc V := fun V hf => (kf_bel hbc).tr hf
    exact ⟨HRC.out.tp.below hbc, HRC.out.bel.trans (hbc.mono HRC.out.bel.size), (hbc.block _ (Array.getElem?_eq_some_iff.1 HRC.out.cA).1).trans HRC.out.cA, heap_alloc_new wc _, ⟨HRC.out.lt.1, by omega⟩, fun V hf => HRC.out.i2 V (hk V hf), fun V hf => HRC.out.i3 V (hk V hf), HRC.out.r2, HRC.out.r3⟩
   have hz8 := HR8.out.tp.lt
   have hlA : wz.heap.size < (wc.alloc (.cells #[.slice (some ⟨gE3, 0, none⟩) l3 cE3, .slice AK lK cK] 34)).heap.size := (Array.getElem?_eq_some_iff.1 HR8.out.cA).1
   have hown : (wc.alloc (.cells #[.slice (some ⟨gE3, 0, none⟩) l3 cE3, .slice AK lK cK] 34)).ownsRow wz.heap.size 34 2 (.slice (some ⟨wz.heap.size, 0, none⟩) 2 2) 2 [.slice Ae1 e1 ce1, .slice Aa1 a1 ca1, .slice Ae2 l2 ce2, .slice Aa2 q2 ca2] := ⟨rfl, .inr ⟨wz.heap.size, 2, _, rfl, Nat.le_refl _, HR8.out.cA, Nat.le_refl _, by decide, rfl, rfl⟩⟩
   have hcell : ∀ j u, ([.slice (some ⟨gE3, 0, none⟩) l3 cE3, .slice AK lK cK] : List Value)[j]? = some u → (wc.alloc (.cells #[.slice (some ⟨gE3, 0, none⟩) l3 cE3, .slice AK lK cK] 34)).cell? ((⟨wc.heap.size, 0, none⟩ : Addr).add j) = some u := fun j u hj => by
    match j, hj with
    | 0, hj => simp at hj; rw [← hj, Addr.add_lit, cell_of_row _ _ _ _ _ _ HR8.out.cN]; rfl
    | 1, hj => simp at hj; rw [← hj, Addr.add_lit, cell_of_row _ _ _ _ _ _ HR8.out.cN]; rfl
   have hsz : (wc.alloc (.cells #[.slice (some ⟨gE3, 0, none⟩) l3 cE3, .slice AK lK cK] 34)).heap.size = wc.heap.size + 1 := by simp
   obtain ⟨W8, hW8⟩ : ∃ W, wc.alloc (.cells #[.slice (some ⟨gE3, 0, none⟩) l3 cE3, .slice AK lK cK] 34) = W := ⟨_, rfl⟩
   have HW8 := Lib.hid hW8
   go_wp2_with (at_builtin; refine held_in ?_)
   rw [hW8] at HR8 hz8 hlA hown hcell hsz
   clear hW8 HW8 p0 p1
   refine held_out ?_
   refine appI_at rfl _ _ 45 rfl wz.heap.size 34 im (.agg #[.slice none 0 0, .slice none 0 0]) 2 48 Tryz.underlying45 him hm0 hm1 hm2 rfl (by decide) _ 2 _ rfl hown ⟨wc.heap.size, 0, none⟩ 1 1 [.slice (some ⟨gE3, 0, none⟩) l3 cE3, .slice AK lK cK] rfl rfl hcell (by intro u hu; simp at hu; rcases hu with rfl | rfl <;> rfl) (by decide) (by decide) (by omega) ?_
   intro v9 w9 hown9 hg9 hfr9
   obtain ⟨gA, cA, rfl, hgA1, hgA2, hcA⟩ := own3_form hown9
   have hk9 : KeepF [w.heap.size + 1, wz.heap.size] [] W8 w9 := ⟨hg9.os, hg9.tape, hg9.output, hg9.size, fun k hk hn => hg9.block k hk (fun e => hn (by injection e with e; simp [e])), fun k hk => by cases hk⟩
   have ht9 : TapeOK (w.heap.size + 1) w9 := HR8.out.tp.keep fun k hk => hg9.block k (by omega) (fun e => by have e' : k = wz.heap.size := Option.some.inj e; omega)
   have hbel9 : Below w.heap.size w w9 := HR8.out.bel.trans ⟨hg9.os, hg9.tape, hg9.output, hg9.size, fun k hk => hg9.block k (by have := HR8.out.bel.size; omega) (fun e => by have e' : k = wz.heap.size := Option.some.inj e; omega)⟩
   have H9 := Lib.hid (And.intro hk9 (And.intro ht9 (And.intro hbel9 (And.intro hcA hgA2))))
   clear hown hcell hown9 hg9 hfr9 hk9 ht9 hbel9 hcA
   go_wp2_with fail
   refine (next_any (w.heap.size + 1) 8 w9 (by decide) (by decide) H9.out.2.1).mono ?_
   rintro e w10 ⟨r8, rfl, hr81, hr82, ht10, hf10⟩
   obtain ⟨q8, rfl⟩ : ∃ c : Nat, r8 = (c : Int) := ⟨r8.toNat, by omega⟩
   have hq8 : q8 < 8 := by omega
   have H10 := Lib.hid (And.intro ht10 hf10)
   clear ht10 hf10 hr81 hr82
   go_wp2_with fail
   refine (bytes_any (w.heap.size + 1) q8 w10 (by omega) H10.out.1).mono ?_
   rintro e w11 ⟨v11, l11, rfl, hl11, hob11, ht11, hf11⟩
   obtain ⟨Ab, cb, rfl, hcb, -⟩ := OBs.form hob11
   have hby11 := OBs.reads hob11
   obtain ⟨bs2, hbs2⟩ : ∃ l, l11.map UInt8.toNat = l := ⟨_, rfl⟩
   have hbl2 : bs2.length = q8 := by rw [← hbs2, List.length_map, hl11]
   have hbb2 : ∀ b ∈ bs2, b < 256 := fun b hb => by rw [← hbs2] at hb; obtain ⟨u, -, rfl⟩ := List.mem_map.1 hb; exact u.toNat_lt
   rw [hbs2, hl11] at hby11
   rw [hl11]
   have H11 := Lib.hid (And.intro hby11 (And.intro hbl2 (And.intro hbb2 (H10.out.2.trans hf11))))
   obtain ⟨f7, hf7⟩ : ∃ x, bits .and .i64 fr 7 = x := ⟨_, rfl⟩
   clear hby11 hbl2 hbb2 hl11 hob11 hbs2 ht11 hf11 hcb
   go_wp2_with fail
   refine wp_named fun W12 hW12 => ?_
   have hb12 : Below w11.heap.size w11 W12 := by rw [hW12]; exact (Below.refl _ _).alloc (Nat.le_refl _) _
   have hT12 : W12.heap[w11.heap.size]? = some (.cells #[.slice A2 n2 c2, .slice Ab q8 cb] 49 (0, 0)) := by rw [hW12]; exact heap_alloc_new w11 _
   have hF12 : Fr (w.heap.size + 1) w9 W12 := H11.out.2.2.2.trans (Fr.of_below hb12)
   have hz99 := H9.out.2.2.2.2
   have hk12 : KeepF [w.heap.size + 1, wz.heap.size] [] W8 W12 := H9.out.1.tr ⟨hF12.os, hF12.tape, hF12.output, hF12.size, fun k hk hn => hF12.block k hk (fun e => hn (by injection e with e; simp [e])), fun k hk => by cases hk⟩
   have hB12 : Below w.heap.size w W12 := H9.out.2.2.1.trans (hF12.below (Nat.le_succ _) H9.out.2.2.1.size)
   have hgA9 : W12.heap[gA]? = w9.heap[gA]? := hF12.block gA hz99 (fun e => by injection e with e; omega)
   have hcA : ∀ j, j < 6 → W12.cell? ⟨gA, j, none⟩ = ([.slice Ae1 e1 ce1, .slice Aa1 a1 ca1, .slice Ae2 l2 ce2, .slice Aa2 q2 ca2] ++ [.slice (some ⟨gE3, 0, none⟩) l3 cE3, .slice AK lK cK] : List Value)[j]? := fun j hj => (World.cell?_of_block (a := ⟨gA, j, none⟩) hgA9).trans (H9.out.2.2.2.1 j hj)
   have HALL : Hid (∀ i, i < 3 → ∃ Ae ne ce Aa na ca m, W12.cell? ⟨gA, i * 2, none⟩ = some (.slice Ae ne ce) ∧ W12.cell? ⟨gA, i * 2 + 1, none⟩ = some (.slice Aa na ca) ∧ McInZ W12 (.agg #[.slice Ae ne ce, .slice Aa na ca]) m ∧ ∀ r ∈ m.ed, r.length ≤ 140737488351232) := fun i hi => by
    rcases (show i = 0 ∨ i = 1 ∨ i = 2 by omega) with rfl | rfl | rfl
    ·exact ⟨Ae1, e1, ce1, Aa1, a1, ca1, m1, hcA 0 (by decide), hcA 1 (by decide), H0.out.1.later hB12, H0.out.2.1⟩
    ·exact ⟨Ae2, l2, ce2, Aa2, q2, ca2, zM m2, hcA 2 (by decide), hcA 3 (by decide), HR8.out.i2 _ hk12, fun r hr => by have := HR8.out.r2 r hr; omega⟩
    ·exact ⟨_, l3, cE3, AK, lK, cK, z3, hcA 4 (by decide), hcA 5 (by decide), HR8.out.i3 _ hk12, fun r hr => by have := HR8.out.r3 r hr; omega⟩
   have HTX : Hid (∀ k, k < 2 → ∃ A n c l, W12.cell? ⟨w11.heap.size, k, none⟩ = some (.slice A n c) ∧ ByIn W12 (.slice A n c) l ∧ l.length = n ∧ ∀ b ∈ l, b < 256) := fun k hk => by
    rcases (show k = 0 ∨ k = 1 by omega) with rfl | rfl
    ·refine ⟨A2, n2, c2, bs, by rw [cell_of_row _ _ _ _ _ _ hT12]; rfl, H0.out.2.2.1.later hB12, ?_, H0.out.2.2.2.1⟩
     obtain ⟨A', c', e', -⟩ := H0.out.2.2.1
     injection e' with _ e2 _
     exact e2.symm
    ·exact ⟨Ab, q8, cb, bs2, by rw [cell_of_row _ _ _ _ _ _ hT12]; rfl, H11.out.1.later hb12, H11.out.2.1, H11.out.2.2.1⟩
   have HG : Hid (gA < W12.heap.size ∧ w11.heap.size < W12.heap.size ∧ Below w.heap.size w W12) := ⟨by have := hF12.size; omega, (Array.getElem?_eq_some_iff.1 hT12).1, hB12⟩
   obtain ⟨gT, hgT⟩ : ∃ k, w11.heap.size = k := ⟨_, rfl⟩
   rw [hgT] at HG HTX ⊢
   have HV : Hid (VrOK W12) := H0.out.2.2.2.2.later hB12
   clear hb12 hT12 hF12 hk12 hB12 hgA9 hcA hz99 hW12 hgT
   go_loopw [13] (fun v wr => ∃ i : Nat, i ≤ 3 ∧ v = .int .i64 (i : Int) ∧ Hid (Below W12.heap.size W12 wr)) (fun v _ => 3 - (intOf v).toNat)
   case atStart => exact ⟨0, by omega, rfl, Below.refl _ _⟩
   case round =>
    obtain ⟨i, hi, rfl, HB⟩ := hrel
    by_cases hlt : i < 3
    ·have hd : decide ((i : Int) < 3) = true := decide_eq_true (by omega)
     have hdn : decide (i < 3) = true := decide_eq_true hlt
     obtain ⟨Ae, ne, ce, Aa, na, ca, m, hc0, hc1, hmz, hmr⟩ := HALL.out i hlt
     have x0 := (HB.out.cell (p := ⟨gA, i * 2, none⟩) HG.out.1).trans hc0
     have x1 := (HB.out.cell (p := ⟨gA, i * 2 + 1, none⟩) HG.out.1).trans hc1
     have lx : gA < wr.heap.size := Nat.lt_of_lt_of_le HG.out.1 HB.out.size
     have HC := Lib.hid (And.intro hc0 (And.intro hc1 (And.intro hmz hmr)))
     have HFW := Lib.hid (few6_any _ m wr (hmz.later HB.out) (fun r hr => by have := hmr r hr; omega))
     obtain ⟨z, hz⟩ : ∃ z, fewZ m = z := ⟨_, rfl⟩
     rw [hz] at HFW
     clear hc0 hc1 hmz hmr hz
     go_wp2_with fail
     refine HFW.out.mono ?_
     rintro e w13 ⟨rfl, hb13⟩
     have HB13 := Lib.hid (HB.out.trans (hb13.mono HB.out.size))
     clear hb13 x0 x1 lx
     cases z with
     | false =>
      go_wp2_with fail
      go_roundw
      case measure => simp [intOf]; omega
      case rel => exact ⟨i + 1, by omega, by go_num, HB13.out⟩
     | true =>
      have x0 := (HB13.out.cell (p := ⟨gA, i * 2, none⟩) HG.out.1).trans HC.out.1
      have x1 := (HB13.out.cell (p := ⟨gA, i * 2 + 1, none⟩) HG.out.1).trans HC.out.2.1
      have lx : gA < w13.heap.size := Nat.lt_of_lt_of_le HG.out.1 HB13.out.size
      by_cases h40 : 40 < na
      ·have hd2 : decide (40 < (na : Int)) = true := decide_eq_true (by omega)
       have hd2n : decide (40 < na) = true := decide_eq_true h40
       go_wp2_with fail
       go_roundw
       case measure => simp [intOf]; omega
       case rel => exact ⟨i + 1, by omega, by go_num, HB13.out⟩
      ·have hd2 : decide (40 < (na : Int)) = false := decide_eq_false (by omega)
       have hd2n : decide (40 < na) = false := decide_eq_false h40
       obtain ⟨Af, nf, cf, Ag, ng, cg, m0, hf0, hf1, hmf, hfr⟩ := HALL.out 0 (by decide)
       rw [Nat.zero_mul] at hf0 hf1
       rw [Nat.zero_add] at hf1
       have hbd := fun d : BelT w13.heap.size w13 => HB13.out.trans (d.property.mono HB13.out.size)
       have d0 : ∀ d : BelT w13.heap.size w13, d.val.cell? ⟨gA, i * 2, none⟩ = some (.slice Ae ne ce) := fun d => ((hbd d).cell (p := ⟨gA, i * 2, none⟩) HG.out.1).trans HC.out.1
       have d1 : ∀ d : BelT w13.heap.size w13, d.val.cell? ⟨gA, i * 2 + 1, none⟩ = some (.slice Aa na ca) := fun d => ((hbd d).cell (p := ⟨gA, i * 2 + 1, none⟩) HG.out.1).trans HC.out.2.1
       have d2 : ∀ d : BelT w13.heap.size w13, d.val.cell? ⟨gA, 0, none⟩ = some (.slice Af nf cf) := fun d => ((hbd d).cell (p := ⟨gA, 0, none⟩) HG.out.1).trans hf0
       have d3 : ∀ d : BelT w13.heap.size w13, d.val.cell? ⟨gA, 1, none⟩ = some (.slice Ag ng cg) := fun d => ((hbd d).cell (p := ⟨gA, 1, none⟩) HG.out.1).trans hf1
       have d4 : ∀ d : BelT w13.heap.size w13, gA < d.val.heap.size := fun d => Nat.lt_of_lt_of_le HG.out.1 (hbd d).size
       have hrm : ∀ r ∈ m.ed, r.length ≤ 4611686018427387904 := fun r hr => by have := HC.out.2.2.2 r hr; omega
       have hrf : ∀ r ∈ m0.ed, r.length ≤ 4611686018427387904 := fun r hr => by have := hfr r hr; omega
       have k1 := fun d : BelT w13.heap.size w13 => mvalidz_any _ m d.val (HC.out.2.2.1.later (hbd d)) hrm
       have k2 := fun d : BelT w13.heap.size w13 => rvalidz_any _ m d.val (HC.out.2.2.1.later (hbd d)) hrm
       have k3 := fun d : BelT w13.heap.size w13 => msamez_any _ _ m m d.val (HC.out.2.2.1.later (hbd d)) (HC.out.2.2.1.later (hbd d)) hrm hrm
       have k4 := fun d : BelT w13.heap.size w13 => rsamez_any _ _ m m d.val (HC.out.2.2.1.later (hbd d)) (HC.out.2.2.1.later (hbd d)) hrm hrm
       have k5 := fun d : BelT w13.heap.size w13 => msamez_any _ _ m m0 d.val (HC.out.2.2.1.later (hbd d)) (hmf.later (hbd d)) hrm hrf
       have k6 := fun d : BelT w13.heap.size w13 => rsamez_any _ _ m m0 d.val (HC.out.2.2.1.later (hbd d)) (hmf.later (hbd d)) hrm hrf
       obtain ⟨b1, hb1⟩ : ∃ b, vldZ m = b := ⟨_, rfl⟩
       obtain ⟨b2, hb2⟩ : ∃ b, sameZ m m = b := ⟨_, rfl⟩
       obtain ⟨b3, hb3⟩ : ∃ b, sameZ m m0 = b := ⟨_, rfl⟩
       rw [hb1] at k1 k2
       rw [hb2] at k3 k4
       rw [hb3] at k5 k6
       have K1 := Lib.hid k1
       have K2 := Lib.hid k2
       have K3 := Lib.hid k3
       have K4 := Lib.hid k4
       have K5 := Lib.hid k5
       have K6 := Lib.hid k6
       have HRM := Lib.hid hrm
       clear hf0 hf1 hmf hfr hbd hrf k1 k2 k3 k4 k5 k6 hb1 hb2 hb3 hrm
       go_wp2_with fail
       clear x0 x1 lx
       refine wp_region_below (Below.refl w13.heap.size w13) (by as_aux_lemma => kernel_rfl) (by as_aux_lemma => kernel_rfl) ?_
       repeat (go_big_quiet_step (fail))
       go_big_quiet_step ((go_at_call 27; exact Calls.below_of (Nat.le_refl _) (K1.out _)))
       repeat (go_big_quiet_step (fail))
       go_big_quiet_step ((go_at_call 28; exact Calls.below_of (Nat.le_refl _) (K2.out _)))
       repeat (go_big_quiet_step (fail))
       go_big_quiet_step ((go_at_call 29; exact Calls.below_of (Nat.le_refl _) (K3.out _)))
       repeat (go_big_quiet_step (fail))
       go_big_quiet_step ((go_at_call 10; exact Calls.below_of (Nat.le_refl _) (K4.out _)))
       repeat (go_big_quiet_step (fail))
       go_big_quiet_step ((go_at_call 29; exact Calls.below_of (Nat.le_refl _) (K5.out _)))
       repeat (go_big_quiet_step (fail))
       go_big_quiet_step ((go_at_call 10; exact Calls.below_of (Nat.le_refl _) (K6.out _)))
       repeat (go_big_quiet_step (fail))
       refine wpQuiet_nil ?_
       intro w14 hw'
       have hw14 : Below w13.heap.size w13 w14 := by obtain ⟨d9, rfl⟩ := hw'; exact d9.property
       have HB14 := Lib.hid (HB13.out.trans (hw14.mono HB13.out.size))
       clear hw' hw14 d0 d1 d2 d3 d4 K1 K2 K3 K4 K5 K6
       go_wp2_with fail
       go_loopw [14] (fun v wr => ∃ k : Nat, k ≤ 2 ∧ v = .int .i64 (k : Int) ∧ Hid (Below W12.heap.size W12 wr)) (fun v _ => 2 - (intOf v).toNat)
       case atStart => exact ⟨0, by omega, rfl, HB14⟩
       case round =>
        obtain ⟨k, hk, rfl, HB⟩ := hrel
        by_cases hlt2 : k < 2
        ·have hdk : decide ((k : Int) < 2) = true := decide_eq_true (by omega)
         have hdkn : decide (k < 2) = true := decide_eq_true hlt2
         obtain ⟨At, nt, ct, lt, ht0, htb, htl, htb2⟩ := HTX.out k hlt2
         have y0 := (HB.out.cell (p := ⟨gT, k, none⟩) HG.out.2.1).trans ht0
         have ly : gT < wr.heap.size := Nat.lt_of_lt_of_le HG.out.2.1 HB.out.size
         have HT := Lib.hid (And.intro ht0 (And.intro htb (And.intro htl htb2)))
         clear ht0 htb htl htb2
         by_cases h100 : 100 < nt
         ·have hd5 : decide (100 < (nt : Int)) = true := decide_eq_true (by omega)
          have hd5n : decide (100 < nt) = true := decide_eq_true h100
          go_wp2_with fail
          go_roundw
          case measure => simp [intOf]; omega
          case rel => exact ⟨k + 1, by omega, by go_num, HB⟩
         ·have hd5 : decide (100 < (nt : Int)) = false := decide_eq_false (by omega)
          have hd5n : decide (100 < nt) = false := decide_eq_false h100
          go_wp2_with fail
          refine wp_named fun W20 hW20 => ?_
          have hb20 : Below wr.heap.size wr W20 := by rw [hW20]; exact (Below.refl _ _).alloc (Nat.le_refl _) _
          have hR20 : W20.heap[wr.heap.size]? = some (.cells #[.int .i64 fr, .int .i64 f7] 3 (0, 0)) := by rw [hW20]; exact heap_alloc_new wr _
          have HFR : Hid (∀ j, j < 2 → ∃ x, W20.cell? ⟨wr.heap.size, j, none⟩ = some (.int .i64 x)) := fun j hj => by
           rcases (show j = 0 ∨ j = 1 by omega) with rfl | rfl
           ·exact ⟨fr, by rw [cell_of_row _ _ _ _ _ _ hR20]; rfl⟩
           ·exact ⟨f7, by rw [cell_of_row _ _ _ _ _ _ hR20]; rfl⟩
          have HB20 := Lib.hid (HB.out.trans (hb20.mono HB.out.size))
          have HGF : Hid (wr.heap.size < W20.heap.size) := (Array.getElem?_eq_some_iff.1 hR20).1
          obtain ⟨gF, hgF⟩ : ∃ k, wr.heap.size = k := ⟨_, rfl⟩
          rw [hgF] at HFR HGF ⊢
          clear hW20 hb20 hR20 y0 ly hgF HB
          go_loopw [16] (fun v wr => ∃ j : Nat, j ≤ 2 ∧ v = .int .i64 (j : Int) ∧ Hid (Below W20.heap.size W20 wr)) (fun v _ => 2 - (intOf v).toNat)
          case atStart => exact ⟨0, by omega, rfl, Below.refl _ _⟩
          case round =>
           as_aux_lemma =>
            obtain ⟨j, hj, rfl, HB⟩ := hrel
            by_cases hlt3 : j < 2
            ·have hdj : decide ((j : Int) < 2) = true := decide_eq_true (by omega)
             have hdjn : decide (j < 2) = true := decide_eq_true hlt3
             obtain ⟨x, hx⟩ := HFR.out j hlt3
             have hx0 := (HB.out.cell (p := ⟨gF, j, none⟩) HGF.out).trans hx
             have lF : gF < wr.heap.size := Nat.lt_of_lt_of_le HGF.out HB.out.size
             have hBw := HB20.out.trans (HB.out.mono HB20.out.size)
             have x0 := (hBw.cell (p := ⟨gA, i * 2, none⟩) HG.out.1).trans HC.out.1
             have x1 := (hBw.cell (p := ⟨gA, i * 2 + 1, none⟩) HG.out.1).trans HC.out.2.1
             have lx : gA < wr.heap.size := Nat.lt_of_lt_of_le HG.out.1 hBw.size
             have y0 := (hBw.cell (p := ⟨gT, k, none⟩) HG.out.2.1).trans HT.out.1
             have ly : gT < wr.heap.size := Nat.lt_of_lt_of_le HG.out.2.1 hBw.size
             obtain ⟨R, hR⟩ : ∃ R, endsZ m lt x = R := ⟨_, rfl⟩
             have hen1 := fun V (h : Below wr.heap.size wr V) => endsz_any _ _ m lt x V (HC.out.2.2.1.later (hBw.trans (h.mono hBw.size))) HRM.out (HT.out.2.1.later (hBw.trans (h.mono hBw.size))) (by rw [HT.out.2.2.1]; omega) HT.out.2.2.2
             have hen2 := fun V (h : Below wr.heap.size wr V) => rendsz_any _ _ m lt x V (HC.out.2.2.1.later (hBw.trans (h.mono hBw.size))) HRM.out (HT.out.2.1.later (hBw.trans (h.mono hBw.size))) (by rw [HT.out.2.2.1]; omega) HT.out.2.2.2
             rw [hR] at hen1 hen2
             obtain ⟨nR, hnR⟩ : ∃ k, R.length = k := ⟨_, rfl⟩
             have hnRl : nR ≤ 101 := by
              rw [← hnR, ← hR]
              unfold endsZ
              split
              ·have := rch_len (cvM m) (lt.drop x.toNat) 0 x.toNat
               have h2 := HT.out.2.2.1
               rw [List.length_drop] at this
               omega
              ·simp
             have HEN1 := Lib.hid hen1
             have HEN2 := Lib.hid hen2
             have HNR := Lib.hid hnR
             have HBW := Lib.hid hBw
             have hS24 : Below wr.heap.size wr wr.drew := (Below.refl _ _).drew
             clear hx hBw hR hen1 hen2 hnR
             go_wp2_with fail
             refine wp_region_chain 26 [12, 25] (factR24 gA cA gT gF i k j Ae Aa At ne ce na ca nt ct x R wr) (fun c w' => Below wr.heap.size wr w') (by as_aux_lemma => kernel_rfl) (by as_aux_lemma => kernel_rfl) (by as_aux_lemma => kernel_rfl) (by as_aux_lemma => kernel_rfl) (by as_aux_lemma => kernel_rfl) (by as_aux_lemma => kernel_rfl) (by decide) hS24 ?_ ?_
             ·simp only [pq4, pq5]
              refine HSteps.pure (by decide) ?_ (HSteps.pure (by decide) ?_ (HSteps.pure (by decide) ?_ (HSteps.pure (by decide) ?_ (HSteps.pure (by decide) ?_ (HSteps.pure (by decide) ?_ (HSteps.pure (by decide) ?_ (HSteps.pure (by decide) ?_ (HSteps.pure (by decide) ?_ (HSteps.pure (by decide) ?_ (HSteps.pure (by decide) ?_ (HSteps.pure (by decide) ?_ (HSteps.eff 0 rfl ?_ (HSteps.pure (by decide) ?_ (HSteps.pure (by decide) ?_ (HSteps.pure (by decide) ?_ (HSteps.pure (by decide) ?_ (HSteps.pure (by decide) ?_ (HSteps.pure (by decide) ?_ (HSteps.pure (by decide) ?_ (HSteps.pure (by decide) ?_ (HSteps.pure (by decide) ?_ (HSteps.pure (by decide) ?_ (HSteps.pure (by decide) ?_ (HSteps.pure (by decide) ?_ (HSteps.eff 1 rfl ?_ (HSteps.nil))))))))))))))))))))))))))
              ·intro v wy c hlo hS hE K hK
               simp only [putAll, Act.put, pq1, pq2, pq3, Nat.zero_add, Nat.reduceAdd, pq4, pq5] at hK ⊢
               have HX := Lib.hid hS
               clear hS hE hlo
               go_wp2_with fail
               exact hK.out _ rfl
              ·intro v wy c hlo hS hE K hK
               simp only [putAll, Act.put, pq1, pq2, pq3, Nat.zero_add, Nat.reduceAdd, pq4, pq5] at hK ⊢
               have HX := Lib.hid hS
               clear hS hE hlo
               go_wp2_with fail
               exact hK.out _ rfl
              ·intro v wy c hlo hS hE K hK
               simp only [putAll, Act.put, pq1, pq2, pq3, Nat.zero_add, Nat.reduceAdd, pq4, pq5] at hK ⊢
               have e0 : v 0 = _ := hE.1 rfl
               have e1 : v 1 = _ := hE.2.1 rfl
               rw [e0, e1] at hK ⊢
               have HX := Lib.hid hS
               clear hS hE hlo
               go_wp2_with fail
               exact hK.out _ rfl
              ·intro v wy c hlo hS hE K hK
               simp only [putAll, Act.put, pq1, pq2, pq3, Nat.zero_add, Nat.reduceAdd, pq4, pq5] at hK ⊢
               have e2 : v 2 = _ := hE.1 rfl
               rw [e2] at hK ⊢
               have q0 := (hS.cell (p := ⟨gA, i * 2, none⟩) lx).trans x0
               have q1 := (hS.cell (p := ⟨gA, i * 2 + 1, none⟩) lx).trans x1
               have lq : gA < wy.heap.size := Nat.lt_of_lt_of_le lx hS.size
               have HX := Lib.hid hS
               clear hS hE hlo
               go_wp2_with fail
               exact hK.out _ rfl
              ·intro v wy c hlo hS hE K hK
               simp only [putAll, Act.put, pq1, pq2, pq3, Nat.zero_add, Nat.reduceAdd, pq4, pq5] at hK ⊢
               have HX := Lib.hid hS
               clear hS hE hlo
               go_wp2_with fail
               exact hK.out _ rfl
              ·intro v wy c hlo hS hE K hK
               simp only [putAll, Act.put, pq1, pq2, pq3, Nat.zero_add, Nat.reduceAdd, pq4, pq5] at hK ⊢
               have HX := Lib.hid hS
               clear hS hE hlo
               go_wp2_with fail
               exact hK.out _ rfl
              ·intro v wy c hlo hS hE K hK
               simp only [putAll, Act.put, pq1, pq2, pq3, Nat.zero_add, Nat.reduceAdd, pq4, pq5] at hK ⊢
               have e4 : v 4 = _ := hE.1 rfl
               have e5 : v 5 = _ := hE.2.1 rfl
               rw [e4, e5] at hK ⊢
               have HX := Lib.hid hS
               clear hS hE hlo
               go_wp2_with fail
               exact hK.out _ rfl
              ·intro v wy c hlo hS hE K hK
               simp only [putAll, Act.put, pq1, pq2, pq3, Nat.zero_add, Nat.reduceAdd, pq4, pq5] at hK ⊢
               have e6 : v 6 = _ := hE.1 rfl
               rw [e6] at hK ⊢
               have q0 := (hS.cell (p := ⟨gT, k, none⟩) ly).trans y0
               have lq : gT < wy.heap.size := Nat.lt_of_lt_of_le ly hS.size
               have HX := Lib.hid hS
               clear hS hE hlo
               go_wp2_with fail
               exact hK.out _ rfl
              ·intro v wy c hlo hS hE K hK
               simp only [putAll, Act.put, pq1, pq2, pq3, Nat.zero_add, Nat.reduceAdd, pq4, pq5] at hK ⊢
               have HX := Lib.hid hS
               clear hS hE hlo
               go_wp2_with fail
               exact hK.out _ rfl
              ·intro v wy c hlo hS hE K hK
               simp only [putAll, Act.put, pq1, pq2, pq3, Nat.zero_add, Nat.reduceAdd, pq4, pq5] at hK ⊢
               have HX := Lib.hid hS
               clear hS hE hlo
               go_wp2_with fail
               exact hK.out _ rfl
              ·intro v wy c hlo hS hE K hK
               simp only [putAll, Act.put, pq1, pq2, pq3, Nat.zero_add, Nat.reduceAdd, pq4, pq5] at hK ⊢
               have e8 : v 8 = _ := hE.1 rfl
               have e9 : v 9 = _ := hE.2.1 rfl
               rw [e8, e9] at hK ⊢
               have HX := Lib.hid hS
               clear hS hE hlo
               go_wp2_with fail
               exact hK.out _ rfl
              ·intro v wy c hlo hS hE K hK
               simp only [putAll, Act.put, pq1, pq2, pq3, Nat.zero_add, Nat.reduceAdd, pq4, pq5] at hK ⊢
               have e10 : v 10 = _ := hE.1 rfl
               rw [e10] at hK ⊢
               have q0 := (hS.cell (p := ⟨gF, j, none⟩) lF).trans hx0
               have lq : gF < wy.heap.size := Nat.lt_of_lt_of_le lF hS.size
               have HX := Lib.hid hS
               clear hS hE hlo
               go_wp2_with fail
               exact hK.out _ rfl
              ·intro v wy hS hE K hK
               simp only [putAll, Act.put, pq1, pq2, pq3, Nat.zero_add, Nat.reduceAdd, pq4, pq5] at hK ⊢
               have e3 : v 3 = _ := hE.1 rfl
               have e7 : v 7 = _ := hE.2.1 rfl
               have e11 : v 11 = _ := hE.2.2.1 rfl
               rw [e3, e7, e11] at hK ⊢
               have HX := Lib.hid hS
               clear hS hE
               go_wp2_with fail
               refine (HEN1.out wy HX.out).mono ?_
               rintro e wt ⟨rv, rfl, hown, hbt⟩
               obtain ⟨A', c', rfl, -, -⟩ := own_form (show wt.ownsRow _ _ _ _ _ _ from hown)
               have HP := Lib.hid (And.intro (hown.mono HX.out.size) hbt)
               clear hown hbt
               go_wp2_with fail
               refine hK.out _ _ (fun j z hj h => ?_) (HX.out.trans (HP.out.2.mono HX.out.size)) (fun _ => ⟨A', c', rfl, HP.out.1⟩)
               match j with
               | 0 | 1 | 2 | 3 | 4 | 5 | 6 | 7 | 8 | 9 | 10 | 11 | 13 | 14 | 15 | 16 | 17 | 18 | 19 | 20 | 21 | 22 | 23 | 24 => exact h
               | 12 => exact absurd rfl hj
               | 25 => exact fun hc => by omega
               | _ + 26 => exact trivial
              ·intro v wy c hlo hS hE K hK
               simp only [putAll, Act.put, pq1, pq2, pq3, Nat.zero_add, Nat.reduceAdd, pq4, pq5] at hK ⊢
               have HX := Lib.hid hS
               clear hS hE hlo
               go_wp2_with fail
               exact hK.out _ rfl
              ·intro v wy c hlo hS hE K hK
               simp only [putAll, Act.put, pq1, pq2, pq3, Nat.zero_add, Nat.reduceAdd, pq4, pq5] at hK ⊢
               have HX := Lib.hid hS
               clear hS hE hlo
               go_wp2_with fail
               exact hK.out _ rfl
              ·intro v wy c hlo hS hE K hK
               simp only [putAll, Act.put, pq1, pq2, pq3, Nat.zero_add, Nat.reduceAdd, pq4, pq5] at hK ⊢
               have e13 : v 13 = _ := hE.1 rfl
               have e14 : v 14 = _ := hE.2.1 rfl
               rw [e13, e14] at hK ⊢
               have HX := Lib.hid hS
               clear hS hE hlo
               go_wp2_with fail
               exact hK.out _ rfl
              ·intro v wy c hlo hS hE K hK
               simp only [putAll, Act.put, pq1, pq2, pq3, Nat.zero_add, Nat.reduceAdd, pq4, pq5] at hK ⊢
               have e15 : v 15 = _ := hE.1 rfl
               rw [e15] at hK ⊢
               have q0 := (hS.cell (p := ⟨gA, i * 2, none⟩) lx).trans x0
               have q1 := (hS.cell (p := ⟨gA, i * 2 + 1, none⟩) lx).trans x1
               have lq : gA < wy.heap.size := Nat.lt_of_lt_of_le lx hS.size
               have HX := Lib.hid hS
               clear hS hE hlo
               go_wp2_with fail
               exact hK.out _ rfl
              ·intro v wy c hlo hS hE K hK
               simp only [putAll, Act.put, pq1, pq2, pq3, Nat.zero_add, Nat.reduceAdd, pq4, pq5] at hK ⊢
               have HX := Lib.hid hS
               clear hS hE hlo
               go_wp2_with fail
               exact hK.out _ rfl
              ·intro v wy c hlo hS hE K hK
               simp only [putAll, Act.put, pq1, pq2, pq3, Nat.zero_add, Nat.reduceAdd, pq4, pq5] at hK ⊢
               have HX := Lib.hid hS
               clear hS hE hlo
               go_wp2_with fail
               exact hK.out _ rfl
              ·intro v wy c hlo hS hE K hK
               simp only [putAll, Act.put, pq1, pq2, pq3, Nat.zero_add, Nat.reduceAdd, pq4, pq5] at hK ⊢
               have e17 : v 17 = _ := hE.1 rfl
               have e18 : v 18 = _ := hE.2.1 rfl
               rw [e17, e18] at hK ⊢
               have HX := Lib.hid hS
               clear hS hE hlo
               go_wp2_with fail
               exact hK.out _ rfl
              ·intro v wy c hlo hS hE K hK
               simp only [putAll, Act.put, pq1, pq2, pq3, Nat.zero_add, Nat.reduceAdd, pq4, pq5] at hK ⊢
               have e19 : v 19 = _ := hE.1 rfl
               rw [e19] at hK ⊢
               have q0 := (hS.cell (p := ⟨gT, k, none⟩) ly).trans y0
               have lq : gT < wy.heap.size := Nat.lt_of_lt_of_le ly hS.size
               have HX := Lib.hid hS
               clear hS hE hlo
               go_wp2_with fail
               exact hK.out _ rfl
              ·intro v wy c hlo hS hE K hK
               simp only [putAll, Act.put, pq1, pq2, pq3, Nat.zero_add, Nat.reduceAdd, pq4, pq5] at hK ⊢
               have HX := Lib.hid hS
               clear hS hE hlo
               go_wp2_with fail
               exact hK.out _ rfl
              ·intro v wy c hlo hS hE K hK
               simp only [putAll, Act.put, pq1, pq2, pq3, Nat.zero_add, Nat.reduceAdd, pq4, pq5] at hK ⊢
               have HX := Lib.hid hS
               clear hS hE hlo
               go_wp2_with fail
               exact hK.out _ rfl
              ·intro v wy c hlo hS hE K hK
               simp only [putAll, Act.put, pq1, pq2, pq3, Nat.zero_add, Nat.reduceAdd, pq4, pq5] at hK ⊢
               have e21 : v 21 = _ := hE.1 rfl
               have e22 : v 22 = _ := hE.2.1 rfl
               rw [e21, e22] at hK ⊢
               have HX := Lib.hid hS
               clear hS hE hlo
               go_wp2_with fail
               exact hK.out _ rfl
              ·intro v wy c hlo hS hE K hK
               simp only [putAll, Act.put, pq1, pq2, pq3, Nat.zero_add, Nat.reduceAdd, pq4, pq5] at hK ⊢
               have e23 : v 23 = _ := hE.1 rfl
               rw [e23] at hK ⊢
               have q0 := (hS.cell (p := ⟨gF, j, none⟩) lF).trans hx0
               have lq : gF < wy.heap.size := Nat.lt_of_lt_of_le lF hS.size
               have HX := Lib.hid hS
               clear hS hE hlo
               go_wp2_with fail
               exact hK.out _ rfl
              ·intro v wy hS hE K hK
               simp only [putAll, Act.put, pq1, pq2, pq3, Nat.zero_add, Nat.reduceAdd, pq4, pq5] at hK ⊢
               have e16 : v 16 = _ := hE.1 rfl
               have e20 : v 20 = _ := hE.2.1 rfl
               have e24 : v 24 = _ := hE.2.2.1 rfl
               rw [e16, e20, e24] at hK ⊢
               have HX := Lib.hid hS
               clear hS hE
               go_wp2_with fail
               refine (HEN2.out wy HX.out).mono ?_
               rintro e wt ⟨rv, rfl, hown, hbt⟩
               obtain ⟨A', c', rfl, -, -⟩ := own_form (show wt.ownsRow _ _ _ _ _ _ from hown)
               have HP := Lib.hid (And.intro (hown.mono HX.out.size) hbt)
               clear hown hbt
               go_wp2_with fail
               refine hK.out _ _ (fun j z hj h => ?_) (HX.out.trans (HP.out.2.mono HX.out.size)) (fun _ => ⟨A', c', rfl, HP.out.1⟩)
               match j with
               | 0 | 1 | 2 | 3 | 4 | 5 | 6 | 7 | 8 | 9 | 10 | 11 | 13 | 14 | 15 | 16 | 17 | 18 | 19 | 20 | 21 | 22 | 23 | 24 => exact h
               | 25 => exact absurd rfl hj
               | 12 =>
                intro hc
                obtain ⟨A2, c2, h1, h2⟩ := h (by omega)
                exact ⟨A2, c2, h1, h2.later HP.out.2⟩
               | _ + 26 => exact trivial
             ·intro v wy hS hF
              have e0 : v 0 = _ := hF 0 (by decide)
              have e1 : v 1 = _ := hF 1 (by decide)
              have e2 : v 2 = _ := hF 2 (by decide)
              have e3 : v 3 = _ := hF 3 (by decide)
              have e4 : v 4 = _ := hF 4 (by decide)
              have e5 : v 5 = _ := hF 5 (by decide)
              have e6 : v 6 = _ := hF 6 (by decide)
              have e7 : v 7 = _ := hF 7 (by decide)
              have e8 : v 8 = _ := hF 8 (by decide)
              have e9 : v 9 = _ := hF 9 (by decide)
              have e10 : v 10 = _ := hF 10 (by decide)
              have e11 : v 11 = _ := hF 11 (by decide)
              have e13 : v 13 = _ := hF 13 (by decide)
              have e14 : v 14 = _ := hF 14 (by decide)
              have e15 : v 15 = _ := hF 15 (by decide)
              have e16 : v 16 = _ := hF 16 (by decide)
              have e17 : v 17 = _ := hF 17 (by decide)
              have e18 : v 18 = _ := hF 18 (by decide)
              have e19 : v 19 = _ := hF 19 (by decide)
              have e20 : v 20 = _ := hF 20 (by decide)
              have e21 : v 21 = _ := hF 21 (by decide)
              have e22 : v 22 = _ := hF 22 (by decide)
              have e23 : v 23 = _ := hF 23 (by decide)
              have e24 : v 24 = _ := hF 24 (by decide)
              have E12 := hF 12 (by decide)
              have E25 := hF 25 (by decide)
              simp only [putAll, Act.put, pq1, pq2, pq3, Nat.zero_add, Nat.reduceAdd, pq4, pq5, List.drop_succ_cons, List.drop_zero, e0, e1, e2, e3, e4, e5, e6, e7, e8, e9, e10, e11, e13, e14, e15, e16, e17, e18, e19, e20, e21, e22, e23, e24]
              clear hF e0 e1 e2 e3 e4 e5 e6 e7 e8 e9 e10 e11 e13 e14 e15 e16 e17 e18 e19 e20 e21 e22 e23 e24
              obtain ⟨A12, c12, e12, o12⟩ := E12 (by decide)
              obtain ⟨A25, c25, e25, o25⟩ := E25 (by decide)
              rw [e12] at o12 ⊢
              rw [e25] at o25 ⊢
              have HO1 := Lib.hid (fun p hp => or_int_at (p := p) o12 hp)
              have HO2 := Lib.hid (fun p hp => or_int_at (p := p) o25 hp)
              rw [HNR.out] at o12 o25 ⊢
              have HO := Lib.hid (And.intro o12 (And.intro o25 (HB.out.trans (hS.mono HB.out.size))))
              clear E12 E25 e12 e25 o12 o25 hS x0 x1 lx y0 ly hx0 lF
              go_wp2_with fail
              go_loopw [19] (fun v wr => ∃ p : Nat, p ≤ nR ∧ v = .int .i64 (p : Int) ∧ Hid (Below wy.heap.size wy wr)) (fun v _ => nR - (intOf v).toNat)
              case atStart => exact ⟨0, by omega, rfl, Below.refl _ _⟩
              case round =>
               as_aux_lemma =>
                obtain ⟨p, hp, rfl, HBP⟩ := hrel
                by_cases hpl : p < nR
                ·have hdp : decide ((p : Int) < (nR : Int)) = true := decide_eq_true (by omega)
                 have hdpn : decide (p < nR) = true := decide_eq_true hpl
                 have hpR : p < R.length := by rw [HNR.out]; exact hpl
                 obtain ⟨g1, rfl, hg1, hq1⟩ := HO1.out p hpR
                 obtain ⟨g2, rfl, hg2, hq2⟩ := HO2.out p hpR
                 obtain ⟨y, hy⟩ : ∃ y, ((R[p]'hpR : Nat) : Int) = y := ⟨_, rfl⟩
                 rw [hy] at hq1 hq2
                 have hbd := fun d : BelT wr.heap.size wr => HBP.out.trans (d.property.mono HBP.out.size)
                 have d0 : ∀ d : BelT wr.heap.size wr, d.val.cell? ⟨g1, p, none⟩ = some (.int .i64 y) := fun d => ((hbd d).cell (p := ⟨g1, p, none⟩) hg1).trans hq1
                 have d1 : ∀ d : BelT wr.heap.size wr, d.val.cell? ⟨g2, p, none⟩ = some (.int .i64 y) := fun d => ((hbd d).cell (p := ⟨g2, p, none⟩) hg2).trans hq2
                 have d2 : ∀ d : BelT wr.heap.size wr, g1 < d.val.heap.size := fun d => Nat.lt_of_lt_of_le hg1 (hbd d).size
                 have d3 : ∀ d : BelT wr.heap.size wr, g2 < d.val.heap.size := fun d => Nat.lt_of_lt_of_le hg2 (hbd d).size
                 clear hy hq1 hq2 hbd hg1 hg2 hpR
                 go_wp2_with fail
                 refine wp_region_below (Below.refl wr.heap.size wr) (by as_aux_lemma => kernel_rfl) (by as_aux_lemma => kernel_rfl) ?_
                 repeat (go_big_quiet_step (fail))
                 refine wpQuiet_nil ?_
                 intro w30 hw'
                 have hw30 : Below wr.heap.size wr w30 := by obtain ⟨d9, rfl⟩ := hw'; exact d9.property
                 have HB30 := Lib.hid (HBP.out.trans (hw30.mono HBP.out.size))
                 clear hw' hw30 d0 d1 d2 d3
                 go_wp2_with fail
                 go_roundw
                 case measure => simp [intOf]; omega
                 case rel => exact ⟨p + 1, by omega, by go_num, HB30.out⟩
                ·obtain rfl : p = nR := by omega
                 have hdp : decide ((p : Int) < (p : Int)) = false := decide_eq_false (by omega)
                 have hdpn : decide (p < p) = false := decide_eq_false (by omega)
                 have HBQ := Lib.hid (HO.out.2.2.trans (HBP.out.mono HO.out.2.2.size))
                 go_wp2_with fail
                 go_roundw
                 case measure => simp [intOf]; omega
                 case rel => exact ⟨j + 1, by omega, by go_num, HBQ.out⟩
            ·obtain rfl : j = 2 := by omega
             have hdj : decide ((2 : Int) < 2) = false := by decide
             have hdjn : decide (2 < 2) = false := by decide
             have hbw := HB20.out.trans (HB.out.mono HB20.out.size)
             have hbd := fun d : BelT wr.heap.size wr => hbw.trans (d.property.mono hbw.size)
             have d0 : ∀ d : BelT wr.heap.size wr, d.val.cell? ⟨gA, i * 2, none⟩ = some (.slice Ae ne ce) := fun d => ((hbd d).cell (p := ⟨gA, i * 2, none⟩) HG.out.1).trans HC.out.1
             have d1 : ∀ d : BelT wr.heap.size wr, d.val.cell? ⟨gA, i * 2 + 1, none⟩ = some (.slice Aa na ca) := fun d => ((hbd d).cell (p := ⟨gA, i * 2 + 1, none⟩) HG.out.1).trans HC.out.2.1
             have d2 : ∀ d : BelT wr.heap.size wr, gA < d.val.heap.size := fun d => Nat.lt_of_lt_of_le HG.out.1 (hbd d).size
             have d3 : ∀ d : BelT wr.heap.size wr, d.val.cell? ⟨gT, k, none⟩ = some (.slice At nt ct) := fun d => ((hbd d).cell (p := ⟨gT, k, none⟩) HG.out.2.1).trans HT.out.1
             have d4 : ∀ d : BelT wr.heap.size wr, gT < d.val.heap.size := fun d => Nat.lt_of_lt_of_le HG.out.2.1 (hbd d).size
             have k1 := fun d : BelT wr.heap.size wr => acceptsz_any _ _ m lt d.val (HC.out.2.2.1.later (hbd d)) HRM.out (HT.out.2.1.later (hbd d)) (by rw [HT.out.2.2.1]; omega) HT.out.2.2.2
             have k2 := fun d : BelT wr.heap.size wr => racceptsz_any _ _ m lt d.val (HC.out.2.2.1.later (hbd d)) HRM.out (HT.out.2.1.later (hbd d)) (by rw [HT.out.2.2.1]; omega) HT.out.2.2.2
             obtain ⟨b1, hb1⟩ : ∃ b, accZ m lt = b := ⟨_, rfl⟩
             rw [hb1] at k1 k2
             have K1 := Lib.hid k1
             have K2 := Lib.hid k2
             have HBW := Lib.hid hbw
             clear k1 k2 hb1 hbd hbw
             go_wp2_with fail
             refine wp_region_below (Below.refl wr.heap.size wr) (by as_aux_lemma => kernel_rfl) (by as_aux_lemma => kernel_rfl) ?_
             repeat (go_big_quiet_step (fail))
             go_big_quiet_step ((go_at_call 25; exact Calls.below_of (Nat.le_refl _) (K1.out _)))
             repeat (go_big_quiet_step (fail))
             go_big_quiet_step ((go_at_call 32; exact Calls.below_of (Nat.le_refl _) (K2.out _)))
             repeat (go_big_quiet_step (fail))
             refine wpQuiet_nil ?_
             intro w32 hw'
             have hw32 : Below wr.heap.size wr w32 := by obtain ⟨d9, rfl⟩ := hw'; exact d9.property
             have HB32 := Lib.hid (HBW.out.trans (hw32.mono HBW.out.size))
             clear hw' hw32 d0 d1 d2 d3 d4 K1 K2
             go_wp2_with fail
             go_roundw
             case measure => simp [intOf]; omega
             case rel => exact ⟨k + 1, by omega, by go_num, HB32.out⟩
        ·obtain rfl : k = 2 := by omega
         have hdk : decide ((2 : Int) < 2) = false := by decide
         have hdkn : decide (2 < 2) = false := by decide
         go_wp2_with fail
         go_roundw
         case measure => simp [intOf]; omega
         case rel => exact ⟨i + 1, by omega, by go_num, HB.out⟩
    ·obtain rfl : i = 3 := by omega
     have hd : decide ((3 : Int) < 3) = false := by decide
     have hdn : decide (3 < 3) = false := by decide
     go_wp2_with fail
     refine (awake06 wr (HV.out.later HB.out)).mono ?_
     rintro e w99 ⟨rfl, hb99⟩
     have HB99 := Lib.hid (HG.out.2.2.trans ((HB.out.trans (hb99.mono HB.out.size)).mono HG.out.2.2.size))
     clear hb99
     go_wp2_with fail
     go_ret
     exact ⟨rfl, HB99.out⟩
end Go.Proofs.YtjhmipidmpmlmaaGreatDoor
