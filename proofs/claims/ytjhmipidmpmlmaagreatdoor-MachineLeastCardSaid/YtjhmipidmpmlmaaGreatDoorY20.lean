/- Walks: machine.least. Conditions: what machine.classes answers, as laid. · Walks: machine.Ends, machine.Accepts. · Walks: machine.Ends and machine.Accepts at any machine. Printed by gen_enz.py. · Walk: ref06.Next at a valid machine. · Walk: ref06.live at a valid machine. · Walk: ref06.table at a valid machine: rows of 256 numbers. · Walk: ref06.table. -/
import Derived.Test.YtjhmipidmpmlmaaGreatDoorY19
import Derived.Test.YtjhmipidmpmlmaaGreatDoorY15
import Derived.Test.YtjhmipidmpmlmaaGreatDoorY13
import Derived.StillTailTactics
namespace Go.Proofs.YtjhmipidmpmlmaaGreatDoor
set_option linter.unusedVariables false
set_option linter.unusedSimpArgs false
set_option maxRecDepth 100000
open Go.RowKit
open Go.Maps (Keyed)
theorem nil_cls {cs : List (Option Nat)} {m : Mc} (h : ClsOK m (clF cs)) (h1 : 1 ≤ m.ed.length) (hc : clF cs 0 = none) : ¬ LiveS m 0 := (h.dead 0 (by omega)).1 hc
theorem mcsm_nil : McSm ⟨[[]], [false]⟩ := ⟨fun r hr e he => (by simp at hr; subst hr; cases he), fun r hr => (by simp at hr; subst hr; simp), by simp⟩
theorem info_es : (Tryz.prog.info? 53).map (fun i => (i.zero, i.size, i.bytes)) = some (some (.slice none 0 0), 1, 24) := by kernel_rfl
theorem own_at1 {w : World} {B n c : Nat} {e : TypeId} {xs : List Value} {A : Option Addr} (h : w.ownsRow B e 1 (.slice A n c) n xs) (hn : 0 < n) : ∃ g, A = some ⟨g, 0, none⟩ ∧ B ≤ g ∧ g < w.heap.size ∧ ∀ i, i < n → w.cell? ⟨g, i, none⟩ = xs[i]? := by
 rcases h.2 with ⟨h1, h2⟩ | ⟨g, cap, cur, h1, hB, hg, -⟩
 ·exfalso; injection h1 with h1 h1'; omega
 ·injection h1 with h1 _ h3;subst h1;exact ⟨g, rfl, hB, (Array.getElem?_eq_some_iff.1 hg).1, fun i hi => World.ownsRow.cellAt h i (by omega)⟩
def factL10 (M gs nst cst i s ge fe n ce nrow cr g3 cc : Nat) (Ar : Option Addr) (J : List Ed) (W : World) : Nat → Nat → Value → World → Prop
 | c, 0, x, w => x = .pointer (some ⟨M, 0, none⟩)
 | c, 1, x, w => x = .slice (some ⟨ge, fe, none⟩) n ce
 | c, 2, x, w => x = .slice (some ⟨gs, 0, none⟩) nst cst
 | c, 3, x, w => x = .int .i64 (i : Int)
 | c, 4, x, w => x = .pointer (some ⟨gs, i, none⟩)
 | c, 5, x, w => x = .int .i64 (s : Int)
 | c, 6, x, w => x = .pointer (some ⟨ge, fe + s, none⟩)
 | c, 7, x, w => x = .slice Ar nrow cr
 | c, 8, x, w => x = .slice (some ⟨g3, 0, none⟩) n cc
 | c, 9, x, w => 1 ≤ c → ∃ A c', x = .slice A J.length c' ∧ OR 58 3 edC W.heap.size x J w
 | _, _, _, _ => True
def factL21 (N M gs nst cst i s ga fa n ca nj cj cE cA B0 : Nat) (AE AV Aj : Option Addr) (gv av : List Value) (a : Bool) (W : World) : Nat → Nat → Value → World → Prop
 | c, 0, x, w => x = .pointer (some ⟨N, 0, none⟩)
 | c, 1, x, w => x = .slice AE i cE
 | c, 2, x, w => x = .slice Aj nj cj
 | c, 3, x, w => ∃ g, x = .slice (some ⟨g, 0, none⟩) 1 1 ∧ W.heap.size ≤ g ∧ g < w.heap.size ∧ w.cell? ⟨g, 0, none⟩ = some (.slice Aj nj cj)
 | c, 4, x, w => 1 ≤ c → ∃ A c', x = .slice A (i + 1) c' ∧ w.ownsRow B0 53 1 x (i + 1) (gv ++ [.slice Aj nj cj]) ∧ Fresh x (.slice AE i cE) W.heap.size
 | c, 5, x, w => x = .pointer (some ⟨N, 1, none⟩)
 | c, 6, x, w => x = .slice AV i cA
 | c, 7, x, w => x = .pointer (some ⟨M, 1, none⟩)
 | c, 8, x, w => x = .slice (some ⟨ga, fa, none⟩) n ca
 | c, 9, x, w => x = .slice (some ⟨gs, 0, none⟩) nst cst
 | c, 10, x, w => x = .int .i64 (i : Int)
 | c, 11, x, w => x = .pointer (some ⟨gs, i, none⟩)
 | c, 12, x, w => x = .int .i64 (s : Int)
 | c, 13, x, w => x = .pointer (some ⟨ga, fa + s, none⟩)
 | c, 14, x, w => x = .bool a
 | c, 15, x, w => ∃ g, x = .slice (some ⟨g, 0, none⟩) 1 1 ∧ W.heap.size ≤ g ∧ g < w.heap.size ∧ w.cell? ⟨g, 0, none⟩ = some (.bool a)
 | c, 16, x, w => 2 ≤ c → ∃ A c', x = .slice A (i + 1) c' ∧ w.ownsRow B0 4 1 x (i + 1) (av ++ [.bool a]) ∧ Fresh x (.slice AV i cA) W.heap.size
 | c, 17, x, w => x = .pointer (some ⟨N, 0, none⟩)
 | c, 18, x, w => 3 ≤ c → ∃ A c', w.ownsRow B0 53 1 (.slice A (i + 1) c') (i + 1) (gv ++ [.slice Aj nj cj]) ∧ Fresh (.slice A (i + 1) c') (.slice AE i cE) W.heap.size ∧ w.heap[N]? = some (.cells #[.slice A (i + 1) c', .slice AV i cA] 34 (0, 0))
 | c, 19, x, w => x = .pointer (some ⟨N, 1, none⟩)
 | _, _, _, _ => True
section
variable {N M gs nst cst i s ga fa n ca nj cj cE cA B0 : Nat} {AE AV Aj : Option Addr} {gv av : List Value} {a : Bool} {W u u' : World}
theorem factL21_bl (hb : Below u.heap.size u u') {c j : Nat} {x : Value} (h : factL21 N M gs nst cst i s ga fa n ca nj cj cE cA B0 AE AV Aj gv av a W c j x u) : factL21 N M gs nst cst i s ga fa n ca nj cj cE cA B0 AE AV Aj gv av a W c j x u' := by
 match j with
 | 0 | 1 | 2 | 5 | 6 | 7 | 8 | 9 | 10 | 11 | 12 | 13 | 14 | 17 | 19 => exact h
 | 3 | 15 =>
  obtain ⟨g, e, h1, hg, h0⟩ := h;exact ⟨g, e, h1, Nat.lt_of_lt_of_le hg hb.size, (hb.cell (p := ⟨g, 0, none⟩) hg).trans h0⟩
 | 4 | 16 =>
  intro hc;obtain ⟨A, c', e, ho, hf⟩ := h hc;exact ⟨A, c', e, own_later ho hb, hf⟩
 | 18 =>
  intro hc;obtain ⟨A, c', ho, hf, hr⟩ := h hc;exact ⟨A, c', own_later ho hb, hf, (hb.block _ (Array.getElem?_eq_some_iff.1 hr).1).trans hr⟩
 | _ + 20 => exact trivial
theorem factL21_01 (hg : u.grownBy u' (Value.slice AE i cE).ownBlock) (hv : ∀ g, (Value.slice AE i cE).ownBlock = some g → g < W.heap.size) (j : Nat) (x : Value) (hj : j ≠ 4) (h : factL21 N M gs nst cst i s ga fa n ca nj cj cE cA B0 AE AV Aj gv av a W 0 j x u) : factL21 N M gs nst cst i s ga fa n ca nj cj cE cA B0 AE AV Aj gv av a W 1 j x u' := by
 match j with
 | 0 | 1 | 2 | 5 | 6 | 7 | 8 | 9 | 10 | 11 | 12 | 13 | 14 | 17 | 19 => exact h
 | 3 | 15 => exact f814 hg hv h
 | 4 => exact absurd rfl hj
 | 16 | 18 => exact fun hc => by omega
 | _ + 20 => exact trivial
theorem factL21_12 (hg : u.grownBy u' (Value.slice AV i cA).ownBlock) (hv : ∀ g, (Value.slice AV i cA).ownBlock = some g → g < W.heap.size) (hd : ∀ g, (Value.slice AV i cA).ownBlock = some g → (Value.slice AE i cE).ownBlock ≠ some g) (j : Nat) (x : Value) (hj : j ≠ 16) (h : factL21 N M gs nst cst i s ga fa n ca nj cj cE cA B0 AE AV Aj gv av a W 1 j x u) : factL21 N M gs nst cst i s ga fa n ca nj cj cE cA B0 AE AV Aj gv av a W 2 j x u' := by
 match j with
 | 0 | 1 | 2 | 5 | 6 | 7 | 8 | 9 | 10 | 11 | 12 | 13 | 14 | 17 | 19 => exact h
 | 3 | 15 => exact f814 hg hv h
 | 4 =>
  intro _;obtain ⟨A, c', e, ho, hf⟩ := h (by decide)
  refine ⟨A, c', e, own_same ho fun g hgx => hg.block g (ho.lt g hgx).2 (fun e2 => ?_), hf⟩;rcases hf with hf | ⟨g', hf, h2⟩
  ·rw [hf] at hgx; exact hd g e2.symm hgx
  ·rw [hf] at hgx; injection hgx with hgx; have := hv g e2.symm; omega
 | 16 => exact absurd rfl hj
 | 18 => exact fun hc => by omega
 | _ + 20 => exact trivial
theorem factL21_23 (hs : N < W.heap.size) (hsS : (Value.slice AE i cE).ownBlock ≠ some N) (hsF : (Value.slice AV i cA).ownBlock ≠ some N) (v : Value) (j : Nat) (x : Value) (hj : j ≠ 18) (h : factL21 N M gs nst cst i s ga fa n ca nj cj cE cA B0 AE AV Aj gv av a W 2 j x u) : factL21 N M gs nst cst i s ga fa n ca nj cj cE cA B0 AE AV Aj gv av a W 3 j x (u.setCell ⟨N, 0, none⟩ v) := by
 have hset : ∀ k, k ≠ N → (u.setCell ⟨N, 0, none⟩ v).heap[k]? = u.heap[k]? := fun k hk => Below.heap_setCell _ _ _ _ hk
 match j with
 | 0 | 1 | 2 | 5 | 6 | 7 | 8 | 9 | 10 | 11 | 12 | 13 | 14 | 17 | 19 => exact h
 | 3 | 15 =>
  obtain ⟨g, e, h1, h2, h3⟩ := h;exact ⟨g, e, h1, by simpa [World.setCell] using h2, (World.cell?_of_block (a := ⟨g, 0, none⟩) (hset g (by omega))).trans h3⟩
 | 4 =>
  intro _;obtain ⟨A, c', e, ho, hf⟩ := h (by decide)
  refine ⟨A, c', e, own_same ho fun g hgx => hset g (fun e2 => ?_), hf⟩;subst e2;rcases hf with hf | ⟨g', hf, h2⟩
  ·rw [hf] at hgx; exact hsS hgx
  ·rw [hf] at hgx; injection hgx with hgx; omega
 | 16 =>
  intro _;obtain ⟨A, c', e, ho, hf⟩ := h (by decide)
  refine ⟨A, c', e, own_same ho fun g hgx => hset g (fun e2 => ?_), hf⟩;subst e2;rcases hf with hf | ⟨g', hf, h2⟩
  ·rw [hf] at hgx; exact hsF hgx
  ·rw [hf] at hgx; injection hgx with hgx; omega
 | 18 => exact absurd rfl hj
 | _ + 20 => exact trivial
end
set_option maxHeartbeats 16000000 in
theorem least_of (v : Value) (m : Mc) (w : World) (hm : McIn w v m) (hv : Vld m) (hsm : McSm m) (h1 : 1 ≤ m.ed.length)
  (hal : ∀ W, Below w.heap.size w W → Calls Tryz.prog 68 #[v] W (ClPost m m.ed.length W)) : Calls Tryz.prog 39 #[v] w (LePost m w) := by
 obtain ⟨ve, va, rfl, he, ha⟩ := hm;obtain ⟨Ae, ce, rfl, hce1, hce2⟩ := he.form;obtain ⟨Aa, ca, rfl, hca1, hca2⟩ := ha.form;obtain ⟨n, hn⟩ : ∃ n, m.ed.length = n := ⟨_, rfl⟩;have hac : m.ac.length = n := by rw [hv.len, hn]
 have hnn := hsm.n;rw [hac] at ha hca1;rw [hn] at he hce1 h1 hnn;rw [hn, hac] at hal;have HAL := Lib.hid hal;have HE := Lib.hid he;have HA := Lib.hid ha;have HV := Lib.hid hv;have HSM := Lib.hid hsm;have HN := Lib.hid (And.intro hn hac);have HN1 := Lib.hid h1;have K : Keyed Tryz.prog 3 := Maps.int_keyed Tryz.underlying3;have hz : ∀ w, (zeroValue 3).run Tryz.prog w = .ok (.int .i64 0) w := fun _ => by kernel_rfl
 have hmm := @run_makeMap Tryz.prog;obtain ⟨ie, hie, he0, he1, he2⟩ := info_parts info_es;obtain ⟨ib, hib, hb0, hb1, hb2⟩ := info_parts info_bool;obtain ⟨ii, hii, hj0, hj1, hj2⟩ := info_parts info_int;rw [hac, hn];clear hal he ha hv hsm hn hac
 go_enter Tryz.func39, Tryz.ntmps39
 go_wp2_with fail;refine (HAL.out _ ?hb0).mono ?_
 case hb0 => exact ((Below.refl w.heap.size w).alloc (Nat.le_refl _) _).alloc (by simp) _
 rintro e w1 ⟨rv, cs, rfl, hown1, hb1, hl1, hok1, hlt1⟩;have hsz0 : ((w.alloc (.cells #[.slice Ae n ce, .slice Aa n ca] 34)).alloc (.cells #[.slice none 0 0, .slice none 0 0] 34)).heap.size = w.heap.size + 2 := by simp
 rw [hsz0] at hown1 hb1;have hbx0 : w1.heap[w.heap.size]? = some (.cells #[.slice Ae n ce, .slice Aa n ca] 34 (0, 0)) := (hb1.block _ (by omega)).trans ((old_alloc _ _ _ (by simp)).trans (heap_alloc_new w _))
 have hbx1 : w1.heap[w.heap.size + 1]? = some (.cells #[.slice none 0 0, .slice none 0 0] 34 (0, 0)) := (hb1.block _ (by omega)).trans (by simpa using heap_alloc_new (w.alloc (.cells #[.slice Ae n ce, .slice Aa n ca] 34)) (.cells #[.slice none 0 0, .slice none 0 0] 34))
 have hz1 := hb1.size;rw [hsz0] at hz1;have hbw1 : Below w.heap.size w w1 := (((Below.refl w.heap.size w).alloc (Nat.le_refl _) _).alloc (by simp) _).trans (hb1.mono (by omega))
 obtain ⟨Ac, cc, rfl, hcc, -⟩ : ∃ A c, rv = .slice A n c ∧ n ≤ c ∧ True := by
  obtain ⟨A, c, e, h, -⟩ := hown1.cells clC_E;exact ⟨A, c, by rw [e, hl1], by omega, trivial⟩
 obtain ⟨g3, rfl⟩ : ∃ g, Ac = some ⟨g, 0, none⟩ := by
  obtain ⟨A, c, e, -, hor⟩ := hown1.cells clC_E;obtain ⟨g, hA, -⟩ := hor.resolve_left (by rintro rfl; simp at hl1; omega)
  injection e with e1 _ _;exact ⟨g, by rw [e1, hA]⟩
 obtain ⟨cc0, -⟩ := hown1.cellC 0 (by omega)
 have hg3 := hown1.lt1;have hd0 : decide (0 < n) = true := decide_eq_true (by omega)
 have HC := Lib.hid hown1;have HB1 := Lib.hid hbw1;have HX0 := Lib.hid hbx0;have HX1 := Lib.hid hbx1;have HCL := Lib.hid (And.intro hl1 (And.intro hok1 hlt1));have lx1 : w.heap.size + 1 < w1.heap.size := by omega
 have lx2 : w.heap.size + 1 < w1.heap.size + 1 := by omega
 obtain ⟨r0, r1⟩ : w1.cell? ⟨w.heap.size + 1, 0, none⟩ = some (.slice none 0 0) ∧ w1.cell? ⟨w.heap.size + 1, 1, none⟩ = some (.slice none 0 0) := by constructor <;> (rw [cell_of_row _ _ _ _ _ _ hbx1]; rfl)
 have fr0 : w1.frozen? ⟨w.heap.size + 1, 0, none⟩ = false := by simp [World.frozen?, hbx1]
 have fr1 : w1.frozen? ⟨w.heap.size + 1, 1, none⟩ = false := by simp [World.frozen?, hbx1]
 clear hown1 hb1 hsz0 hbx0 hbx1 hbw1 hl1 hok1 hlt1
 cases hc0 : clF cs 0 with
 | none =>
  rw [hc0] at cc0;have cc1 : w1.cell? ⟨g3, 0, none⟩ = some (.int .i64 (-1)) := cc0;have HC0 := Lib.hid hc0;clear cc0 hc0;go_wp2_with fail;refine post_named fun Wf hWf => ?_;refine bodyPost_ret (v := .agg #[.slice (some ⟨w1.heap.size, 0, none⟩) 1 1, .slice (some ⟨w1.heap.size + 1, 0, none⟩) 1 1]) (by rw [hWf]; simp [results, Tryz.results39, go_sem, r0, r1, lx1, lx2]; try rfl) rfl ?_
  have hg0 : Wf.heap[w1.heap.size]? = some (.cells #[.slice none 0 0] 53 (0, 0)) := by
   rw [hWf, old_alloc _ _ _ (by simp [World.setCell])]
   have h1 := heap_alloc_new ((w1.setCell ⟨w.heap.size + 1, 0, none⟩ (.slice (some ⟨w1.heap.size, 0, none⟩) 1 1)).setCell ⟨w.heap.size + 1, 1, none⟩ (.slice (some ⟨w1.heap.size + 1, 0, none⟩) 1 1)) (.cells #[.slice none 0 0] 53);simpa [World.setCell] using h1
  have hg1 : Wf.heap[w1.heap.size + 1]? = some (.cells #[.bool false] 4 (0, 0)) := by
   rw [hWf];have h1 := heap_alloc_new (((w1.setCell ⟨w.heap.size + 1, 0, none⟩ (.slice (some ⟨w1.heap.size, 0, none⟩) 1 1)).setCell ⟨w.heap.size + 1, 1, none⟩ (.slice (some ⟨w1.heap.size + 1, 0, none⟩) 1 1)).alloc (.cells #[.slice none 0 0] 53)) (.cells #[.bool false] 4);simpa [World.setCell] using h1
  have hbf : Below w.heap.size w Wf := by
   rw [hWf];exact (((HB1.out.setCell (p := ⟨w.heap.size + 1, 0, none⟩) (by show w.heap.size ≤ w.heap.size + 1; omega) _).setCell (p := ⟨w.heap.size + 1, 1, none⟩) (by show w.heap.size ≤ w.heap.size + 1; omega) _).alloc (by simp [World.setCell]; omega) _).alloc (by simp [World.setCell]; omega) _
  have hww1 := HB1.out.size;have hup : McUp w.heap.size Wf (.agg #[.slice (some ⟨w1.heap.size, 0, none⟩) 1 1, .slice (some ⟨w1.heap.size + 1, 0, none⟩) 1 1]) ⟨[[]], [false]⟩ := fun W' hk => by
   have hg0' := (hk.blk w1.heap.size (Array.getElem?_eq_some_iff.1 hg0).1 (fun h => by have := List.mem_range.1 h; omega)).trans hg0
   have hg1' := (hk.blk (w1.heap.size + 1) (Array.getElem?_eq_some_iff.1 hg1).1 (fun h => by have := List.mem_range.1 h; omega)).trans hg1
   refine ⟨_, _, rfl, ⟨_, _, rfl, ⟨by simp, by simp⟩, .inr ⟨w1.heap.size, 0, rfl, (Array.getElem?_eq_some_iff.1 hg0').1, fun i hi => ?_⟩⟩, ⟨_, _, rfl, ⟨by simp, by simp⟩, .inr ⟨w1.heap.size + 1, 0, rfl, (Array.getElem?_eq_some_iff.1 hg1').1, fun i hi => ?_⟩⟩⟩
   ·simp at hi; subst hi;exact ⟨_, by rw [cell_of_row _ _ _ _ _ _ hg0']; rfl, ⟨none, 0, rfl, ⟨by simp, by simp⟩, .inl rfl⟩⟩
   ·simp at hi; subst hi;rw [cell_of_row _ _ _ _ _ _ hg1']; rfl
  refine ⟨_, ⟨[[]], [false]⟩, rfl, hup, hbf, .inr ⟨nil_cls HCL.out.2.1 (by rw [HN.out.1]; exact HN1.out) HC0.out, rfl⟩, by simp; have := HN1.out; have := HN.out.1; omega, mcsm_nil⟩
 | some c0 =>
  rw [hc0] at cc0;have cc1 : w1.cell? ⟨g3, 0, none⟩ = some (.int .i64 (c0 : Int)) := cc0;have hdc : decide ((c0 : Int) < 0) = false := decide_eq_false (by omega)
  have HC0 := Lib.hid hc0;have hc0n : c0 < n := HCL.out.2.2 0 c0 hc0;have hkey0 : keyOf Tryz.prog 3 (.int .i64 (c0 : Int)) = some (.int .i64 (c0 : Int)) := Maps.keyOf_int_mk Tryz.underlying3 (WalkArith.wf_i64 (by omega))
  have hmv0 := MV.made Tryz.prog 3;clear cc0 hc0;go_wp2_with (refine wpList_ins_MV _ rfl _ _ _ 109 rfl 3 3 K Tryz.underlying109 w1.heap.size 0 (fun _ => none) rfl (hmv0 _) (by decide) _ _ (.int .i64 (c0 : Int)) rfl rfl hkey0 trivial ?_)
  intro w2 hmv2 hg2;have hsz2 : (w1.alloc (.map #[] 0)).heap.size = w1.heap.size + 1 := by simp
  have hz2 := hg2.size;rw [hsz2] at hz2;have hb2 : Below w1.heap.size w1 w2 := ((Below.refl _ w1).alloc (Nat.le_refl _) (.map #[] 0)).grown hg2 (by omega) (fun q hq => by injection hq with hq; omega)
  have HMV2 := Lib.hid hmv2;have HB2 := Lib.hid hb2;clear hmv2 hg2 hb2 hsz2 hmv0;go_wp2_with fail;refine wp_named fun W hW => ?_;have hbW : Below w2.heap.size w2 W := by rw [hW]; exact ((Below.refl _ _).alloc (Nat.le_refl _) _).alloc (by simp) _
  have hzW : W.heap.size = w2.heap.size + 2 := by rw [hW]; simp
  have hst0 : OR 3 1 clC w2.heap.size (.slice (some ⟨w2.heap.size, 0, none⟩) 1 1) [some 0] W := by rw [hW]; exact OR.later (zeros_new w2 1 (by omega)) ((Below.refl _ _).alloc (by simp) _)
  have hNW : W.heap[w2.heap.size + 1]? = some (.cells #[.slice none 0 0, .slice none 0 0] 34 (0, 0)) := by rw [hW]; simpa using heap_alloc_new (w2.alloc _) (.cells #[.slice none 0 0, .slice none 0 0] 34)
  have hmb := HMV2.out.lt;have hL0 : LeS m (clF cs) w1.heap.size (w2.heap.size + 1) w1.heap.size 0 [] [] [] (.slice none 0 0) (.slice none 0 0) [] [] 0 [0] (updV (fun _ => none) (.int .i64 (c0 : Int)) (some (.int .i64 0))) (.slice (some ⟨w2.heap.size, 0, none⟩) 1 1) W := by
   refine ⟨⟨hNW, by omega, World.ownsRow_nil _ _ _ _, fun i hi => (by cases hi), OR.nil_ _ _ _, fun k hk hx => ?_⟩, HMV2.out.kept (hbW.block _ hmb), Nat.le_refl _, SaysC.first HC0.out, ?_, LeI.start (by rw [HC0.out]; simp) (by rw [HN.out.1]; exact HN1.out), rfl⟩
   ·have h1 : k = w2.heap.size + 1 := by rcases mem_fpM.1 hk with h | h | h; exact h; cases h; cases h
    rcases List.mem_cons.1 hx with h | h
    ·omega
    ·simp [blk, Value.ownBlock] at h; omega
   ·have := (OR.mono hst0 (show w1.heap.size ≤ w2.heap.size by omega))
    exact this
  have HL0 := Lib.hid hL0;have HBW := Lib.hid (HB2.out.trans (hbW.mono (by omega)))
  clear hW hbW hst0 hNW hL0 cc1 HC0 hdc hkey0 hd0;go_wp2_with fail
  go_loopw [7, 5] (fun iv vst wr => ∃ (i : Nat) (st : List Nat) (rs : List (List Ed)) (acs : List Bool) (vE vA : Value) (gv : List Value) (t : Nat) (F : Lit → Option Value), iv = .int .i64 (i : Int) ∧ i ≤ n ∧ Hid (LeS m (clF cs) w1.heap.size (w2.heap.size + 1) w1.heap.size i [] rs acs vE vA gv [] t st F vst wr) ∧ Hid (Below w1.heap.size w1 wr)) (fun iv _ _ => n - (intOf iv).toNat)
  case atStart => exact ⟨0, [0], [], [], _, _, [], 0, _, rfl, Nat.zero_le _, HL0, HBW⟩
  case round =>
   obtain ⟨i, st, rs, acs, vE, vA, gv, t, F, rfl, hin, HL, HB⟩ := hrel;have hil := HL.out.le.il;have hstn := HL.out.le.nodup;rw [HN.out.1] at hstn;obtain ⟨As, cst, rfl, hcst, -⟩ := own_form HL.out.own;obtain ⟨nst, hnst⟩ : ∃ x, st.length = x := ⟨_, rfl⟩;rw [hnst] at hil hstn hcst;have HNST := Lib.hid hnst;rw [hnst] at HL ⊢;clear hnst;have hwr := HB.out.size;by_cases hlt : i < nst
   ·have hd : decide ((i : Int) < (nst : Int)) = true := decide_eq_true (by omega)
    have hdi : decide (i < nst) = true := decide_eq_true hlt;obtain ⟨s, hs⟩ : ∃ s, st[i]? = some s := ⟨_, List.getElem?_eq_getElem (show i < st.length by rw [HNST.out]; exact hlt)⟩
    obtain ⟨hsn', -⟩ := HL.out.le.lv s (List.mem_of_getElem? hs);have hsn : s < n := by rw [HN.out.1] at hsn'; exact hsn'
    have hown := HL.out.own;rw [HNST.out] at hown;obtain ⟨gs, rfl, hgsB, lgs, hgc⟩ := own_at1 hown (by omega)
    have xst : wr.cell? ⟨gs, i, none⟩ = some (.int .i64 (s : Int)) := by rw [hgc i hlt]; unfold ints; rw [List.getElem?_map, hs]; rfl
    have hbw : Below w.heap.size w wr := HB1.out.trans (HB.out.mono HB1.out.size);obtain ⟨ge, fe, rv0, rfl, -, hge, hce0, hed0⟩ := HE.out.at_ hsn';obtain ⟨ga, fa, rfl, -, hga, hca0⟩ := HA.out.at_ (show s < m.ac.length by rw [HN.out.2]; exact hsn)
    have xrow := (World.cell?_of_block (a := ⟨ge, fe + s, none⟩) (hbw.block ge hge)).trans hce0;have xac0 := (World.cell?_of_block (a := ⟨ga, fa + s, none⟩) (hbw.block ga hga)).trans hca0;have hed := hed0.later hbw;obtain ⟨row, hrow⟩ : ∃ r, m.ed[s] = r := ⟨_, rfl⟩;obtain ⟨a, haa⟩ : ∃ b, m.ac[s]'(by rw [HN.out.2]; exact hsn) = b := ⟨_, rfl⟩
    rw [hrow] at hed;rw [haa] at xac0;have hrm : row ∈ m.ed := by rw [← hrow]; exact List.getElem_mem hsn'
    have hrM : rowM m s = row := by unfold rowM; rw [List.getElem?_eq_getElem hsn', hrow]; rfl
    have haM : (m.ac[s]?).getD false = a := by rw [List.getElem?_eq_getElem (by rw [HN.out.2]; exact hsn), haa]; rfl
    have hjb := joinF_by (cls := clF cs) (HV.out.srt row hrm) (HSM.out.by_ row hrm);have HTO := Lib.hid (show ∀ e ∈ row, e.to < cs.length from fun e he => by rw [HCL.out.1, ← HN.out.1]; exact HV.out.to row hrm e he)
    have HBY := Lib.hid (HSM.out.by_ row hrm);obtain ⟨J, hJ⟩ : ∃ J, joinF (clF cs) row = J := ⟨_, rfl⟩;have hJl := Nat.le_trans (joinF_len (clF cs) row) (HSM.out.rl row hrm);rw [hJ] at hjb hJl;have HJB := Lib.hid (show ∀ e ∈ J, ∃ f, f < n ∧ clF cs f = some e.to from fun e he => by
     obtain ⟨-, -, f, hf, h3⟩ := hjb e he;exact ⟨f.to, by rw [← HN.out.1]; exact HV.out.to row hrm f hf, h3⟩)
    have HJE := Lib.hid hJ;have hrl := HSM.out.rl row hrm;obtain ⟨Ar, cr, hrf, -⟩ := hed.form;obtain ⟨nrow, hnrow⟩ : ∃ n, row.length = n := ⟨_, rfl⟩;rw [hnrow] at hrf hrl;have HNR := Lib.hid hnrow;subst hrf;have hed' : EdIn wr (.slice Ar nrow cr) row := hed;have hM := (HB.out.block w.heap.size (by omega)).trans HX0.out
    obtain ⟨xm0, xm1⟩ : wr.cell? ⟨w.heap.size, 0, none⟩ = some (.slice (some ⟨ge, fe, none⟩) n ce) ∧ wr.cell? ⟨w.heap.size, 1, none⟩ = some (.slice (some ⟨ga, fa, none⟩) n ca) := by constructor <;> (rw [cell_of_row _ _ _ _ _ _ hM]; rfl)
    have hwz := hbw.size;have lM : w.heap.size < wr.heap.size := (Array.getElem?_eq_some_iff.1 hM).1;have lge : ge < wr.heap.size := by omega
    have lga : ga < wr.heap.size := by omega
    have HED := Lib.hid hed';have HCI := Lib.hid ((ClIn.of_OR HC.out).later (HB.out.mono (Nat.le_refl _)));have hit : i ≤ t := by have := HL.out.le.top; have h9 : t + 1 = st.length := this; have := HNST.out; omega
    have HS := Lib.hid (And.intro hs (And.intro hrM (And.intro haM hit)));have HXA := Lib.hid (And.intro xm1 xac0);have HGA := Lib.hid (And.intro hga hgsB);obtain ⟨W, hWeq⟩ : ∃ W : World, W = wr := ⟨_, rfl⟩;subst hWeq;have hS0 : Below W.heap.size W W.drew := (Below.refl _ _).drew;clear hsn' hown hgc hbw hge hga hce0 hca0 hed hed0 hed' hrow haa hrm hrM haM hjb hJ hnrow hM hs hgsB hit xm1 xac0;go_wp2_with fail;refine wp_region_chain 10 [9] (factL10 w.heap.size gs nst cst i s ge fe n ce nrow cr g3 cc Ar J W) (fun _ w' => Below W.heap.size W w') (by kernel_rfl) (by kernel_rfl) (by kernel_rfl) (by kernel_rfl) (by kernel_rfl) (by kernel_rfl) (by decide) hS0 ?_ ?_
    ·simp only [pq4, pq5];refine HSteps.pure (by decide) ?_ (HSteps.pure (by decide) ?_ (HSteps.pure (by decide) ?_ (HSteps.pure (by decide) ?_ (HSteps.pure (by decide) ?_ (HSteps.pure (by decide) ?_ (HSteps.pure (by decide) ?_ (HSteps.pure (by decide) ?_ (HSteps.pure (by decide) ?_ (HSteps.eff 0 rfl ?_ (HSteps.nil))))))))))
     all_goals first | (intro v wz c hlo hS hE K hK;simp only [putAll, Act.put, pq1, pq2, pq3, Nat.zero_add, Nat.reduceAdd, pq4, pq5] at hK ⊢) | (intro v wz hS hE K hK;simp only [putAll, Act.put, pq1, pq2, pq3, Nat.zero_add, Nat.reduceAdd, pq4, pq5] at hK ⊢)
     ·have HX := Lib.hid hS;clear hS hE hlo;go_wp2_with fail;exact hK.out _ rfl
     ·have e0 : v 0 = _ := hE.1 rfl;rw [e0] at hK ⊢;have c1 := (hS.cell (p := ⟨w.heap.size, 0, none⟩) lM).trans xm0;have l1 : w.heap.size < wz.heap.size := by have := hS.size; omega
      have HX := Lib.hid hS;clear hS hE hlo;go_wp2_with fail;exact hK.out _ rfl
     ·have HX := Lib.hid hS;clear hS hE hlo;go_wp2_with fail;exact hK.out _ rfl
     ·have HX := Lib.hid hS;clear hS hE hlo;go_wp2_with fail;exact hK.out _ rfl
     ·have e2 : v 2 = _ := hE.1 rfl;have e3 : v 3 = _ := hE.2.1 rfl;rw [e2, e3] at hK ⊢;have HX := Lib.hid hS;clear hS hE hlo;go_wp2_with fail;exact hK.out _ rfl
     ·have e4 : v 4 = _ := hE.1 rfl;rw [e4] at hK ⊢;have c1 := (hS.cell (p := ⟨gs, i, none⟩) lgs).trans xst;have l1 : gs < wz.heap.size := by have := hS.size; omega
      have HX := Lib.hid hS;clear hS hE hlo;go_wp2_with fail;exact hK.out _ rfl
     ·have e1 : v 1 = _ := hE.1 rfl;have e5 : v 5 = _ := hE.2.1 rfl;rw [e1, e5] at hK ⊢;have HX := Lib.hid hS;clear hS hE hlo;go_wp2_with fail;exact hK.out _ rfl
     ·have e6 : v 6 = _ := hE.1 rfl;rw [e6] at hK ⊢;have c1 := (hS.cell (p := ⟨ge, fe + s, none⟩) lge).trans xrow;have l1 : ge < wz.heap.size := by have := hS.size; omega
      have HX := Lib.hid hS;clear hS hE hlo;go_wp2_with fail;exact hK.out _ rfl
     ·have HX := Lib.hid hS;clear hS hE hlo;go_wp2_with fail;exact hK.out _ rfl
     ·have e7 : v 7 = _ := hE.1 rfl;have e8 : v 8 = _ := hE.2.1 rfl;rw [e7, e8] at hK ⊢;have hcall := joined_any (.slice Ar nrow cr) (.slice (some ⟨g3, 0, none⟩) n cc) row cs wz (HED.out.later hS) (HCI.out.later hS) HTO.out HBY.out (by rw [HNR.out]; omega)
      have HC := Lib.hid hcall;have HX := Lib.hid hS;clear hS hE hcall;go_wp2_with fail;refine HC.out.mono ?_;rintro e wy ⟨jv, rfl, ho, hb⟩;obtain ⟨Aj, cj, rfl, -⟩ := (EdIn.of_OR ho).form;have HBY2 := Lib.hid (HX.out.trans (hb.mono HX.out.size));have HJ := Lib.hid (ho.mono HX.out.size);rw [HJE.out] at HJ ⊢;clear ho hb;go_wp2_with fail;refine hK.out _ _ (fun j z hj h => ?_) HBY2.out (fun _ => ⟨Aj, cj, rfl, HJ.out⟩)
      match j with
      | 0 | 1 | 2 | 3 | 4 | 5 | 6 | 7 | 8 => exact h
      | 9 => exact absurd rfl hj
      | _ + 10 => exact trivial
    ·intro v wz hS hF;have e0 : v 0 = _ := hF 0 (by decide)
     have e1 : v 1 = _ := hF 1 (by decide)
     have e2 : v 2 = _ := hF 2 (by decide)
     have e3 : v 3 = _ := hF 3 (by decide)
     have e4 : v 4 = _ := hF 4 (by decide)
     have e5 : v 5 = _ := hF 5 (by decide)
     have e6 : v 6 = _ := hF 6 (by decide)
     have e7 : v 7 = _ := hF 7 (by decide)
     have e8 : v 8 = _ := hF 8 (by decide)
     have E9 := hF 9 (by decide)
     simp only [putAll, Act.put, pq1, pq2, pq3, Nat.zero_add, Nat.reduceAdd, pq4, pq5, List.drop_succ_cons, List.drop_zero, e0, e1, e2, e3, e4, e5, e6, e7, e8];clear hF e0 e1 e2 e3 e4 e5 e6 e7 e8;obtain ⟨Aj, cj, e9, hoj⟩ := E9 (Nat.le_refl _);rw [e9] at hoj ⊢;have hK0 := HL.out.begin hS HB.out hoj;obtain ⟨nj, hnj⟩ : ∃ n, J.length = n := ⟨_, rfl⟩;rw [hnj] at hK0 hJl ⊢;have HK0 := Lib.hid hK0;have HNJ := Lib.hid hnj;obtain ⟨BL, hBL⟩ : ∃ B, W.heap.size = B := ⟨_, rfl⟩;rw [hBL] at HK0;clear hS hoj hK0 hnj e9 E9 xrow xst xm0 HL HB hS0 HED HCI HTO HBY;go_wp2_with fail
     go_loopw [46, 5] (fun kv vst wr => ∃ (k : Nat) (st' : List Nat) (F' : Lit → Option Value), kv = .int .i64 (k : Int) ∧ k ≤ nj ∧ Hid (LeK m (clF cs) (w2.heap.size + 1) w1.heap.size i BL rs acs vE vA gv J t st (.slice Aj nj cj) w1 k k st' F' vst wr)) (fun kv _ _ => nj - (intOf kv).toNat)
     case atStart => exact ⟨0, st, F, rfl, Nat.zero_le _, HK0⟩
     case round =>
      obtain ⟨k, st', F', rfl, hk, HK⟩ := hrel;have hstn2 := HK.out.le.le.nodup;rw [HN.out.1] at hstn2;have hwr2 := HK.out.bl.size;obtain ⟨As2, cst2, rfl, hcst2, -⟩ := own_form HK.out.le.own;obtain ⟨ns2, hns2⟩ : ∃ x, st'.length = x := ⟨_, rfl⟩;have hown2 := HK.out.le.own;rw [hns2] at hown2 hcst2 hstn2 HK ⊢;have HOW := Lib.hid hown2;have HNS := Lib.hid hns2;clear hns2 hown2;by_cases hlt2 : k < nj
      ·have hd2 : decide ((k : Int) < (nj : Int)) = true := decide_eq_true (by omega)
       have hkd : decide (k < nj) = true := decide_eq_true hlt2;have hkJ : k < J.length := by rw [HNJ.out]; exact hlt2
       obtain ⟨gl, rfl⟩ : ∃ g, Aj = some ⟨g, 0, none⟩ := by
        obtain ⟨A, c, e, -, hor⟩ := HK.out.row.cells edC_E;obtain ⟨g, hA, -⟩ := hor.resolve_left (by intro e2; have := ren_len (numC (clF cs) st') J k (by omega); rw [e2] at this; simp at this; omega)
        injection e with e1 _ _;exact ⟨g, by rw [e1, hA]⟩
       have HKJ : Hid (LeK m (clF cs) (w2.heap.size + 1) w1.heap.size i BL rs acs vE vA gv J t st (.slice (some ⟨gl, 0, none⟩) J.length cj) w1 k k st' F' (.slice As2 ns2 cst2) wr) := by rw [HNJ.out]; exact HK
       obtain ⟨⟨e0, e1, e2⟩, ef, lgl⟩ := HKJ.out.cells hkJ;obtain ⟨q, hq⟩ : ∃ e, J[k] = e := ⟨_, rfl⟩;have hqm : q ∈ J := by rw [← hq]; exact List.getElem_mem hkJ
       obtain ⟨f0, hf0n, hf0⟩ := HJB.out q hqm;have hqc := HCL.out.2.2 _ _ hf0;obtain ⟨lo, hi, cl⟩ := q;rw [hq] at e0 e1 e2;simp only at e0 e1 e2 hf0 hqc;have hb0 : Below wr.heap.size wr (wr.alloc (.cells #[.int .u8 (lo : Int), .int .u8 (hi : Int), .int .i64 (cl : Int)] 58)) := (Below.refl _ _).alloc (Nat.le_refl _) _;have hK1 := HKJ.out.later hb0;have hkey : keyOf Tryz.prog 3 (.int .i64 (cl : Int)) = some (.int .i64 (cl : Int)) := Maps.keyOf_int_mk Tryz.underlying3 (WalkArith.wf_i64 (by omega))
       have hmv := hK1.le.mv;have hsy := hK1.le.say cl;have hne3 : gl ≠ wr.heap.size := by omega
       have HQ := Lib.hid hq;by_cases hinn : some cl ∈ st'.map (clF cs)
       ·rw [if_pos hinn] at hsy;have hlook : (Instr.lookup 109 (.map (some w1.heap.size)) (.int .i64 (cl : Int)) true).run Tryz.prog (wr.alloc (.cells #[.int .u8 (lo : Int), .int .u8 (hi : Int), .int .i64 (cl : Int)] 58)) = .ok (.tuple #[.int .i64 ((numC (clF cs) st' cl : Nat) : Int), .bool true]) (wr.alloc (.cells #[.int .u8 (lo : Int), .int .u8 (hi : Int), .int .i64 (cl : Int)] 58)) := by
         have h1 := hmv.look_ok K Tryz.underlying109 hz hkey trivial;rw [hsy] at h1;exact h1
        obtain ⟨x, hx⟩ : ∃ x, numC (clF cs) st' cl = x := ⟨_, rfl⟩;rw [hx] at hlook;have hb9 : Below (wr.setCell ⟨gl, k * 3 + 2, none⟩ (.int .i64 (x : Int))).heap.size (wr.setCell ⟨gl, k * 3 + 2, none⟩ (.int .i64 (x : Int))) ((wr.setCell ⟨gl, k * 3 + 2, none⟩ (.int .i64 (x : Int))).alloc (.cells #[.int .u8 (lo : Int), .int .u8 (hi : Int), .int .i64 (cl : Int)] 58)) := (Below.refl _ _).alloc (Nat.le_refl _) _;have hK3 := ((HKJ.out.old hkJ (by rw [hq]; exact hinn)).put hkJ (x := (x : Int)) (by rw [hq, ← hx])).later hb9
        rw [HNJ.out] at hK3;have HK3 := Lib.hid hK3;clear hK1 hmv hsy hinn hx hK3 hb9 hq hqm hf0 hf0n hb0 HKJ;go_wp2_with fail;go_roundw
        case rel => exact ⟨k + 1, st', F', by go_num, by omega, HK3⟩
        case measure => simp [intOf]; omega
       ·rw [if_neg hinn] at hsy;have hlook : (Instr.lookup 109 (.map (some w1.heap.size)) (.int .i64 (cl : Int)) true).run Tryz.prog (wr.alloc (.cells #[.int .u8 (lo : Int), .int .u8 (hi : Int), .int .i64 (cl : Int)] 58)) = .ok (.tuple #[.int .i64 0, .bool false]) (wr.alloc (.cells #[.int .u8 (lo : Int), .int .u8 (hi : Int), .int .i64 (cl : Int)] 58)) := by
         have h1 := hmv.look_ok K Tryz.underlying109 hz hkey trivial;rw [hsy] at h1;exact h1
        have HMV := Lib.hid hmv;have HK1 := Lib.hid hK1;have HNI := Lib.hid hinn;have HEX := Lib.hid (show ∃ s, s < n ∧ clF cs s = some cl from ⟨f0, hf0n, hf0⟩);have hns0 : st'.length < maxLen := by unfold maxLen; have := HNS.out; omega
        have hmv' : MV Tryz.prog 3 w1.heap.size ns2 F' (wr.alloc (.cells #[.int .u8 (lo : Int), .int .u8 (hi : Int), .int .i64 (cl : Int)] 58)) := by rw [← HNS.out]; exact hmv
        have HMV' := Lib.hid hmv';have hownE := World.ownsRow.alloc HOW.out (.cells #[.int .u8 (lo : Int), .int .u8 (hi : Int), .int .i64 (cl : Int)] 58);have HOE := Lib.hid hownE;have hmlt : w1.heap.size < wr.heap.size := HKJ.out.le.mv.lt;clear hK1 hmv hmv' hsy hinn hq hqm hf0 hf0n hb0 hownE hns0;go_wp2_with (at_mapUpdate; refine wpList_put_MV _ rfl _ _ _ 109 rfl 3 3 K Tryz.underlying109 w1.heap.size ns2 F' rfl HMV'.out (by unfold maxLen; omega) _ _ _ rfl rfl hkey trivial ?_)
        intro wm hmvm hgm;have hzm := hgm.size;have hsz0 : (wr.alloc (.cells #[.int .u8 (lo : Int), .int .u8 (hi : Int), .int .i64 (cl : Int)] 58)).heap.size = wr.heap.size + 1 := by simp
        rw [hsz0] at hzm;have hec : wm.cell? ⟨wr.heap.size, 2, none⟩ = some (.int .i64 (cl : Int)) := (World.cell?_of_block (a := ⟨wr.heap.size, 2, none⟩) (hgm.block _ (by simp) (fun e => by injection e with e; have e' : wr.heap.size = w1.heap.size := e; omega))).trans (by rw [cell_of_row _ _ _ _ _ _ (heap_alloc_new wr _)]; rfl)
        have hownM : wm.ownsRow w1.heap.size 3 1 (.slice As2 ns2 cst2) ns2 (ints st') := own_same HOE.out fun g hg => hgm.block g (HOE.out.lt g hg).2 fun e => mv_ne HMV'.out HOE.out (by rw [hg, e])
        have hbm : Below w1.heap.size w1 wm := HK1.out.bl.grown hgm HK1.out.bl.size (fun q hq => by injection hq with hq; omega)
        have hix := index_cls _ g3 n cc cl cs wm (OR.later HC.out hbm) HCL.out.1 (by omega) HEX.out
        have HIX := Lib.hid hix;have HGM := Lib.hid (And.intro hmvm hgm);have HOM := Lib.hid hownM;clear hix hmvm hgm hownM hbm hsz0;go_wp2_with fail;refine HIX.out.mono ?_;rintro e wy ⟨s2, rfl, hwy, hs2n, hs2c⟩;rw [hwy];clear hwy;have hownA := World.ownsRow.alloc HOM.out (.cells #[.int .i64 (s2 : Int)] 3);have hcx : ∀ j u, ([.int .i64 (s2 : Int)] : List Value)[j]? = some u → (wm.alloc (.cells #[.int .i64 (s2 : Int)] 3)).cell? ((⟨wm.heap.size, 0, none⟩ : Addr).add j) = some u := fun j u hj => by
         match j, hj with
         | 0, hj => simp at hj; rw [← hj, Addr.add_lit, cell_of_row _ _ _ _ _ _ (heap_alloc_new wm _)]; rfl
        have hbz : w1.heap.size ≤ (wm.alloc (.cells #[.int .i64 (s2 : Int)] 3)).heap.size := by simp; omega
        have HB7 := Lib.hid (show Below wm.heap.size wm (wm.alloc (.cells #[.int .i64 (s2 : Int)] 3)) from (Below.refl _ _).alloc (Nat.le_refl _) _);go_wp2_with (at_builtin; refine appI_at rfl _ _ 22 rfl w1.heap.size 3 ii _ 1 8 Tryz.underlying22 hii hj0 hj1 hj2 rfl (by decide) _ ns2 (ints st') rfl hownA ⟨wm.heap.size, 0, none⟩ 1 1 [.int .i64 (s2 : Int)] rfl rfl hcx (by intro u hu; simp at hu; subst hu; rfl) (by unfold maxLen; omega) (by omega) hbz ?_)
        intro vst' w4 hown4 hg4 hf4;have hf4' : Fresh vst' (.slice As2 ns2 cst2) (wm.alloc (.cells #[.int .i64 (s2 : Int)] 3)).heap.size := by rw [show (wm.alloc (.cells #[.int .i64 (s2 : Int)] 3)).heap.size = wm.heap.size + 1 by simp]; exact hf4
        obtain ⟨hk5, hnum⟩ := HK1.out.new hkJ HGM.out.2 (by rw [HQ.out, HNS.out]; exact HGM.out.1) HB7.out hg4 (by rw [HNS.out]; exact hown4) hf4' (by rw [HQ.out]; exact HNI.out) (by rw [HN.out.1]; exact hs2n) (by rw [HQ.out]; exact hs2c)
        rw [HNS.out] at hk5 hnum;obtain ⟨A4, c4, rfl, -, -⟩ := own_form hown4;obtain ⟨⟨-, -, f2⟩, ff, lgl4⟩ := hk5.cells hkJ;have hk6 := hk5.put hkJ (x := (ns2 : Int)) (by rw [hnum])
        rw [HNJ.out] at hk6;have HK6 := Lib.hid hk6;clear hown4 hg4 hf4 hf4' hk5 hnum hk6 hownA hcx hbz hec;go_wp2_with fail;go_roundw
        case rel => exact ⟨k + 1, st' ++ [s2], _, by go_num, by omega, HK6⟩
        case measure => simp [intOf]; omega
      ·have hkn : k = nj := by omega
       have hd2 : decide ((k : Int) < (nj : Int)) = false := decide_eq_false (by omega)
       have hle := HK.out.le;have hrow := HK.out.row;rw [List.take_of_length_le (by rw [HNJ.out]; omega)] at hle
       rw [List.take_of_length_le (by rw [HNJ.out]; omega), List.drop_of_length_le (by rw [HNJ.out]; omega), List.append_nil] at hrow
       have hpl : ∃ more, st' = st ++ more := HK.out.pre;have hil2 := hle.le.il;have hs2 : st'[i]? = some s := by
        obtain ⟨more, e⟩ := hpl;rw [e, List.getElem?_append_left (by have := HNST.out; omega)]
        exact HS.out.1
       have hrl2 : rs.length = i := by rw [hle.le.rows, List.length_map, List.length_take]; omega
       have hal2 : acs.length = i := by rw [hle.ac, List.length_map, List.length_take]; omega
       have hmkE := hle.ma.own;have hmkA : wr.ownsRow w1.heap.size 4 1 vA acs.length (rowF bC acs) := hle.ma.acc;rw [hrl2] at hmkE;rw [hal2] at hmkA;obtain ⟨AE, cE, rfl, -, -⟩ := own_form hmkE;obtain ⟨AV, cA, rfl, -, -⟩ := own_form hmkA;obtain ⟨av, hav⟩ : ∃ av, rowF bC acs = av := ⟨_, rfl⟩;rw [hav] at hmkA;have hi2 : i < ns2 := by have := (List.getElem?_eq_some_iff.1 hs2).1; rw [HNS.out] at this; exact this
       obtain ⟨gs2, rfl, -, lgs, hgc⟩ := own_at1 HOW.out (by omega)
       have xst : wr.cell? ⟨gs2, i, none⟩ = some (.int .i64 (s : Int)) := by rw [hgc i (by omega)]; unfold ints; rw [List.getElem?_map, hs2]; rfl
       have hM := (HK.out.bl.block w.heap.size (by omega)).trans HX0.out
       have xm1 : wr.cell? ⟨w.heap.size, 1, none⟩ = some (.slice (some ⟨ga, fa, none⟩) n ca) := by rw [cell_of_row _ _ _ _ _ _ hM]; rfl
       have hbw : Below w.heap.size w wr := HB1.out.trans (HK.out.bl.mono HB1.out.size);have hacA : (m.ac[s]?).getD false = a := HS.out.2.2.1;have hca0 : w.cell? ⟨ga, fa + s, none⟩ = some (.bool a) := by
        obtain ⟨ga', fa', e, -, -, h0⟩ := HA.out.at_ (show s < m.ac.length by rw [HN.out.2]; exact hsn)
        injection e with e; injection e with e1 e2;rw [e1, e2, h0, ← hacA, List.getElem?_eq_getElem (by rw [HN.out.2]; exact hsn)]; rfl
       have xac := (World.cell?_of_block (a := ⟨ga, fa + s, none⟩) (hbw.block ga HGA.out.1)).trans hca0;have hNr := hle.ma.hN;obtain ⟨xn0, xn1⟩ : wr.cell? ⟨w2.heap.size + 1, 0, none⟩ = some (.slice AE i cE) ∧ wr.cell? ⟨w2.heap.size + 1, 1, none⟩ = some (.slice AV i cA) := by constructor <;> (rw [cell_of_row _ _ _ _ _ _ hNr]; rfl)
       have hltM := hle.ma.lt;have hwz2 := hbw.size;have hsl : w2.heap.size + 1 < wr.heap.size := (hltM _ (mem_fpM.2 (.inl rfl))).2;have lM : w.heap.size < wr.heap.size := (Array.getElem?_eq_some_iff.1 hM).1;have lga : ga < wr.heap.size := by have := HGA.out.1; omega
       have hww1 := HB1.out.size;have nM : w.heap.size ∉ (w2.heap.size + 1) :: (blk (.slice AE i cE) ++ blk (.slice AV i cA)) := fun hm => by have := (hltM _ hm).1; omega
       have nga : ga ∉ (w2.heap.size + 1) :: (blk (.slice AE i cE) ++ blk (.slice AV i cA)) := fun hm => by have := (hltM _ hm).1; have := HGA.out.1; omega
       have ngs : gs2 ∉ (w2.heap.size + 1) :: (blk (.slice AE i cE) ++ blk (.slice AV i cA)) := fun hm => hle.ma.out _ hm (by simp [blk, Value.ownBlock])
       have hne : (∀ g, (Value.slice AE i cE).ownBlock = some g → g < wr.heap.size) ∧ (∀ g, (Value.slice AV i cA).ownBlock = some g → g < wr.heap.size) ∧ (∀ g, (Value.slice AV i cA).ownBlock = some g → (Value.slice AE i cE).ownBlock ≠ some g) ∧ (Value.slice AE i cE).ownBlock ≠ some (w2.heap.size + 1) ∧ (Value.slice AV i cA).ownBlock ≠ some (w2.heap.size + 1) ∧ (∀ g, (Value.slice AV i cA).ownBlock = some g → (Value.slice AE i cE).ownBlock ≠ some g ∧ g < wr.heap.size) := by
        have hd : ∀ g, (Value.slice AV i cA).ownBlock = some g → (Value.slice AE i cE).ownBlock ≠ some g := fun g hg e => hle.ma.neEA g e hg;exact ⟨fun g hg => (hmkE.lt g hg).2, fun g hg => (hmkA.lt g hg).2, hd, hle.ma.neE, hle.ma.neA, fun g hg => ⟨hd g hg, (hmkA.lt g hg).2⟩⟩
       obtain ⟨W, hWeq⟩ : ∃ W : World, W = wr := ⟨_, rfl⟩;subst hWeq;have hS0 : StW6 (w2.heap.size + 1) (.slice AE i cE) (.slice AV i cA) W 0 W.drew := ⟨(KeepF.of_below (Below.refl _ _).drew).weak, fun _ => rfl, fun _ _ _ => rfl, fun _ => (Below.refl _ _).drew⟩;have HNE := Lib.hid hne;have HNB := Lib.hid hNr;have HE1 := Lib.hid hmkE;have HV1 := Lib.hid hmkA;have HZ1 := Lib.hid hwr2;have HLE := Lib.hid (And.intro hle (And.intro hrow hs2));have HBE := Lib.hid (And.intro HK.out.bl HK.out.hB);have HAV := Lib.hid (And.intro hav (And.intro hrl2 hal2));clear hle hrow hpl hil2 hs2 hrl2 hal2 hmkE hmkA hav hgc hM hbw hacA hca0 hNr hltM hne hkn hwr2;go_wp2_with fail;refine wp_region_chain 20 [4, 16, 18] (factL21 (w2.heap.size + 1) w.heap.size gs2 ns2 cst2 i s ga fa n ca nj cj cE cA w1.heap.size AE AV Aj gv av a W) (fun c w' => StW6 (w2.heap.size + 1) (.slice AE i cE) (.slice AV i cA) W c w') (by kernel_rfl) (by kernel_rfl) (by kernel_rfl) (by kernel_rfl) (by kernel_rfl) (by kernel_rfl) (by decide) hS0 ?_ ?_
       ·simp only [pq4, pq5];refine HSteps.pure (by decide) ?_ (HSteps.pure (by decide) ?_ (HSteps.pure (by decide) ?_ (HSteps.free (by decide) ?_ (HSteps.eff 0 rfl ?_ (HSteps.pure (by decide) ?_ (HSteps.pure (by decide) ?_ (HSteps.pure (by decide) ?_ (HSteps.pure (by decide) ?_ (HSteps.pure (by decide) ?_ (HSteps.pure (by decide) ?_ (HSteps.pure (by decide) ?_ (HSteps.pure (by decide) ?_ (HSteps.pure (by decide) ?_ (HSteps.pure (by decide) ?_ (HSteps.free (by decide) ?_ (HSteps.eff 1 rfl ?_ (HSteps.pure (by decide) ?_ (HSteps.eff 2 rfl ?_ (HSteps.pure (by decide) ?_ (HSteps.nil))))))))))))))))))))
        all_goals first | (intro v wz c hlo hS hE K hK;simp only [putAll, Act.put, pq1, pq2, pq3, Nat.zero_add, Nat.reduceAdd, pq4, pq5] at hK ⊢) | (intro v wz hS hE K hK;simp only [putAll, Act.put, pq1, pq2, pq3, Nat.zero_add, Nat.reduceAdd, pq4, pq5] at hK ⊢)
        ·have HX := Lib.hid hS;clear hS hE hlo;go_wp2_with fail;exact hK.out _ rfl
        ·have e0 : v 0 = _ := hE.1 rfl;rw [e0] at hK ⊢;have hle := hlo 0 (by kernel_rfl)
         have c1 := (World.cell?_of_block (a := ⟨w2.heap.size + 1, 0, none⟩) (hS.2.1 (by omega))).trans xn0
         have l1 : w2.heap.size + 1 < wz.heap.size := by have := hS.1.size; omega
         have HX := Lib.hid hS;clear hS hE hlo;go_wp2_with fail;exact hK.out _ rfl
        ·have HX := Lib.hid hS;clear hS hE hlo;go_wp2_with fail;exact hK.out _ rfl
        ·have e2 : v 2 = _ := hE.1 rfl;rw [e2] at hK ⊢;have hbz : Below wz.heap.size wz (wz.alloc (.cells #[.slice Aj nj cj] 53)) := (Below.refl _ _).alloc (Nat.le_refl _) _;have hzW := hS.1.size;have HX := Lib.hid hS;have HBZ := Lib.hid hbz;clear hS hE hlo hbz;go_wp2_with fail;exact hK.out _ _ (fun j y _ h => factL21_bl HBZ.out h) (HX.out.later hsl HNE.out.2.1 HBZ.out) ⟨wz.heap.size, rfl, hzW, by simp, by go_simp⟩
        ·have e1 : v 1 = _ := hE.1 rfl;rw [e1] at hK ⊢;have E3 := hE.2.1 rfl;obtain ⟨g, e3, hgW, hgl, hg0⟩ := E3;rw [e3] at hK ⊢;have hz := hS.2.2.2 rfl;have hown : wz.ownsRow w1.heap.size 53 1 (.slice AE i cE) i gv := own_later HE1.out hz;have hzz := hz.size;clear hz;have hcell : ∀ j u, ([.slice Aj nj cj] : List Value)[j]? = some u → wz.cell? ((⟨g, 0, none⟩ : Addr).add j) = some u := fun j u hj => by
          match j, hj with
          | 0, hj => simp at hj; rw [← hj, Addr.add_lit]; exact hg0
         have HX := Lib.hid hS;clear hS hE;go_wp2_with (at_builtin; refine appI_at rfl _ _ 31 rfl w1.heap.size 53 ie (.slice none 0 0) 1 24 Tryz.underlying31 hie he0 he1 he2 rfl (by decide) _ i gv rfl hown ⟨g, 0, none⟩ 1 1 [.slice Aj nj cj] rfl rfl hcell (by intro u hu; simp at hu; subst hu; rfl) (by unfold maxLen; omega) (by omega) (by have := HZ1.out; omega) ?_)
         intro v' wx hown1 hg1 hfr;obtain ⟨A', c', rfl, -, -⟩ := own_form hown1;have hfr2 : Fresh (.slice A' (i + 1) c') (.slice AE i cE) W.heap.size := hfr.imp id fun ⟨g, h1, h2⟩ => ⟨g, h1, Nat.le_trans hzz h2⟩;refine hK.out _ _ (factL21_01 hg1 HNE.out.1) (HX.out.s1 hsl hg1 HNE.out.2.2.2.1 HNE.out.2.2.2.2.2) (fun _ => ⟨A', c', rfl, hown1, hfr2⟩)
        ·have HX := Lib.hid hS;clear hS hE hlo;go_wp2_with fail;exact hK.out _ rfl
        ·have e5 : v 5 = _ := hE.1 rfl;rw [e5] at hK ⊢;have hle := hlo 1 (by kernel_rfl)
         have c1 := (World.cell?_of_block (a := ⟨w2.heap.size + 1, 1, none⟩) (hS.2.1 (by omega))).trans xn1
         have l1 : w2.heap.size + 1 < wz.heap.size := by have := hS.1.size; omega
         have HX := Lib.hid hS;clear hS hE hlo;go_wp2_with fail;exact hK.out _ rfl
        ·have HX := Lib.hid hS;clear hS hE hlo;go_wp2_with fail;exact hK.out _ rfl
        ·have e7 : v 7 = _ := hE.1 rfl;rw [e7] at hK ⊢;have c1 := (World.cell?_of_block (a := ⟨w.heap.size, 1, none⟩) (hS.1.blk _ lM nM)).trans xm1;have l1 : w.heap.size < wz.heap.size := by have := hS.1.size; omega
         have HX := Lib.hid hS;clear hS hE hlo;go_wp2_with fail;exact hK.out _ rfl
        ·have HX := Lib.hid hS;clear hS hE hlo;go_wp2_with fail;exact hK.out _ rfl
        ·have HX := Lib.hid hS;clear hS hE hlo;go_wp2_with fail;exact hK.out _ rfl
        ·have e9 : v 9 = _ := hE.1 rfl;have e10 : v 10 = _ := hE.2.1 rfl;rw [e9, e10] at hK ⊢;have HX := Lib.hid hS;clear hS hE hlo;go_wp2_with fail;exact hK.out _ rfl
        ·have e11 : v 11 = _ := hE.1 rfl;rw [e11] at hK ⊢;have c1 := (World.cell?_of_block (a := ⟨gs2, i, none⟩) (hS.1.blk _ lgs ngs)).trans xst;have l1 : gs2 < wz.heap.size := by have := hS.1.size; omega
         have HX := Lib.hid hS;clear hS hE hlo;go_wp2_with fail;exact hK.out _ rfl
        ·have e8 : v 8 = _ := hE.1 rfl;have e12 : v 12 = _ := hE.2.1 rfl;rw [e8, e12] at hK ⊢;have HX := Lib.hid hS;clear hS hE hlo;go_wp2_with fail;exact hK.out _ rfl
        ·have e13 : v 13 = _ := hE.1 rfl;rw [e13] at hK ⊢;have c1 := (World.cell?_of_block (a := ⟨ga, fa + s, none⟩) (hS.1.blk _ lga nga)).trans xac;have l1 : ga < wz.heap.size := by have := hS.1.size; omega
         have HX := Lib.hid hS;clear hS hE hlo;go_wp2_with fail;exact hK.out _ rfl
        ·have e14 : v 14 = _ := hE.1 rfl;rw [e14] at hK ⊢;have hbz : Below wz.heap.size wz (wz.alloc (.cells #[.bool a] 4)) := (Below.refl _ _).alloc (Nat.le_refl _) _;have hzW := hS.1.size;have HX := Lib.hid hS;have HBZ := Lib.hid hbz;clear hS hE hlo hbz;go_wp2_with fail;exact hK.out _ _ (fun j y _ h => factL21_bl HBZ.out h) (HX.out.later hsl HNE.out.2.1 HBZ.out) ⟨wz.heap.size, rfl, hzW, by simp, by go_simp⟩
        ·have e6 : v 6 = _ := hE.1 rfl;rw [e6] at hK ⊢;have E15 := hE.2.1 rfl;obtain ⟨g, e15, hgW, hgl, hg0⟩ := E15;rw [e15] at hK ⊢;have hown : wz.ownsRow w1.heap.size 4 1 (.slice AV i cA) i av := own_same HV1.out fun g hg => hS.2.2.1 (by decide) g hg
         have hzz := hS.1.size;have hcell : ∀ j u, ([.bool a] : List Value)[j]? = some u → wz.cell? ((⟨g, 0, none⟩ : Addr).add j) = some u := fun j u hj => by
          match j, hj with
          | 0, hj => simp at hj; rw [← hj, Addr.add_lit]; exact hg0
         have HX := Lib.hid hS;clear hS hE;go_wp2_with (at_builtin; refine appI_at rfl _ _ 32 rfl w1.heap.size 4 ib (.bool false) 1 1 Tryz.underlying32 hib hb0 hb1 hb2 rfl (by decide) _ i av rfl hown ⟨g, 0, none⟩ 1 1 [.bool a] rfl rfl hcell (by intro u hu; simp at hu; subst hu; rfl) (by unfold maxLen; omega) (by omega) (by have := HZ1.out; omega) ?_)
         intro v' wx hown1 hg1 hfr;obtain ⟨A', c', rfl, -, -⟩ := own_form hown1;have hfr2 : Fresh (.slice A' (i + 1) c') (.slice AV i cA) W.heap.size := hfr.imp id fun ⟨g, h1, h2⟩ => ⟨g, h1, Nat.le_trans hzz h2⟩;refine hK.out _ _ (factL21_12 hg1 HNE.out.2.1 HNE.out.2.2.1) (HX.out.s2 hsl hg1 HNE.out.2.2.2.2.1) (fun _ => ⟨A', c', rfl, hown1, hfr2⟩)
        ·have HX := Lib.hid hS;clear hS hE hlo;go_wp2_with fail;exact hK.out _ rfl
        ·have e17 : v 17 = _ := hE.1 rfl;rw [e17] at hK ⊢;have E4 := hE.2.1 rfl;obtain ⟨A, c', ev, ho, hfr⟩ := E4 (by decide)
         rw [ev] at hK ho hfr ⊢;have hrow := (hS.2.1 (by decide)).trans HNB.out
         have cz : wz.cell? ⟨w2.heap.size + 1, 0, none⟩ = some (.slice AE i cE) := by rw [cell_of_row _ _ _ _ _ _ hrow]; rfl
         have fz : wz.frozen? ⟨w2.heap.size + 1, 0, none⟩ = false := by simp [World.frozen?, hrow]
         have HX := Lib.hid hS;have HO := Lib.hid (And.intro ho (And.intro hfr hrow));clear hS hE ho hfr hrow ev;go_wp2_with fail;have hns : ∀ g, (Value.slice A (i + 1) c').ownBlock = some g → g ≠ w2.heap.size + 1 := fun g hg => HO.out.2.1.elim (fun e => by rw [e] at hg; intro e2; subst e2; exact HNE.out.2.2.2.1 hg) fun ⟨g', e, h2⟩ => by rw [e] at hg; injection hg with hg; omega
         refine hK.out undef _ (factL21_23 hsl HNE.out.2.2.2.1 HNE.out.2.2.2.2.1 _) (HX.out.s3 _) (fun _ => ⟨A, c', own_same HO.out.1 fun g hg => Below.heap_setCell _ _ _ _ (hns g hg), HO.out.2.1, by have := set_row3 HO.out.2.2 0 (.slice A (i + 1) c'); simpa using this⟩)
        ·have HX := Lib.hid hS;clear hS hE hlo;go_wp2_with fail;exact hK.out _ rfl
       ·intro v wz hS hF;have e0 : v 0 = _ := hF 0 (by decide)
        have e1 : v 1 = _ := hF 1 (by decide)
        have e2 : v 2 = _ := hF 2 (by decide)
        have e5 : v 5 = _ := hF 5 (by decide)
        have e6 : v 6 = _ := hF 6 (by decide)
        have e7 : v 7 = _ := hF 7 (by decide)
        have e8 : v 8 = _ := hF 8 (by decide)
        have e9 : v 9 = _ := hF 9 (by decide)
        have e10 : v 10 = _ := hF 10 (by decide)
        have e11 : v 11 = _ := hF 11 (by decide)
        have e12 : v 12 = _ := hF 12 (by decide)
        have e13 : v 13 = _ := hF 13 (by decide)
        have e14 : v 14 = _ := hF 14 (by decide)
        have e17 : v 17 = _ := hF 17 (by decide)
        have e19 : v 19 = _ := hF 19 (by decide)
        have E3 := hF 3 (by decide)
        have E4 := hF 4 (by decide)
        have E15 := hF 15 (by decide)
        have E16 := hF 16 (by decide)
        have E18 := hF 18 (by decide)
        simp only [putAll, Act.put, pq1, pq2, pq3, Nat.zero_add, Nat.reduceAdd, pq4, pq5, List.drop_succ_cons, List.drop_zero, e0, e1, e2, e5, e6, e7, e8, e9, e10, e11, e12, e13, e14, e17, e19];clear hF e0 e1 e2 e5 e6 e7 e8 e9 e10 e11 e12 e13 e14 e17 e19;obtain ⟨A18, c18, ho18, hf18, hr18⟩ := E18 (by decide)
        obtain ⟨A16, c16, ev16, ho16, hf16⟩ := E16 (by decide)
        rw [ev16] at ho16 hf16 ⊢;have hkz := hS.1;have z1 : wz.cell? ⟨w2.heap.size + 1, 1, none⟩ = some (.slice AV i cA) := by rw [cell_of_row _ _ _ _ _ _ hr18]; rfl
        have fz1 : wz.frozen? ⟨w2.heap.size + 1, 1, none⟩ = false := by simp [World.frozen?, hr18]
        have lNz : w2.heap.size + 1 < wz.heap.size := (Array.getElem?_eq_some_iff.1 hr18).1;have hset : ∀ k, k ≠ w2.heap.size + 1 → (wz.setCell ⟨w2.heap.size + 1, 1, none⟩ (.slice A16 (i + 1) c16)).heap[k]? = wz.heap[k]? := fun k hk => Below.heap_setCell _ _ _ _ hk;have hfr : ∀ {v v' : Value}, Fresh v' v W.heap.size → v.ownBlock ≠ some (w2.heap.size + 1) → ∀ g, v'.ownBlock = some g → g ≠ w2.heap.size + 1 := fun hf hn g hg e => by
         subst e;rcases hf with hf | ⟨g', hf, h2⟩
         ·rw [hf] at hg; exact hn hg
         ·rw [hf] at hg; injection hg with hg; omega
        have hks : KeepF (fpM (w2.heap.size + 1) (.slice AE i cE) (.slice AV i cA)) [] W (wz.setCell ⟨w2.heap.size + 1, 1, none⟩ (.slice A16 (i + 1) c16)) :=
         KeepF.tr (show KeepF (fpM (w2.heap.size + 1) (.slice AE i cE) (.slice AV i cA)) [] W wz from hkz) ⟨rfl, rfl, rfl, by simp [World.setCell], fun k _ hn => hset k (fun e => hn (mem_fpM.2 (.inl e))), fun k hk => by cases hk⟩
        have hfin := HLE.out.1.rowDone HBE.out.2 HLE.out.2.1 hks (by have := set_row3 hr18 1 (.slice A16 (i + 1) c16); simpa using this) (by rw [HAV.out.2.1]; exact own_same ho18 fun g hg => hset g (hfr hf18 HNE.out.2.2.2.1 g hg)) (a := a) (by
         show World.ownsRow _ _ _ _ _ _ _;rw [List.length_append, rowF_app, rowF_single, HAV.out.1, HAV.out.2.2];exact own_same ho16 fun g hg => hset g (hfr hf16 HNE.out.2.2.2.2.1 g hg)) hf18 hf16 HS.out.2.2.2 HLE.out.2.2 (by rw [HS.out.2.1, HJE.out]) HS.out.2.2.1.symm
        have hbf : Below w1.heap.size w1 (wz.setCell ⟨w2.heap.size + 1, 1, none⟩ (.slice A16 (i + 1) c16)) := HBE.out.1.trans (hks.below (fun k hk => (HLE.out.1.ma.lt k hk).1) HZ1.out);have HFIN := Lib.hid hfin;have HBF := Lib.hid hbf;clear hS hkz hset hfr hks hfin hbf ho18 hf18 hr18 ho16 hf16 ev16 E3 E4 E15 E16 E18;go_wp2_with fail;go_roundw
        case rel => exact ⟨i + 1, _, _, _, _, _, _, _, _, by go_num, by omega, HFIN, HBF⟩
        case measure => simp [intOf]; omega
   ·have hie : i = nst := by omega
    have hd : decide ((i : Int) < (nst : Int)) = false := decide_eq_false (by omega)
    have hle := HL.out;have hlei : i = st.length := by rw [HNST.out]; exact hie
    have hmkE := hle.ma.own;have hmkA : wr.ownsRow w1.heap.size 4 1 vA acs.length (rowF bC acs) := hle.ma.acc;obtain ⟨AE, cE, rfl, -, -⟩ := own_form hmkE;obtain ⟨AV, cA, rfl, -, -⟩ := own_form hmkA;obtain ⟨nE, hnE⟩ : ∃ x, rs.length = x := ⟨_, rfl⟩;obtain ⟨nV, hnV⟩ : ∃ x, acs.length = x := ⟨_, rfl⟩;rw [hnE, hnV] at HL;have hNr := HL.out.ma.hN;obtain ⟨xn0, xn1⟩ : wr.cell? ⟨w2.heap.size + 1, 0, none⟩ = some (.slice AE nE cE) ∧ wr.cell? ⟨w2.heap.size + 1, 1, none⟩ = some (.slice AV nV cA) := by constructor <;> (rw [cell_of_row _ _ _ _ _ _ hNr]; rfl)
    have hX1 := (HB.out.block (w.heap.size + 1) lx1).trans HX1.out;obtain ⟨q0, q1⟩ : wr.cell? ⟨w.heap.size + 1, 0, none⟩ = some (.slice none 0 0) ∧ wr.cell? ⟨w.heap.size + 1, 1, none⟩ = some (.slice none 0 0) := by constructor <;> (rw [cell_of_row _ _ _ _ _ _ hX1]; rfl)
    have g0 : wr.frozen? ⟨w.heap.size + 1, 0, none⟩ = false := by simp [World.frozen?, hX1]
    have g1 : wr.frozen? ⟨w.heap.size + 1, 1, none⟩ = false := by simp [World.frozen?, hX1]
    have lNr : w2.heap.size + 1 < wr.heap.size := (Array.getElem?_eq_some_iff.1 hNr).1;have lXr : w.heap.size + 1 < wr.heap.size := by omega
    have HEI := Lib.hid (And.intro hlei (And.intro hnE hnV));clear hle hlei hmkE hmkA hNr hX1 hnE hnV hie;go_wp2_with fail;refine post_named fun Wf hWf => ?_;refine bodyPost_ret (v := .agg #[.slice AE nE cE, .slice AV nV cA]) (by rw [hWf]; simp [results, Tryz.results39, go_sem, q0, q1, lXr]; try rfl) rfl ?_
    have hkl : KeepF [w.heap.size + 1] [] wr Wf := by
     rw [hWf];have hne : ∀ k, k ∉ [w.heap.size + 1] → k ≠ w.heap.size + 1 := fun k hn e => hn (List.mem_singleton.2 e);exact ⟨rfl, rfl, rfl, by simp [World.setCell], fun k _ hn => (Below.heap_setCell (wr.setCell ⟨w.heap.size + 1, 0, none⟩ (.slice AE nE cE)) ⟨w.heap.size + 1, 1, none⟩ (.slice AV nV cA) k (hne k hn)).trans (Below.heap_setCell wr ⟨w.heap.size + 1, 0, none⟩ (.slice AE nE cE) k (hne k hn)), fun k hk => by cases hk⟩
    have hmk := HL.out.ma.low hkl (fun k hk => by rw [List.mem_singleton] at hk; omega)
    have hle := HL.out.le;rw [HEI.out.1] at hle;obtain ⟨d1, d2, d3⟩ := hle.done HV.out HCL.out.2.1;have hac2 : acs = (leastM m (clF cs) (numC (clF cs) st) st).ac := by rw [HL.out.ac, HEI.out.1, List.take_length]; rfl
    have hm' : (⟨rs, acs⟩ : Mc) = leastM m (clF cs) (numC (clF cs) st) st := by rw [d1, hac2]
    have hww1 := HB1.out.size;have hbf : Below w.heap.size w Wf := (HB1.out.trans (HB.out.mono HB1.out.size)).trans (hkl.below (fun k hk => by rw [List.mem_singleton] at hk; omega) (by omega))
    refine ⟨_, ⟨rs, acs⟩, rfl, hmk.up.mono hww1, hbf, .inl ⟨?_, by rw [hm']; exact d2, by rw [hm']; exact d3⟩, ?_, ?_⟩
    ·by_cases hx : LiveS m 0
     ·exact hx
     ·exact absurd ((HCL.out.2.1.dead 0 (by rw [HN.out.1]; exact HN1.out)).2 hx) (HL.out.le.lv 0 (List.mem_of_getElem? HL.out.le.zero)).2
    ·show rs.length ≤ _;rw [d1]; unfold leastM; simp; exact HL.out.le.nodup
    ·rw [hm'];have hr : ∀ r ∈ (leastM m (clF cs) (numC (clF cs) st) st).ed, ∃ s ∈ st, r = renE (numC (clF cs) st) (joinF (clF cs) (rowM m s)) := fun r hr => by
      unfold leastM at hr;obtain ⟨s, h1, h2⟩ := List.mem_map.1 hr;exact ⟨s, h1, h2.symm⟩
     have hrm : ∀ s ∈ st, rowM m s ∈ m.ed := fun s hs => by
      obtain ⟨h1, -⟩ := HL.out.le.lv s hs;unfold rowM; rw [List.getElem?_eq_getElem h1]; exact List.getElem_mem h1
     refine ⟨fun r h e he => ?_, fun r h => ?_, ?_⟩
     ·obtain ⟨s, h1, rfl⟩ := hr r h;unfold renE at he;obtain ⟨f, h2, rfl⟩ := List.mem_map.1 he;have := joinF_by (cls := clF cs) (HV.out.srt _ (hrm s h1)) (HSM.out.by_ _ (hrm s h1)) f h2;exact ⟨this.1, this.2.1⟩
     ·obtain ⟨s, h1, rfl⟩ := hr r h;rw [renE_len];exact Nat.le_trans (joinF_len _ _) (HSM.out.rl _ (hrm s h1))
     ·unfold leastM; simp;have := HL.out.le.nodup;have := HSM.out.n;omega
end Go.Proofs.YtjhmipidmpmlmaaGreatDoor
namespace Go.Proofs.YtjhmipidmpmlmaaGreatDoor
set_option linter.unusedVariables false
set_option linter.unusedSimpArgs false
set_option maxRecDepth 100000
open Go.RowKit
theorem rch_last (m : Mc) : ∀ (bs : List Nat) (s k : Nat), (rchF m bs s k).getLast? = some (k + bs.length) ↔ acF m bs s = true
 | [], s, k => by
  rw [rchF, acF]
  cases h : (m.ac[s]?).getD false <;> simp
 | c :: w, s, k => by
  rw [rchF, acF]
  cases ht : trn (rowM m s) c with
  | none => cases h : (m.ac[s]?).getD false <;> simp
  | some t =>
   simp only;rw [← rch_last m w t (k + 1)];have e : k + (c :: w).length = k + 1 + w.length := by simp; omega
   rw [e, List.getLast?_append]
   cases hl : (rchF m w t (k + 1)).getLast? with
   | some x => simp
   | none =>
    simp only [Option.none_or];constructor
    ·intro h
     split at h
     ·simp at h; omega
     ·simp at h
    ·intro h; cases h
theorem rch_len (m : Mc) : ∀ (bs : List Nat) (s k : Nat), (rchF m bs s k).length ≤ bs.length + 1
 | [], s, k => by rw [rchF]; split <;> simp
 | c :: w, s, k => by
  rw [rchF, List.length_append];have h1 : (if (m.ac[s]?).getD false = true then [k] else []).length ≤ 1 := by split <;> simp
  cases ht : trn (rowM m s) c with
  | none => simp at h1 ⊢; omega
  | some t => have := rch_len m w t (k + 1); simp at h1 this ⊢; omega
theorem ends_any (v vb : Value) (m : Mc) (bs : List Nat) (i : Nat) (w : World) (hm : McIn w v m) (hv : Vld m) (hsm : McSm m) (h1 : 1 ≤ m.ed.length) (h2 : m.ed.length ≤ 2000) (hb : ByIn w vb bs) (hbl : bs.length ≤ 900000) (hby : ∀ b ∈ bs, b < 256) (hi : i ≤ bs.length) :
  Calls Tryz.prog 30 #[v, vb, .int .i64 (i : Int)] w (RhPost (rchF m (bs.drop i) 0 i) w) := by
 obtain ⟨ve, va, rfl, he, ha⟩ := id hm;obtain ⟨Ae, ce, rfl, hce1, hce2⟩ := he.form;obtain ⟨Aa, ca, rfl, hca1, hca2⟩ := ha.form;obtain ⟨Ab, cb, rfl, hcb, hbc⟩ := id hb;have HV := Lib.hid fun W (h : Below w.heap.size w W) => mvalid_any _ m W (hm.later h) hv hsm h1 h2;have HRh := Lib.hid fun W (h : Below w.heap.size w W) => reach_any _ _ m bs i W (hm.later h) hv hsm h1 (hb.later h) hbl hby hi;have hb0 : Below w.heap.size w (w.alloc (.cells #[.slice Ae m.ed.length ce, .slice Aa m.ac.length ca] 34)) := (Below.refl _ _).alloc (Nat.le_refl _) _;have HB0 := Lib.hid hb0;have hrow := heap_alloc_new w (.cells #[.slice Ae m.ed.length ce, .slice Aa m.ac.length ca] 34);have HROW := Lib.hid hrow;obtain ⟨n, hn⟩ : ∃ n, m.ed.length = n := ⟨_, rfl⟩;obtain ⟨na, hna⟩ : ∃ n, m.ac.length = n := ⟨_, rfl⟩;obtain ⟨L, hL⟩ : ∃ n, bs.length = n := ⟨_, rfl⟩;have t1 : decide ((i : Int) < 0) = false := decide_eq_false (by omega)
 have t2 : decide ((L : Int) < (i : Int)) = false := decide_eq_false (by omega)
 have t2n : decide (L < i) = false := decide_eq_false (by omega)
 rw [hn, hna] at HV HRh HB0 HROW;rw [hL] at HRh;rw [hn, hna, hL];obtain ⟨R, hR⟩ : ∃ R, rchF m (bs.drop i) 0 i = R := ⟨_, rfl⟩;rw [hR] at HRh;have hri : RhPost (rchF m (bs.drop i) 0 i) w = RhPost R w := by rw [hR]
 rw [hri];clear hm hv hsm h1 h2 hb hbl hby hi he ha hbc hrow hb0 hn hna hL hR hri
 go_enter Tryz.func30, Tryz.ntmps30
 go_wp2_with fail;refine (HV.out _ HB0.out).mono ?_;rintro e w1 ⟨rfl, hb1⟩;have hs1 := hb1.size;simp only [World.size_alloc] at hs1;have hbx := (hb1.block w.heap.size (by simp)).trans HROW.out
 obtain ⟨x0, x1⟩ : w1.cell? ⟨w.heap.size, 0, none⟩ = some (.slice Ae n ce) ∧ w1.cell? ⟨w.heap.size, 1, none⟩ = some (.slice Aa na ca) := by
  constructor <;> (rw [cell_of_row _ _ _ _ _ _ hbx]; rfl)
 have HB1 := Lib.hid (HB0.out.trans (hb1.mono (by simp)))
 have hws : w.heap.size < w1.heap.size := by omega
 clear hb1 hbx;go_wp2_with fail;refine (HRh.out _ HB1.out).mono ?_;rintro e w2 ⟨rv, rfl, hown, hb2⟩;have HX := Lib.hid (And.intro (hown.mono (show w.heap.size ≤ w1.heap.size by omega)) (HB1.out.trans (hb2.mono (by omega))))
 clear hown hb2;go_wp2_with fail;go_ret;exact ⟨_, rfl, HX.out.1, HX.out.2⟩
theorem accepts_any (v vb : Value) (m : Mc) (bs : List Nat) (w : World) (hm : McIn w v m) (hv : Vld m) (hsm : McSm m) (h1 : 1 ≤ m.ed.length) (h2 : m.ed.length ≤ 2000) (hb : ByIn w vb bs) (hbl : bs.length ≤ 900000) (hby : ∀ b ∈ bs, b < 256) :
  Calls Tryz.prog 25 #[v, vb] w fun e w' => e = .returned (.bool (acF m bs 0)) ∧ Below w.heap.size w w' := by
 obtain ⟨ve, va, rfl, he, ha⟩ := id hm;obtain ⟨Ae, ce, rfl, hce1, hce2⟩ := he.form;obtain ⟨Aa, ca, rfl, hca1, hca2⟩ := ha.form;obtain ⟨Ab, cb, rfl, hcb, hbc⟩ := id hb;have HRh := Lib.hid fun W (h : Below w.heap.size w W) => ends_any _ _ m bs 0 W (hm.later h) hv hsm h1 h2 (hb.later h) hbl hby (Nat.zero_le _);have hb0 : Below w.heap.size w (w.alloc (.cells #[.slice Ae m.ed.length ce, .slice Aa m.ac.length ca] 34)) := (Below.refl _ _).alloc (Nat.le_refl _) _;have HB0 := Lib.hid hb0;have HL0 := Lib.hid (rch_last m bs 0 0);obtain ⟨n, hn⟩ : ∃ n, m.ed.length = n := ⟨_, rfl⟩;obtain ⟨na, hna⟩ : ∃ n, m.ac.length = n := ⟨_, rfl⟩;obtain ⟨L, hL⟩ : ∃ n, bs.length = n := ⟨_, rfl⟩;obtain ⟨q, hq⟩ : ∃ q, acF m bs 0 = q := ⟨_, rfl⟩;have HRL := Lib.hid (rch_len m bs 0 0);rw [hn, hna] at HRh HB0;rw [List.drop_zero, hL] at HRh;rw [hL, hq, Nat.zero_add] at HL0;rw [hL] at HRL hbl;rw [hn, hna, hL, hq];obtain ⟨R, hR⟩ : ∃ R, rchF m bs 0 0 = R := ⟨_, rfl⟩;rw [hR] at HRh HL0 HRL;clear hm hv hsm h1 h2 hb hby he ha hbc hb0 hn hna hL hR hq
 go_enter Tryz.func25, Tryz.ntmps25
 go_wp2_with fail;refine (HRh.out _ HB0.out).mono ?_;rintro e w1 ⟨rv, rfl, hown, hb1⟩;obtain ⟨A1, c1, e1, hc1, hor⟩ := hown.cells inC_E;subst e1;have HB1 := Lib.hid (HB0.out.trans (hb1.mono (by simp)))
 clear hown hb1;by_cases hR0 : R.length = 0
 ·have hRn : R = [] := List.length_eq_zero_iff.1 hR0;subst hRn;have HQ : Hid (false = q) := by
   cases q with
   | false => rfl
   | true => have := HL0.out.2 rfl; simp at this
  have t1 : decide (0 < ([] : List Nat).length) = false := by decide
  simp only [List.length_nil] at *;go_wp2_with fail;go_ret;exact ⟨ret_bool HQ.out, HB1.out⟩
 ·obtain ⟨p, hp⟩ : ∃ p, R.length = p + 1 := ⟨R.length - 1, by omega⟩
  obtain ⟨g, rfl, hgB, hgl, hcs⟩ := hor.resolve_left (by intro e; rw [e] at hR0; simp at hR0)
  have hcp := (hcs p (by omega) 0 (by decide)).1
  have hgt : R.getLast? = some (R[p]'(by omega)) := by
   rw [List.getLast?_eq_getElem?, show R.length - 1 = p by omega, List.getElem?_eq_getElem]
  obtain ⟨x, hx⟩ : ∃ x, R[p]'(by omega) = x := ⟨_, rfl⟩
  rw [hx] at hgt hcp;rw [Nat.mul_one, Nat.add_zero] at hcp;have hcp2 : w1.cell? ⟨g, p, none⟩ = some (.int .i64 (x : Int)) := by rw [hcp]; rfl
  have HQ : Hid (((x : Int) == (L : Int)) = q) := by
   have h3 := HL0.out;rw [hgt] at h3
   cases q with
   | false =>
    rw [beq_eq_false_iff_ne];intro e;have : x = L := by omega
    have := h3.1 (by rw [this])
    cases this
   | true =>
    have := h3.2 rfl;injection this with this;show ((x : Int) == (L : Int)) = true;rw [this]; exact beq_self_eq_true _
  obtain ⟨nr, hnr⟩ : ∃ k, R.length = k := ⟨_, rfl⟩;have hnp : nr = p + 1 := by omega
  have hnl : nr ≤ 1000000 := by have := HRL.out; omega
  have hplt : p < nr := by omega
  have hpn : decide (p < nr) = true := decide_eq_true hplt;have hw : IntKind.i64.wrap ((nr : Int) - 1) = (p : Int) := by rw [IntWalk.i64_in _ (by omega)]; omega
  have hw2 : (nr : Int) - 1 = (p : Int) := by omega
  have t1 : decide ((0 : Int) < (nr : Int)) = true := decide_eq_true (by omega)
  have t1n : decide (0 < nr) = true := decide_eq_true (by omega)
  rw [hnr];clear hcs hor hR0 hcp hgt hx hp hnr hnp;go_wp2_with fail;go_ret;exact ⟨ret_bool HQ.out, HB1.out⟩
noncomputable def endsZ (m : Mz) (bs : List Nat) (i : Int) : List Nat := if vldZ m = true ∧ 0 ≤ i ∧ i ≤ (bs.length : Int) then rchF (cvM m) (bs.drop i.toNat) 0 i.toNat else []
noncomputable def accZ (m : Mz) (bs : List Nat) : Bool := vldZ m && acF (cvM m) bs 0
theorem mcf {w : World} {v : Value} {m : Mc} (h : McIn w v m) : ∃ Ae ce Aa ca, v = .agg #[.slice Ae m.ed.length ce, .slice Aa m.ac.length ca] ∧ (m.ed.length ≤ ce ∧ ce ≤ 9223372036854775807) ∧ (m.ac.length ≤ ca ∧ ca ≤ 9223372036854775807) := by
 obtain ⟨ve, va, rfl, he, ha⟩ := h;obtain ⟨Ae, ce, rfl, h1⟩ := he.form;obtain ⟨Aa, ca, rfl, h2⟩ := ha.form;exact ⟨Ae, ce, Aa, ca, rfl, h1, h2⟩
def ClosB (m : Mc) (o : List Bool) (j : Nat) : Prop := ∀ s, s < j → o[s]? = some false → ∀ e ∈ rowM m s, o[e.to]? = some false
set_option maxHeartbeats 8000000 in
theorem rlive_any (v : Value) (m : Mc) (w : World) (hm : McIn w v m) (hv : Vld m) (hsm : McSm m) (h1 : 1 ≤ m.ed.length) :
  Calls Tryz.prog 101 #[v] w (AlPost m m.ed.length w) := by
 obtain ⟨Ae, ce, Aa, ca, rfl, hcn, hcn2⟩ := mcf hm;obtain ⟨he, ha⟩ := mc_parts hm;obtain ⟨n, hn⟩ : ∃ n, m.ed.length = n := ⟨_, rfl⟩;have hac : m.ac.length = n := by rw [hv.len, hn]
 have hnn := hsm.n;rw [hn] at h1 hnn hcn;rw [hac] at hcn2;obtain ⟨ga, fa, rfl, -, hga, hac0⟩ := ha.at_ (k := 0) (by rw [hac]; omega)
 obtain ⟨A', ca', e', hcc, hor⟩ := id ha;have hcells : ∀ j (hj : j < m.ac.length), w.cell? ⟨ga, fa + j, none⟩ = some (.bool m.ac[j]) := by
  rcases hor with h | ⟨g, f, hA, -, hcs⟩
  ·rw [h] at hac; simp at hac; omega
  ·injection e' with e1 _ _;rw [← e1] at hA;injection hA with hA;injection hA with hA1 hA2;subst hA1 hA2;exact hcs
 have HE := Lib.hid he;have HV := Lib.hid hv;have HSM := Lib.hid hsm;have HN := Lib.hid (And.intro hn hac);have HAI := Lib.hid (AlI.start hv);have HAC := Lib.hid hcells;obtain ⟨ib, hib, hb0, hb1, hb2⟩ := info_parts info_bool;rw [hac, hn];rw [hn] at he;clear he ha hv hsm hm hn hac hac0 hcc hor hcells;have hBx := heap_alloc_new w (.cells #[.slice Ae n ce, .slice (some ⟨ga, fa, none⟩) n ca] 34);have HBX := Lib.hid hBx;clear hBx;have hown : ((w.alloc (.cells #[.slice Ae n ce, .slice (some ⟨ga, fa, none⟩) n ca] 34)).alloc (.cells #[] 4)).ownsRow (w.heap.size + 1) 4 1 (.slice (some ⟨w.heap.size + 1, 0, none⟩) 0 0) 0 [] := ⟨rfl, .inr ⟨w.heap.size + 1, 0, #[], rfl, Nat.le_refl _, by simpa using heap_alloc_new (w.alloc (.cells #[.slice Ae n ce, .slice (some ⟨ga, fa, none⟩) n ca] 34)) (.cells #[] 4), Nat.le_refl _, by decide, rfl, rfl⟩⟩
 have hb00 : Below w.heap.size w ((w.alloc (.cells #[.slice Ae n ce, .slice (some ⟨ga, fa, none⟩) n ca] 34)).alloc (.cells #[] 4)) := ((Below.refl _ _).alloc (Nat.le_refl _) _).alloc (by simp) _
 have hcl : ∀ j u, (m.ac.map Value.bool)[j]? = some u → ((w.alloc (.cells #[.slice Ae n ce, .slice (some ⟨ga, fa, none⟩) n ca] 34)).alloc (.cells #[] 4)).cell? ((⟨ga, fa, none⟩ : Addr).add j) = some u := fun j u hj => by
  obtain ⟨hl, e⟩ := List.getElem?_eq_some_iff.1 hj;rw [Addr.add_lit, hb00.cell (p := ⟨ga, fa + j, none⟩) hga, HAC.out j (by simpa using hl), ← e, List.getElem_map]
 have HB00 := Lib.hid hb00;clear hb00
 go_enter Tryz.func101, Tryz.ntmps101
 go_wp2_with (at_builtin; refine appI_at rfl _ _ 32 rfl (w.heap.size + 1) 4 ib (.bool false) 1 1 Tryz.underlying32 hib hb0 hb1 hb2 rfl (by decide) _ 0 [] rfl hown ⟨ga, fa, none⟩ n ca (m.ac.map Value.bool) rfl (by rw [List.length_map, HN.out.2, Nat.mul_one]) hcl (by intro u hu; obtain ⟨b, -, rfl⟩ := List.mem_map.1 hu; rfl) (by unfold maxLen; omega) (by omega) (by simp) ?_)
 intro v1 w1 hown1 hg1 hfr1;have hown1 : w1.ownsRow (w.heap.size + 1) 4 1 v1 n (m.ac.map Value.bool) := by simpa using hown1
 obtain ⟨A1, c1, rfl, -, -⟩ := own_form hown1;have hrow1 : ∀ o : List Bool, rowF bC o = o.map Value.bool := fun o => by
  unfold rowF
  induction o with
  | nil => rfl
  | cons b r ih => simp only [List.map_cons, List.flatten_cons, ih]; rfl
 obtain ⟨go, rfl, hgo1, hgo2⟩ : ∃ g, A1 = some ⟨g, 0, none⟩ ∧ w.heap.size + 1 ≤ g ∧ g < w1.heap.size := by
  rcases hown1.2 with ⟨h2, h3⟩ | ⟨g, cap, cur, h2, h3, h4, -⟩
  ·omega
  ·injection h2 with h2 _ _;exact ⟨g, h2, h3, (Array.getElem?_eq_some_iff.1 h4).1⟩
 have hor1 : OR 4 1 bC (w.heap.size + 1) (.slice (some ⟨go, 0, none⟩) n c1) m.ac w1 := by
  show World.ownsRow _ _ _ _ _ _ _;rw [hrow1, HN.out.2];exact hown1
 have hBX1 : w1.heap[w.heap.size]? = some (.cells #[.slice Ae n ce, .slice (some ⟨ga, fa, none⟩) n ca] 34 (0, 0)) := (hg1.block w.heap.size (by simp; omega) (fun e => by have e' : w.heap.size = w.heap.size + 1 := Option.some.inj e; omega)).trans ((old_alloc _ _ _ (by simp)).trans HBX.out)
 have hbel1 : Below w.heap.size w w1 := HB00.out.trans ⟨hg1.os, hg1.tape, hg1.output, hg1.size, fun k hk => hg1.block k (by simp; omega) (fun e => by have e' : k = w.heap.size + 1 := Option.some.inj e; omega)⟩
 have HR0 : Hid (AlR w1 (w.heap.size + 1) go n c1 m.ac w1) := ⟨hor1, KeepF.refl _ _⟩;have HCW : Hid (∀ wr, KeepF [go] [go] w1 wr → wr.heap[w.heap.size]? = some (.cells #[.slice Ae n ce, .slice (some ⟨ga, fa, none⟩) n ca] 34 (0, 0)) ∧ Below w.heap.size w wr ∧ w.heap.size < wr.heap.size) := fun wr h =>
  ⟨(h.blk _ (by omega) (by simp; omega)).trans hBX1, hbel1.trans (h.below (fun k hk => by rw [List.mem_singleton] at hk; omega) hbel1.size), by have := h.size; omega⟩
 clear hown hown1 hg1 hfr1 hcl hor1 hBX1 hbel1 HB00 HBX hrow1 HAC;go_wp2_with fail
 go_loopg [4] (cfO m.ac + 2) (fun q cv wr => ∃ (ch : Bool) (o : List Bool), cv = .bool ch ∧ cfO o + (if ch = true then 1 else 0) < q ∧ Hid (AlR w1 (w.heap.size + 1) go n c1 o wr) ∧ Hid (AlI m o ∧ (ch = false → ClosO m o 0)))
 case atStart => exact ⟨true, m.ac, rfl, by simp, HR0, HAI.out, fun h => by cases h⟩
 case round =>
  obtain ⟨ch, o, rfl, hq, HR, HI⟩ := hrel
  cases ch with
  | false =>
   go_wp2_with fail;go_ret;have hd := HI.out.1.done HV.out (HI.out.2 trivial);rw [HN.out.1] at hd;exact ⟨_, o, rfl, HR.out.own.mono (by omega), (HCW.out _ HR.out.kf).2.1, by rw [HI.out.1.len, HN.out.1], hd⟩
  | true =>
   go_wp2_with fail
   go_loopg [5, 4] n (fun j iv cv wr => ∃ (s : Nat) (ch : Bool) (o2 : List Bool), s ≤ n ∧ j = n - s ∧ iv = .int .i64 (s : Int) ∧ cv = .bool ch ∧ Hid (AlR w1 (w.heap.size + 1) go n c1 o2 wr) ∧ Hid (AlI m o2 ∧ (ch = false → o2 = o ∧ ClosB m o s) ∧ (ch = true → cfO o2 < cfO o)))
   case atStart => exact ⟨0, false, o, Nat.zero_le _, rfl, rfl, rfl, HR, HI.out.1, fun _ => ⟨rfl, fun s hs => absurd hs (Nat.not_lt_zero _)⟩, fun h => by cases h⟩
   case round =>
    obtain ⟨s, ch, o2, hj, hx, rfl, rfl, HR2, HI2⟩ := hrel;obtain ⟨hwN, hwb, hbn⟩ := HCW.out wr HR2.out.kf;obtain ⟨z0, z1⟩ : wr.cell? ⟨w.heap.size, 0, none⟩ = some (.slice Ae n ce) ∧ wr.cell? ⟨w.heap.size, 1, none⟩ = some (.slice (some ⟨ga, fa, none⟩) n ca) := by
     constructor <;> (rw [cell_of_row _ _ _ _ _ _ hwN]; rfl)
    by_cases hsn : s < n
    ·have hd0 : decide ((s : Int) < (n : Int)) = true := decide_eq_true (by omega)
     have hdn : decide (s < n) = true := decide_eq_true hsn;have hsl : s < m.ed.length := by rw [HN.out.1]; exact hsn
     obtain ⟨g, f, rv, rfl, -, hg, hcE, hed⟩ := HE.out.at_ hsl;obtain ⟨row, hrow⟩ : ∃ r, m.ed[s] = r := ⟨_, rfl⟩;have hrm : rowM m s = row := by unfold rowM; rw [List.getElem?_eq_getElem hsl, hrow]; rfl
     rw [hrow] at hed;have hto : ∀ e ∈ row, e.to < n := fun e he => by rw [← HN.out.1]; exact HV.out.to _ (by rw [← hrow]; exact List.getElem_mem hsl) e he
     have hrl : row.length ≤ 10000 := HSM.out.rl _ (by rw [← hrow]; exact List.getElem_mem hsl)
     obtain ⟨Ar, cr, rfl, hrc, hrcell⟩ := hed;obtain ⟨L, hL⟩ : ∃ L, row.length = L := ⟨_, rfl⟩;rw [hL] at hrc hcE hrl;have HCE := Lib.hid (And.intro hg hcE);have HRM := Lib.hid (And.intro hrm (And.intro hto hL));have HRC := Lib.hid hrcell;have hos : s < o2.length := by rw [HI2.out.1.len, HN.out.1]; exact hsn
     have HST : Hid (∃ b, o2[s]? = some b ∧ (b = false → ∀ k, k < 0 → ∀ h : k < row.length, o2[row[k].to]? = some false)) := ⟨_, List.getElem?_eq_getElem hos, fun _ k hk => absurd hk (Nat.not_lt_zero _)⟩;have HCF : Hid (cfO o2 ≤ cfO o) := by
      cases ch with
      | false => show cfO o2 ≤ cfO o; rw [(HI2.out.2.1 rfl).1]; exact Nat.le_refl _
      | true => exact Nat.le_of_lt (HI2.out.2.2 rfl)
     clear hwN hwb hg hcE hrow hrm hto hrcell hL hos hsl z0 z1 hbn;go_wp2_with fail
     go_loopg [6, 4] L (fun q iv cv wr => ∃ (i : Nat) (ch : Bool) (o3 : List Bool), i ≤ L ∧ q = L - i ∧ iv = .int .i64 (i : Int) ∧ cv = .bool ch ∧ Hid (AlR w1 (w.heap.size + 1) go n c1 o3 wr) ∧ Hid (AlI m o3 ∧ (ch = false → o3 = o ∧ ClosB m o s) ∧ (ch = true → cfO o3 < cfO o) ∧ cfO o3 ≤ cfO o ∧ ∃ b, o3[s]? = some b ∧ (b = false → ∀ k, k < i → ∀ h : k < row.length, o3[row[k].to]? = some false)))
     case atStart => exact ⟨0, ch, o2, Nat.zero_le _, rfl, rfl, rfl, HR2, HI2.out.1, HI2.out.2.1, HI2.out.2.2, HCF.out, HST.out⟩
     case round =>
      clear HST HCF;obtain ⟨i, ch3, o3, hi, hgk, rfl, rfl, HR3, HI3⟩ := hrel;obtain ⟨hwN, hwb, hbn⟩ := HCW.out wr HR3.out.kf;obtain ⟨z0, z1⟩ : wr.cell? ⟨w.heap.size, 0, none⟩ = some (.slice (some ⟨g, f, none⟩) n ce) ∧ wr.cell? ⟨w.heap.size, 1, none⟩ = some (.slice (some ⟨ga, fa, none⟩) n ca) := by
       constructor <;> (rw [cell_of_row _ _ _ _ _ _ hwN]; rfl)
      have hcr := (hwb.cell (p := ⟨g, f + s, none⟩) HCE.out.1).trans HCE.out.2;have hgr : g < wr.heap.size := by have := HCE.out.1; omega
      obtain ⟨b, hb, hbk⟩ := HI3.out.2.2.2.2;obtain ⟨c0, c1', c2'⟩ := HR3.out.cell hb;have HWB := Lib.hid hwb;have HBK := Lib.hid (And.intro hb hbk);clear hwN hwb hb hbk;by_cases hil : i < L
      ·have hdi : decide ((i : Int) < (L : Int)) = true := decide_eq_true (by omega)
       have hdin : decide (i < L) = true := decide_eq_true hil
       cases b with
       | true =>
        go_wp2_with fail
        go_roundg (n - (s + 1))
        case measure => omega
        case rel => exact ⟨s + 1, ch3, o3, by omega, rfl, by go_num, rfl, HR3, HI3.out.1, fun h => ⟨(HI3.out.2.1 h).1, fun t ht ho => by
         by_cases hts : t = s
         ·subst hts; have := HBK.out.1; rw [(HI3.out.2.1 h).1, ho] at this; cases this
         ·exact (HI3.out.2.1 h).2 t (by omega) ho⟩, HI3.out.2.2.1⟩
       | false =>
        have him : i < row.length := by rw [HRM.out.2.2]; exact hil
        obtain ⟨g2, f2, rfl, hg2, hcs⟩ := HRC.out.resolve_left (by intro e; rw [e] at him; simp at him)
        obtain ⟨-, -, p2⟩ := hcs i him;obtain ⟨to, hto⟩ : ∃ t, row[i].to = t := ⟨_, rfl⟩;rw [hto] at p2;have q2 := (HWB.out.cell (p := ⟨g2, f2 + i * 3 + 2, none⟩) hg2).trans p2;have hgw2 : g2 < wr.heap.size := by have := HWB.out.size; omega
        have htn : to < n := by rw [← hto]; exact HRM.out.2.1 _ (List.getElem_mem him)
        have hdt : decide (to < n) = true := decide_eq_true htn;have hot : to < o3.length := by rw [HI3.out.1.len, HN.out.1]; exact htn
        obtain ⟨bt, hbt⟩ : ∃ b, o3[to]? = some b := ⟨_, List.getElem?_eq_getElem hot⟩;obtain ⟨d0, -, -⟩ := HR3.out.cell hbt;have HT := Lib.hid (And.intro hbt (Exists.intro him hto : ∃ h : i < row.length, row[i].to = to));clear p2 hcs hot hbt hto him
        cases bt with
        | false =>
         go_wp2_with fail
         go_roundg (L - (i + 1))
         case measure => omega
         case rel => exact ⟨i + 1, ch3, o3, by omega, rfl, by go_num, rfl, HR3, HI3.out.1, HI3.out.2.1, HI3.out.2.2.1, HI3.out.2.2.2.1, false, HBK.out.1, fun _ k hk h => by
          by_cases hki : k = i
          ·subst hki;obtain ⟨hh, e⟩ := HT.out.2;rw [e]; exact HT.out.1
          ·exact HBK.out.2 (by trivial) k (by omega) h⟩
        | true =>
         have hR4 := HR3.out.set (by rw [HI3.out.1.len, HN.out.1]) s
         have hI4 : AlI m (o3.set s true) := by
          obtain ⟨him, e⟩ := HT.out.2;refine HI3.out.1.set HV.out (e := row[i]) (by rw [HRM.out.1]; exact List.getElem_mem him) (by rw [e]; exact HT.out.1)
         have hcf := cfO_set o3 s HBK.out.1;have HR4 := Lib.hid hR4;have HI4 : Hid (AlI m (o3.set s true) ∧ cfO (o3.set s true) < cfO o ∧ (o3.set s true)[s]? = some true) := ⟨hI4, by have := HI3.out.2.2.2.1; omega, by rw [List.getElem?_set]; simp; exact (List.getElem?_eq_some_iff.1 HBK.out.1).1⟩
         clear hR4 hI4 hcf;go_wp2_with fail
         go_roundg (L - (i + 1))
         case measure => omega
         case rel => exact ⟨i + 1, true, o3.set s true, by omega, rfl, by go_num, rfl, HR4, HI4.out.1, fun h => (by cases h), fun _ => HI4.out.2.1, Nat.le_of_lt HI4.out.2.1, true, HI4.out.2.2, fun h => (by cases h)⟩
      ·obtain rfl : i = L := by omega
       have hdi : decide ((i : Int) < (i : Int)) = false := decide_eq_false (by omega)
       have hdin : decide (i < i) = false := decide_eq_false (by omega)
       go_wp2_with fail
       go_roundg (n - (s + 1))
       case measure => omega
       case rel => exact ⟨s + 1, ch3, o3, by omega, rfl, by go_num, rfl, HR3, HI3.out.1, fun h => ⟨(HI3.out.2.1 h).1, fun t ht ho => by
        by_cases hts : t = s
        ·subst hts;rw [HRM.out.1];intro e he;obtain ⟨k, hk, rfl⟩ := List.getElem_of_mem he;have hbf : b = false := by have := HBK.out.1; rw [(HI3.out.2.1 h).1, ho] at this; exact (Option.some.inj this).symm
         have h5 := HBK.out.2 hbf k (by have := HRM.out.2.2; omega) hk
         rw [(HI3.out.2.1 h).1] at h5;exact h5
        ·exact (HI3.out.2.1 h).2 t (by omega) ho⟩, HI3.out.2.2.1⟩
    ·obtain rfl : s = n := by omega
     have hd0 : decide ((s : Int) < (s : Int)) = false := decide_eq_false (by omega)
     have hdn : decide (s < s) = false := decide_eq_false (by omega)
     go_wp2_with fail
     go_roundg (cfO o2 + (if ch = true then 1 else 0) + 1)
     case measure =>
      obtain ⟨h1, h2⟩ := HI2.out.2
      cases ch with
      | false => rw [(h1 rfl).1]; simp at hq ⊢; omega
      | true => have := h2 rfl; simp at hq ⊢; omega
     case rel => exact ⟨ch, o2, rfl, Nat.lt_succ_self _, HR2, HI2.out.1, fun h => by
      obtain ⟨h1, h2⟩ := HI2.out.2.1 h;rw [h1];intro t ht ho;exact h2 t (by have := (List.getElem?_eq_some_iff.1 ho).1; have h3 := HI.out.1.len; have h4 := HN.out.1; omega) ho⟩
theorem info_a256 : (Tryz.prog.info? 120).map (fun i => (i.zero, i.size, i.bytes)) = some (some (.agg (Array.replicate 256 (.int .i64 0))), 256, 2048) := by kernel_rfl
theorem mk_rows (n : Nat) (hn : n ≤ 60000) (w : World) : (Instr.makeSlice 117 (.int .i64 (n : Int)) (.int .i64 (n : Int))).run Tryz.prog w = .ok (.slice (some ⟨w.heap.size, 0, none⟩) n n) (w.alloc (.cells (Array.replicate (n * 256) (.int .i64 0)) 120)) := by
 obtain ⟨i0, hi, hz0, hz1, hz2⟩ := info_parts info_a256;have h := run_makeSlice (P := Tryz.prog) (w := w) 117 120 i0 (.agg (Array.replicate 256 (.int .i64 0))) Tryz.underlying117 hi hz0 .i64 .i64 (n : Int) (n : Int) (by omega) (Int.le_refl _) (by rw [hz1]; omega) (by rw [hz2]; omega) (by omega)
 rw [hz1, Int.toNat_natCast] at h;rw [show madeCells (Value.agg (Array.replicate 256 (Value.int IntKind.i64 0))).cells (n * 256) = Array.replicate (n * 256) (.int .i64 0) from Array.toList_inj.1 (by
  simp only [madeCells, Value.cells, Array.toList_map, Array.toList_range, Array.toList_replicate];rw [List.eq_replicate_iff];refine ⟨by simp, fun x hx => ?_⟩
  obtain ⟨i, -, rfl⟩ := List.mem_map.1 hx;have : i % 256 < 256 := Nat.mod_lt _ (by decide)
  simp [this])] at h
 exact h
def TbB (w : World) (g n : Nat) (F : Nat → Nat → Int) : Prop := ∃ cs, w.heap[g]? = some (.cells cs 120 (0, 0)) ∧ cs.size = n * 256 ∧ ∀ s c, s < n → c < 256 → cs[s * 256 + c]? = some (.int .i64 (F s c))
def updF (F : Nat → Nat → Int) (s c : Nat) (x : Int) : Nat → Nat → Int := fun s' c' => if s' = s ∧ c' = c then x else F s' c'
theorem TbB.cell {w : World} {g n : Nat} {F : Nat → Nat → Int} (h : TbB w g n F) {s c : Nat} (hs : s < n) (hc : c < 256) : w.cell? ⟨g, s * 256 + c, none⟩ = some (.int .i64 (F s c)) ∧ w.frozen? ⟨g, s * 256 + c, none⟩ = false ∧ g < w.heap.size := by
 obtain ⟨cs, h1, h2, h3⟩ := h;refine ⟨?_, by simp [World.frozen?, h1], (Array.getElem?_eq_some_iff.1 h1).1⟩
 rw [cell_of_row _ _ _ _ _ _ h1]; exact h3 s c hs hc
theorem TbB.set {w : World} {g n : Nat} {F : Nat → Nat → Int} (h : TbB w g n F) {s c : Nat} (hs : s < n) (hc : c < 256) (x : Int) : TbB (w.setCell ⟨g, s * 256 + c, none⟩ (.int .i64 x)) g n (updF F s c x) := by
 obtain ⟨cs, h1, h2, h3⟩ := h;refine ⟨cs.setIfInBounds (s * 256 + c) (.int .i64 x), by simp [World.setCell, Array.getElem?_modify, h1], by simpa using h2, fun s' c' hs' hc' => ?_⟩
 unfold updF;rw [Array.getElem?_setIfInBounds];by_cases he : s' = s ∧ c' = c
 ·obtain ⟨rfl, rfl⟩ := he;have hlt : s' * 256 + c' < cs.size := by rw [h2]; omega
  rw [if_pos rfl, if_pos hlt, if_pos ⟨rfl, rfl⟩]
 ·rw [if_neg (by omega), if_neg he]
  exact h3 s' c' hs' hc'
theorem TbB.keep {w w' : World} {g n : Nat} {F : Nat → Nat → Int} (h : TbB w g n F) (hk : w'.heap[g]? = w.heap[g]?) : TbB w' g n F := by
 obtain ⟨cs, h1, h2⟩ := h;exact ⟨cs, hk.trans h1, h2⟩
theorem TbB.later {w w' : World} {g n : Nat} {F : Nat → Nat → Int} (h : TbB w g n F) (hb : Below w.heap.size w w') : TbB w' g n F := by
 obtain ⟨cs, h1, h2⟩ := id h;exact h.keep (hb.block g (Array.getElem?_eq_some_iff.1 h1).1)
theorem TbB.made {w : World} {n : Nat} : TbB (w.alloc (.cells (Array.replicate (n * 256) (.int .i64 0)) 120)) w.heap.size n fun _ _ => 0 :=
 ⟨_, heap_alloc_new w _, by simp, fun s c hs hc => by rw [Array.getElem?_replicate, if_pos (by omega)]⟩
def tbF (m : Mc) (al : List Bool) (s c : Nat) : Int := match trn (rowM m s) c with | none => -1 | some t => if (al[t]?).getD false = true then (t : Int) else -1
def tbR (al : List Bool) (r : List Ed) (c : Nat) : Int := match trn r c with | none => -1 | some t => if (al[t]?).getD false = true then (t : Int) else -1
theorem trn_take_succ : ∀ {r : List Ed} {b c : Nat} (i : Nat) (hi : i < r.length), SortE b r → trn (r.take (i + 1)) c = if r[i].lo ≤ c ∧ c ≤ r[i].hi then some r[i].to else trn (r.take i) c
 | e :: r, b, c, 0, _, _ => by simp [trn]
 | e :: r, b, c, i + 1, hi, ⟨h1, h2, h3⟩ => by
  rw [List.take_succ_cons, trn, List.take_succ_cons, trn, List.getElem_cons_succ];have hi' : i < r.length := by simpa using hi
  rw [trn_take_succ i hi' h3];by_cases he : e.lo ≤ c ∧ c ≤ e.hi
  ·rw [if_pos he, if_pos he];have hlo := (sort_adj h3 i hi').1;have hge : e.hi + 1 ≤ r[i].lo := by
    cases i with
    | zero =>
     match r, h3, hi' with
     | f :: r, h3, _ => exact h3.1
    | succ i =>
     have h5 := (sort_hi h3 0 i (by omega) (by omega) (Nat.zero_le _))
     have h6 := (sort_adj h3 (i + 1) hi').2 i rfl;omega
   rw [if_neg (by omega)]
  ·rw [if_neg he, if_neg he]
theorem tbR_succ {al : List Bool} {r : List Ed} {b c : Nat} (i : Nat) (hi : i < r.length) (hs : SortE b r) : tbR al (r.take (i + 1)) c = if (r[i].lo ≤ c ∧ c ≤ r[i].hi) ∧ (al[r[i].to]?).getD false = true then (r[i].to : Int) else tbR al (r.take i) c := by
 unfold tbR;rw [trn_take_succ i hi hs];by_cases h : r[i].lo ≤ c ∧ c ≤ r[i].hi
 ·rw [if_pos h];by_cases ha : (al[r[i].to]?).getD false = true
  ·rw [if_pos ⟨h, ha⟩]; simp only; rw [if_pos ha]
  ·rw [if_neg (fun q => ha q.2)];simp only;rw [if_neg ha];have hn : trn (r.take i) c = none := by
    cases hx : trn (r.take i) c with
    | none => rfl
    | some t =>
     exfalso;obtain ⟨e, he, h1, h2, -⟩ := trn_mem hx;obtain ⟨k, hk, rfl⟩ := List.getElem_of_mem he;have hki : k < i := by simp at hk; omega
     rw [List.getElem_take] at h1 h2;have h5 := (sort_hi hs k (i - 1) (by omega) (by omega) (by omega)).2
     have h6 := (sort_adj hs i hi).2 (i - 1) (by omega)
     omega
   rw [hn]
 ·rw [if_neg h, if_neg (fun q => h q.1)]
theorem kf_belT {L : List Nat} {w w' : World} (hf : Below w.heap.size w w') : KeepF L [] w w' := ⟨hf.os, hf.tape, hf.output, hf.size, fun k hk _ => hf.block k hk, fun k hk => by cases hk⟩
structure TbW (W : World) (g n : Nat) (F : Nat → Nat → Int) (wr : World) : Prop where
 tb : TbB wr g n F
 kf : KeepF [g] [] W wr
theorem TbW.set {W wr : World} {g n : Nat} {F : Nat → Nat → Int} (h : TbW W g n F wr) {s c : Nat} (hs : s < n) (hc : c < 256) (x : Int) : TbW W g n (updF F s c x) (wr.setCell ⟨g, s * 256 + c, none⟩ (.int .i64 x)) :=
 ⟨h.tb.set hs hc x, h.kf.tr ⟨rfl, rfl, rfl, by simp [World.setCell], fun k _ hn => Below.heap_setCell _ _ _ _ (fun e => hn (by simp [show k = g from e])), fun k hk => by cases hk⟩⟩
theorem TbW.later {W wr w' : World} {g n : Nat} {F : Nat → Nat → Int} (h : TbW W g n F wr) (hb : Below wr.heap.size wr w') : TbW W g n F w' := ⟨h.tb.later hb, h.kf.tr (kf_belT hb)⟩
def TbPost (m : Mc) (n : Nat) (w : World) (e : Ending) (w' : World) : Prop := ∃ g al, e = .returned (.slice (some ⟨g, 0, none⟩) n n) ∧ w.heap.size ≤ g ∧ TbB w' g n (tbF m al) ∧ Below w.heap.size w w' ∧ al.length = n ∧ ∀ s, s < n → (al[s]? = some true ↔ LiveS m s)
def factT17 (gT gE n s cx to : Nat) : Nat → Nat → Value → World → Prop
 | c, 0, x, w => x = .slice (some ⟨gT, 0, none⟩) n n
 | c, 1, x, w => x = .int .i64 (s : Int)
 | c, 2, x, w => x = .int .i64 (cx : Int)
 | c, 3, x, w => x = .pointer (some ⟨gE, 2, none⟩)
 | c, 4, x, w => x = .int .i64 (to : Int)
 | c, 5, x, w => x = .pointer (some ⟨gT, s * 256, none⟩)
 | c, 6, x, w => x = .pointer (some ⟨gT, s * 256 + cx, none⟩)
 | _, _, _, _ => True
set_option maxHeartbeats 8000000 in
theorem rtable_any (v : Value) (m : Mc) (w : World) (hm : McIn w v m) (hv : Vld m) (hsm : McSm m) (h1 : 1 ≤ m.ed.length) (h2 : m.ed.length ≤ 2000) :
  Calls Tryz.prog 79 #[v] w (TbPost m m.ed.length w) := by
 obtain ⟨Ae, ce, Aa, ca, rfl, hcn, hcn2⟩ := mcf hm;obtain ⟨he, ha⟩ := mc_parts hm;obtain ⟨n, hn⟩ : ∃ n, m.ed.length = n := ⟨_, rfl⟩;have hac : m.ac.length = n := by rw [hv.len, hn]
 have HLV := Lib.hid fun W (h : Below w.heap.size w W) => rlive_any _ m W (hm.later h) hv hsm h1;have HE := Lib.hid he;have HV := Lib.hid hv;have HSM := Lib.hid hsm;have HN := Lib.hid (And.intro hn hac);rw [hn] at h1 h2 hcn HLV;rw [hac] at hcn2 HLV;rw [hac, hn];have hmk := fun w => mk_rows n (by omega) w
 have HB0 : Hid (Below w.heap.size w (w.alloc (.cells #[.slice Ae n ce, .slice Aa n ca] 34))) := (Below.refl _ _).alloc (Nat.le_refl _) _;have HBX := Lib.hid (heap_alloc_new w (.cells #[.slice Ae n ce, .slice Aa n ca] 34));clear he ha hv hsm hm hn hac
 go_enter Tryz.func79, Tryz.ntmps79
 go_wp2_with fail;refine (HLV.out _ HB0.out).mono ?_;rintro e w1 ⟨rv, al, rfl, hown, hb1, hall, halv⟩;obtain ⟨A1, c1, rfl, hc1, -⟩ := own_form (show w1.ownsRow _ _ _ _ _ _ from hown);rw [hall] at hc1;have hbx1 := (hb1.block w.heap.size (by simp)).trans HBX.out
 obtain ⟨x0, x1⟩ : w1.cell? ⟨w.heap.size, 0, none⟩ = some (.slice Ae n ce) ∧ w1.cell? ⟨w.heap.size, 1, none⟩ = some (.slice Aa n ca) := by constructor <;> (rw [cell_of_row _ _ _ _ _ _ hbx1]; rfl)
 have lx : w.heap.size < w1.heap.size := by have := hb1.size; simp at this; omega
 have H1 := Lib.hid (And.intro hown (And.intro (HB0.out.trans (hb1.mono (by simp))) (And.intro hall (And.intro halv hbx1))))
 rw [hall];clear hown hb1 halv hbx1 hall;go_wp2_with fail;refine wp_named fun W hW => ?_;have hbW : Below w1.heap.size w1 W := by rw [hW]; exact (Below.refl _ _).alloc (Nat.le_refl _) _
 have hT0 : TbB W w1.heap.size n fun _ _ => 0 := by rw [hW]; exact TbB.made
 obtain ⟨gT, hgT⟩ : ∃ k, w1.heap.size = k := ⟨_, rfl⟩;have hgTW : gT < W.heap.size := by rw [← hgT]; exact (hT0.cell (s := 0) (c := 0) (by omega) (by decide)).2.2
 have HCW : Hid (∀ wr, KeepF [gT] [] W wr → Below w.heap.size w wr ∧ wr.heap[w.heap.size]? = some (.cells #[.slice Ae n ce, .slice Aa n ca] 34 (0, 0)) ∧ w.heap.size < wr.heap.size ∧ OR 4 1 bC w.heap.size (.slice A1 n c1) al wr ∧ gT < wr.heap.size) := fun wr hk => by
  have hz := hk.size;have hsz := hbW.size;have h1 := H1.out.2.1;have hor := H1.out.1;rw [H1.out.2.2.1] at *;exact ⟨(h1.trans (hbW.mono h1.size)).trans (hk.below (fun k hk => by rw [List.mem_singleton] at hk; have := h1.size; omega) (by have := h1.size; omega)), (hk.blk _ (by omega) (by simp; omega)).trans ((hbW.block _ (by omega)).trans H1.out.2.2.2.2), by omega,
   OR.keep ((hor.mono (show w.heap.size ≤ _ by simp)).later hbW) fun g hg => hk.blk g (World.ownsRow.lt (hor.later hbW) g hg).2 (by have := (World.ownsRow.lt hor g hg).2; simp; omega), by omega⟩
 have HT0 : Hid (TbW W gT n (fun _ _ => 0) W) := by rw [← hgT]; exact ⟨hT0, kf_belT (Below.refl _ _)⟩
 rw [hgT];have hgw : w.heap.size ≤ gT := by rw [← hgT]; exact H1.out.2.1.size
 clear hW hbW hT0 x0 x1 lx hgT
 go_loopw [5] (fun v wr => ∃ (s : Nat) (F : Nat → Nat → Int), s ≤ n ∧ v = .int .i64 (s : Int) ∧ Hid (TbW W gT n F wr ∧ ∀ s' c, s' < s → c < 256 → F s' c = tbF m al s' c)) (fun v _ => n - (intOf v).toNat)
 case atStart => exact ⟨0, fun _ _ => 0, by omega, rfl, HT0, fun s' c hs' => absurd hs' (Nat.not_lt_zero _)⟩
 case round =>
  obtain ⟨s, F, hs, rfl, HW⟩ := hrel;by_cases hlt : s < n
  ·have hd : decide ((s : Int) < (n : Int)) = true := decide_eq_true (by omega)
   have hdn : decide (s < n) = true := decide_eq_true hlt;go_wp2_with fail
   go_loopw [6] (fun v wr => ∃ (c : Nat) (F : Nat → Nat → Int), c ≤ 256 ∧ v = .int .i64 (c : Int) ∧ Hid (TbW W gT n F wr ∧ (∀ s' c, s' < s → c < 256 → F s' c = tbF m al s' c) ∧ ∀ c', c' < c → F s c' = -1)) (fun v _ => 256 - (intOf v).toNat)
   case atStart => exact ⟨0, F, by omega, rfl, HW.out.1, HW.out.2, fun c' hc' => absurd hc' (Nat.not_lt_zero _)⟩
   case round =>
    obtain ⟨c, F2, hc, rfl, HW2⟩ := hrel;by_cases hcl : c < 256
    ·have hdc : decide ((c : Int) < 256) = true := decide_eq_true (by omega)
     have hdcn : decide (c < 256) = true := decide_eq_true hcl;obtain ⟨k0, k1, k2⟩ := HW2.out.1.tb.cell hlt hcl;have HN2 : Hid (TbW W gT n (updF F2 s c (-1)) (wr.setCell ⟨gT, s * 256 + c, none⟩ (.int .i64 (-1))) ∧ (∀ s' c', s' < s → c' < 256 → updF F2 s c (-1) s' c' = tbF m al s' c') ∧ ∀ c', c' < c + 1 → updF F2 s c (-1) s c' = -1) := ⟨HW2.out.1.set hlt hcl (-1), fun s' c' h1 h2 => by unfold updF; rw [if_neg (by omega)]; exact HW2.out.2.1 s' c' h1 h2, fun c' hc' => by
      unfold updF;by_cases h : c' = c
      ·rw [if_pos ⟨rfl, h⟩]
      ·rw [if_neg (fun q => h q.2)]; exact HW2.out.2.2 c' (by omega)⟩
     go_wp2_with fail;go_roundw
     case rel => exact ⟨c + 1, _, by omega, by go_num, HN2⟩
     case measure => simp [intOf]; omega
    ·obtain rfl : c = 256 := by omega
     have hdc : decide ((256 : Int) < 256) = false := by decide
     have hdcn : decide (256 < 256) = false := by decide
     have hsl : s < m.ed.length := by rw [HN.out.1]; exact hlt
     obtain ⟨g, f, rv, rfl, -, hg, hcE, hed⟩ := HE.out.at_ hsl;obtain ⟨row, hrow⟩ : ∃ r, m.ed[s] = r := ⟨_, rfl⟩;have hrm : rowM m s = row := by unfold rowM; rw [List.getElem?_eq_getElem hsl, hrow]; rfl
     rw [hrow] at hed;have hto : ∀ e ∈ row, e.to < n := fun e he => by rw [← HN.out.1]; exact HV.out.to _ (by rw [← hrow]; exact List.getElem_mem hsl) e he
     have hby : ∀ e ∈ row, e.lo < 256 ∧ e.hi < 256 := fun e he => HSM.out.by_ _ (by rw [← hrow]; exact List.getElem_mem hsl) e he
     have hsr : SortE 0 row := by rw [← hrow]; exact HV.out.srt _ (List.getElem_mem hsl)
     have hrl : row.length ≤ 10000 := HSM.out.rl _ (by rw [← hrow]; exact List.getElem_mem hsl)
     obtain ⟨Ar, cr, rfl, hrc, hrcell⟩ := hed;obtain ⟨L, hL⟩ : ∃ L, row.length = L := ⟨_, rfl⟩;rw [hL] at hrc hcE hrl;have HCE := Lib.hid (And.intro hg hcE);have HRM := Lib.hid (And.intro hrm (And.intro hto (And.intro hby (And.intro hsr hL))));have HRC := Lib.hid hrcell;clear hg hcE hrow hrm hto hrcell hL hsl hby hsr;go_wp2_with fail
     go_loopw [7] (fun v wr => ∃ (i : Nat) (F : Nat → Nat → Int), i ≤ L ∧ v = .int .i64 (i : Int) ∧ Hid (TbW W gT n F wr ∧ (∀ s' c, s' < s → c < 256 → F s' c = tbF m al s' c) ∧ ∀ c', c' < 256 → F s c' = tbR al (row.take i) c')) (fun v _ => L - (intOf v).toNat)
     case atStart => exact ⟨0, F2, by omega, rfl, HW2.out.1, HW2.out.2.1, fun c' hc' => HW2.out.2.2 c' hc'⟩
     case round =>
      obtain ⟨i, F3, hi, rfl, HW3⟩ := hrel;obtain ⟨hbel, hbx, lx, hor, lT⟩ := HCW.out wr HW3.out.1.kf;obtain ⟨x0, x1⟩ : wr.cell? ⟨w.heap.size, 0, none⟩ = some (.slice (some ⟨g, f, none⟩) n ce) ∧ wr.cell? ⟨w.heap.size, 1, none⟩ = some (.slice Aa n ca) := by constructor <;> (rw [cell_of_row _ _ _ _ _ _ hbx]; rfl)
      have y0 := (hbel.cell (p := ⟨g, f + s, none⟩) HCE.out.1).trans HCE.out.2;have ly : g < wr.heap.size := by have := HCE.out.1; omega
      have HBL := Lib.hid hbel;clear hbel hbx hor;by_cases hil : i < L
      ·have hdi : decide ((i : Int) < (L : Int)) = true := decide_eq_true (by omega)
       have hdin : decide (i < L) = true := decide_eq_true hil;have him : i < row.length := by rw [HRM.out.2.2.2.2]; exact hil
       obtain ⟨g2, f2, rfl, hg2, hcs⟩ := HRC.out.resolve_left (by intro e; rw [e] at him; simp at him)
       obtain ⟨p0, p1, p2⟩ := hcs i him;have hlh := (sort_adj HRM.out.2.2.2.1 i him).1;have hsuc := fun c' => tbR_succ (al := al) (c := c') i him HRM.out.2.2.2.1;have hton := HRM.out.2.1 _ (List.getElem_mem him);have hbyn := HRM.out.2.2.1 _ (List.getElem_mem him);obtain ⟨⟨lo, hi', to⟩, he⟩ : ∃ e, row[i] = e := ⟨_, rfl⟩;rw [he] at p0 p1 p2 hlh hsuc hton hbyn;simp only at p0 p1 p2 hlh hsuc hton hbyn;have q0 := (HBL.out.cell (p := ⟨g2, f2 + i * 3, none⟩) hg2).trans p0;have q1 := (HBL.out.cell (p := ⟨g2, f2 + i * 3 + 1, none⟩) hg2).trans p1;have q2 := (HBL.out.cell (p := ⟨g2, f2 + i * 3 + 2, none⟩) hg2).trans p2;have lz : g2 < wr.heap.size := by have := HBL.out.size; omega
       have hol : to < al.length := by rw [H1.out.2.2.1]; exact hton
       obtain ⟨b, hb⟩ : ∃ b, al[to]? = some b := ⟨_, List.getElem?_eq_getElem hol⟩;have HP := Lib.hid (And.intro hlh (And.intro hsuc (And.intro hton (And.intro hbyn hb))));have hlo256 : lo < 256 := hbyn.1;have hhi256 : hi' < 256 := hbyn.2;clear p0 p1 p2 hlh hsuc hton hbyn hcs he him hol hb;go_wp2_with fail;refine wp_named fun W5 hW5 => ?_;have hbE : W5.heap[wr.heap.size]? = some (.cells #[.int .u8 (lo : Int), .int .u8 (hi' : Int), .int .i64 (to : Int)] 58 (0, 0)) := by rw [hW5]; exact heap_alloc_new wr _
       have hb5 : Below wr.heap.size wr W5 := by rw [hW5]; exact (Below.refl _ _).alloc (Nat.le_refl _) _
       obtain ⟨gE, hgE⟩ : ∃ k, wr.heap.size = k := ⟨_, rfl⟩;have hTE : gT < gE := by rw [← hgE]; exact lT
       rw [hgE] at hbE;have HW5 : Hid ((TbW W gT n F3 W5 ∧ W5.heap[gE]? = some (.cells #[.int .u8 (lo : Int), .int .u8 (hi' : Int), .int .i64 (to : Int)] 58 (0, 0))) ∧ (∀ s' c, s' < s → c < 256 → F3 s' c = tbF m al s' c) ∧ ∀ c', c' < 256 → F3 s c' = if (lo ≤ c' ∧ c' < lo) ∧ b = true then (to : Int) else tbR al (row.take i) c') := ⟨⟨HW3.out.1.later hb5, hbE⟩, HW3.out.2.1, fun c' hc' => by rw [if_neg (by omega)]; exact HW3.out.2.2 c' hc'⟩
       rw [hgE];have hlh : lo ≤ hi' := HP.out.1;clear hW5 hb5 hbE hgE x0 x1 lx lT y0 ly q0 q1 q2 lz
       go_loopw [9] (fun v wr => ∃ (c : Nat) (F : Nat → Nat → Int), lo ≤ c ∧ c ≤ hi' + 1 ∧ v = .int .i64 (c : Int) ∧ Hid ((TbW W gT n F wr ∧ wr.heap[gE]? = some (.cells #[.int .u8 (lo : Int), .int .u8 (hi' : Int), .int .i64 (to : Int)] 58 (0, 0))) ∧ (∀ s' c, s' < s → c < 256 → F s' c = tbF m al s' c) ∧ ∀ c', c' < 256 → F s c' = if (lo ≤ c' ∧ c' < c) ∧ b = true then (to : Int) else tbR al (row.take i) c')) (fun v _ => hi' + 1 - (intOf v).toNat)
       case atStart => exact ⟨lo, F3, Nat.le_refl _, by omega, rfl, HW5⟩
       case round =>
        obtain ⟨cx, F4, hcl, hch, rfl, HW6⟩ := hrel;obtain ⟨hbel, -, -, hor, lT⟩ := HCW.out wr HW6.out.1.1.kf;have hE := HW6.out.1.2;obtain ⟨e0, e1, e2⟩ : wr.cell? ⟨gE, 0, none⟩ = some (.int .u8 (lo : Int)) ∧ wr.cell? ⟨gE, 1, none⟩ = some (.int .u8 (hi' : Int)) ∧ wr.cell? ⟨gE, 2, none⟩ = some (.int .i64 (to : Int)) := by refine ⟨?_, ?_, ?_⟩ <;> (rw [cell_of_row _ _ _ _ _ _ hE]; rfl)
        have lE : gE < wr.heap.size := (Array.getElem?_eq_some_iff.1 hE).1;have hdt : decide (to < n) = true := decide_eq_true HP.out.2.2.1;obtain ⟨A', cx', e', -, horc⟩ := hor.cells bC_E;obtain ⟨hol, hbe⟩ := List.getElem?_eq_some_iff.1 HP.out.2.2.2.2;obtain ⟨ga, hA, -, hga, hcells⟩ := horc.resolve_left (by intro h; rw [h] at hol; exact absurd hol (Nat.not_lt_zero _))
        injection e' with e'1 e'2 e'3;have hal : wr.cell? ⟨ga, to, none⟩ = some (.bool b) := by
         have := (hcells to hol 0 (by decide)).1
         rw [Nat.mul_one, Nat.add_zero, hbe] at this;exact this
        have hAA : A1 = some ⟨ga, 0, none⟩ := e'1.trans hA;have htn := HP.out.2.2.1;clear horc hcells hol hbe hE hor hA e'1 e'2 e'3 hbel;by_cases hch2 : cx ≤ hi'
        ·have hdc : decide ((cx : Int) ≤ (hi' : Int)) = true := decide_eq_true (by omega)
         have hdcn : decide (cx ≤ hi') = true := decide_eq_true hch2;by_cases hbt : ¬ b = true
         ·have hbf : b = false := by simpa using hbt
          rw [hbf] at hal;have HBF := Lib.hid hbf;clear hbt hbf;have HN6 : Hid (TbW W gT n F4 wr ∧ (∀ s' cx, s' < s → cx < 256 → F4 s' cx = tbF m al s' cx) ∧ ∀ cx', cx' < 256 → F4 s cx' = tbR al (row.take (i + 1)) cx') := ⟨HW6.out.1.1, HW6.out.2.1, fun cx' hc' => by
           rw [HW6.out.2.2 cx' hc', HP.out.2.1 cx', HP.out.2.2.2.2];simp only [Option.getD_some, HBF.out];simp⟩
          subst hAA;go_wp2_with fail;go_roundw
          case rel => exact ⟨i + 1, F4, by omega, by go_num, HN6⟩
          case measure => simp [intOf]; omega
         ·have hbt2 : b = true := Decidable.not_not.1 hbt;rw [hbt2] at hal;have HBT := Lib.hid hbt2;clear hbt hbt2;have hc256 : cx < 256 := by omega
          have hd256 : decide (cx < 256) = true := decide_eq_true hc256;have hd256i : decide ((cx : Int) < 256) = true := decide_eq_true (by omega)
          have hd0i : decide ((0 : Int) ≤ (cx : Int)) = true := decide_eq_true (by omega)
          subst hAA;go_wp2_with fail;have hS0 : Below wr.heap.size wr wr.drew := (Below.refl _ _).drew;refine wp_region_chain 7 [] (factT17 gT gE n s cx to) (fun c w' => Below wr.heap.size wr w') (by kernel_rfl) (by kernel_rfl) (by kernel_rfl) (by kernel_rfl) (by kernel_rfl) (by kernel_rfl) (by decide) hS0 ?_ ?_
          ·simp only [pq4, pq5];refine HSteps.pure (by decide) ?_ (HSteps.pure (by decide) ?_ (HSteps.pure (by decide) ?_ (HSteps.pure (by decide) ?_ (HSteps.pure (by decide) ?_ (HSteps.pure (by decide) ?_ (HSteps.pure (by decide) ?_ (HSteps.nil)))))))
           all_goals first | (intro v wz c hlo hS hE K hK;simp only [putAll, Act.put, pq1, pq2, pq3, Nat.zero_add, Nat.reduceAdd, pq4, pq5] at hK ⊢) | (intro v wz hS hE K hK;simp only [putAll, Act.put, pq1, pq2, pq3, Nat.zero_add, Nat.reduceAdd, pq4, pq5] at hK ⊢)
           ·have HX := Lib.hid hS;clear hS hE hlo;go_wp2_with fail;exact hK.out _ rfl
           ·have HX := Lib.hid hS;clear hS hE hlo;go_wp2_with fail;exact hK.out _ rfl
           ·have HX := Lib.hid hS;clear hS hE hlo;go_wp2_with fail;exact hK.out _ rfl
           ·have HX := Lib.hid hS;clear hS hE hlo;go_wp2_with fail;exact hK.out _ rfl
           ·have e3 : v 3 = _ := hE.1 rfl;rw [e3] at hK ⊢;have q2 := (hS.cell (p := ⟨gE, 2, none⟩) lE).trans e2;have lq : gE < wz.heap.size := Nat.lt_of_lt_of_le lE hS.size;have HX := Lib.hid hS;clear hS hE hlo;go_wp2_with fail;exact hK.out _ rfl
           ·have e0 : v 0 = _ := hE.1 rfl;have e1 : v 1 = _ := hE.2.1 rfl;rw [e0, e1] at hK ⊢;have HX := Lib.hid hS;clear hS hE hlo;go_wp2_with fail;exact hK.out _ rfl
           ·have e5 : v 5 = _ := hE.1 rfl;have e2 : v 2 = _ := hE.2.1 rfl;rw [e5, e2] at hK ⊢;have HX := Lib.hid hS;clear hS hE hlo;go_wp2_with fail;exact hK.out _ rfl
          ·intro v wz hS hF;have e0 : v 0 = _ := hF 0 (by decide)
           have e1 : v 1 = _ := hF 1 (by decide)
           have e2 : v 2 = _ := hF 2 (by decide)
           have e3 : v 3 = _ := hF 3 (by decide)
           have e4 : v 4 = _ := hF 4 (by decide)
           have e5 : v 5 = _ := hF 5 (by decide)
           have e6 : v 6 = _ := hF 6 (by decide)
           simp only [putAll, Act.put, pq1, pq2, pq3, Nat.zero_add, Nat.reduceAdd, pq4, pq5, List.drop_succ_cons, List.drop_zero, e0, e1, e2, e3, e4, e5, e6];clear hF e0 e1 e2 e3 e4 e5 e6;have HW7 : Hid ((TbW W gT n F4 wz ∧ wz.heap[gE]? = some (.cells #[.int .u8 (lo : Int), .int .u8 (hi' : Int), .int .i64 (to : Int)] 58 (0, 0)))) := ⟨HW6.out.1.1.later hS, (hS.block gE lE).trans HW6.out.1.2⟩;obtain ⟨k0, k1, k2⟩ := HW7.out.1.tb.cell hlt hc256;have HN6 : Hid ((TbW W gT n (updF F4 s cx to) (wz.setCell ⟨gT, s * 256 + cx, none⟩ (.int .i64 (to : Int))) ∧ (wz.setCell ⟨gT, s * 256 + cx, none⟩ (.int .i64 (to : Int))).heap[gE]? = some (.cells #[.int .u8 (lo : Int), .int .u8 (hi' : Int), .int .i64 (to : Int)] 58 (0, 0))) ∧ (∀ s' cx', s' < s → cx' < 256 → updF F4 s cx to s' cx' = tbF m al s' cx') ∧ ∀ cx', cx' < 256 → updF F4 s cx to s cx' = if (lo ≤ cx' ∧ cx' < cx + 1) ∧ b = true then (to : Int) else tbR al (row.take i) cx') := ⟨⟨HW7.out.1.set hlt hc256 _, (Below.heap_setCell _ _ _ _ (by show gE ≠ gT; omega)).trans HW7.out.2⟩, fun s' cx' h1 h2 => by unfold updF; rw [if_neg (by omega)]; exact HW6.out.2.1 s' cx' h1 h2, fun cx' hc' => by
            unfold updF;by_cases h : cx' = cx
            ·rw [if_pos ⟨rfl, h⟩, if_pos ⟨by omega, HBT.out⟩]
            ·rw [if_neg (fun q => h q.2), HW6.out.2.2 cx' hc'];by_cases h2 : lo ≤ cx' ∧ cx' < cx
             ·rw [if_pos ⟨h2, HBT.out⟩, if_pos ⟨by omega, HBT.out⟩]
             ·rw [if_neg (fun q => h2 q.1), if_neg (fun q => h2 (by omega))]⟩
           clear hS e0 e1 e2 lE hal lT hga;go_wp2_with fail;go_roundw
           case rel => exact ⟨cx + 1, _, by omega, by omega, by go_num, HN6⟩
           case measure => simp [intOf]; omega
        ·obtain rfl : cx = hi' + 1 := by omega
         have hdc : decide (((hi' + 1 : Nat) : Int) ≤ (hi' : Int)) = false := decide_eq_false (by omega)
         have hdcn : decide (hi' + 1 ≤ hi') = false := decide_eq_false (by omega)
         have hdci : decide ((hi' : Int) + 1 ≤ (hi' : Int)) = false := decide_eq_false (by omega)
         have HN6 : Hid (TbW W gT n F4 wr ∧ (∀ s' cx, s' < s → cx < 256 → F4 s' cx = tbF m al s' cx) ∧ ∀ cx', cx' < 256 → F4 s cx' = tbR al (row.take (i + 1)) cx') := ⟨HW6.out.1.1, HW6.out.2.1, fun cx' hc' => by
          rw [HW6.out.2.2 cx' hc', HP.out.2.1 cx', HP.out.2.2.2.2];by_cases h2 : (lo ≤ cx' ∧ cx' ≤ hi') ∧ b = true
          ·rw [if_pos ⟨by omega, h2.2⟩, if_pos ⟨h2.1, h2.2⟩]
          ·rw [if_neg (fun q => h2 ⟨by omega, q.2⟩), if_neg (fun q => h2 ⟨q.1, q.2⟩)]⟩
         go_wp2_with fail;go_roundw
         case rel => exact ⟨i + 1, F4, by omega, by go_num, HN6⟩
         case measure => simp [intOf]; omega
      ·obtain rfl : i = L := by omega
       have hdi : decide ((i : Int) < (i : Int)) = false := decide_eq_false (by omega)
       have hdin : decide (i < i) = false := decide_eq_false (by omega)
       have HN4 : Hid (TbW W gT n F3 wr ∧ ∀ s' c, s' < s + 1 → c < 256 → F3 s' c = tbF m al s' c) := ⟨HW3.out.1, fun s' c h1 h2 => by
        by_cases hss : s' < s
        ·exact HW3.out.2.1 s' c hss h2
        ·obtain rfl : s' = s := by omega
         rw [HW3.out.2.2 c h2, List.take_of_length_le (by rw [HRM.out.2.2.2.2]; omega)]
         show _ = (match trn (rowM m s') c with | none => (-1 : Int) | some t => if (al[t]?).getD false = true then (t : Int) else -1)
         rw [HRM.out.1]
         rfl⟩
       go_wp2_with fail;go_roundw
       case rel => exact ⟨s + 1, F3, by omega, by go_num, HN4⟩
       case measure => simp [intOf]; omega
  ·obtain rfl : s = n := by omega
   have hd : decide ((s : Int) < (s : Int)) = false := decide_eq_false (by omega)
   have hdn : decide (s < s) = false := decide_eq_false (by omega)
   go_wp2_with fail;go_ret;refine ⟨gT, al, rfl, hgw, ?_, (HCW.out _ HW.out.1.kf).1, H1.out.2.2.1, H1.out.2.2.2.1⟩;obtain ⟨cs, h1, h2, h3⟩ := HW.out.1.tb;exact ⟨cs, h1, h2, fun s' c' hs' hc' => by rw [h3 s' c' hs' hc', HW.out.2 s' c' hs' hc']⟩
end Go.Proofs.YtjhmipidmpmlmaaGreatDoor
