/- Walk: ref06.Small. · machine.Least and ref06.Least at any machine. Printed by gen_lez.py. -/
import Derived.Test.YtjhmipidmpmlmaaGreatDoorY24
import Derived.Test.YtjhmipidmpmlmaaGreatDoorY23
import Derived.Test.YtjhmipidmpmlmaaGreatDoorY19
namespace Go.Proofs.YtjhmipidmpmlmaaGreatDoor
set_option linter.unusedVariables false
set_option linter.unusedSimpArgs false
set_option maxRecDepth 100000
open Go.RowKit
structure RsW (m' : Mc) (c : Nat → Option Nat) (B N gn n : Nat) (W : World) (wr : World) (i : Nat) (lv : Value) (rs : List (List Ed)) (acs : List Bool) (vE vA : Value) (gv : List Value) (p : List Ed) (t : Nat) (st : List Nat) (vst : Value) : Prop where
 sm : SmS m' c B N gn n i lv rs acs vE vA gv p p t st vst wr
 bl : Below B W wr
def factR28 (N M s ga fa n ca nj cj i cE cA B0 : Nat) (AE AV Aj : Option Addr) (gv av : List Value) (a : Bool) (W : World) : Nat → Nat → Value → World → Prop
 | c, 0, x, w => x = .pointer (some ⟨N, 0, none⟩)
 | c, 1, x, w => x = .slice AE i cE
 | c, 2, x, w => x = .slice Aj nj cj
 | c, 3, x, w => ∃ g, x = .slice (some ⟨g, 0, none⟩) 1 1 ∧ W.heap.size ≤ g ∧ g < w.heap.size ∧ w.cell? ⟨g, 0, none⟩ = some (.slice Aj nj cj)
 | c, 4, x, w => 1 ≤ c → ∃ A c', x = .slice A (i + 1) c' ∧ w.ownsRow B0 53 1 x (i + 1) (gv ++ [.slice Aj nj cj]) ∧ Fresh x (.slice AE i cE) W.heap.size
 | c, 5, x, w => x = .pointer (some ⟨N, 1, none⟩)
 | c, 6, x, w => x = .slice AV i cA
 | c, 7, x, w => x = .pointer (some ⟨M, 1, none⟩)
 | c, 8, x, w => x = .slice (some ⟨ga, fa, none⟩) n ca
 | c, 9, x, w => x = .int .i64 (s : Int)
 | c, 10, x, w => x = .pointer (some ⟨ga, fa + s, none⟩)
 | c, 11, x, w => x = .bool a
 | c, 12, x, w => ∃ g, x = .slice (some ⟨g, 0, none⟩) 1 1 ∧ W.heap.size ≤ g ∧ g < w.heap.size ∧ w.cell? ⟨g, 0, none⟩ = some (.bool a)
 | c, 13, x, w => 2 ≤ c → ∃ A c', x = .slice A (i + 1) c' ∧ w.ownsRow B0 4 1 x (i + 1) (av ++ [.bool a]) ∧ Fresh x (.slice AV i cA) W.heap.size
 | c, 14, x, w => x = .pointer (some ⟨N, 0, none⟩)
 | c, 15, x, w => 3 ≤ c → ∃ A c', w.ownsRow B0 53 1 (.slice A (i + 1) c') (i + 1) (gv ++ [.slice Aj nj cj]) ∧ Fresh (.slice A (i + 1) c') (.slice AE i cE) W.heap.size ∧ w.heap[N]? = some (.cells #[.slice A (i + 1) c', .slice AV i cA] 34 (0, 0))
 | c, 16, x, w => x = .pointer (some ⟨N, 1, none⟩)
 | _, _, _, _ => True
section
variable {N M s ga fa n ca nj cj i cE cA B0 : Nat} {AE AV Aj : Option Addr} {gv av : List Value} {a : Bool} {W u u' : World}
theorem factR28_bl (hb : Below u.heap.size u u') {c j : Nat} {x : Value} (h : factR28 N M s ga fa n ca nj cj i cE cA B0 AE AV Aj gv av a W c j x u) : factR28 N M s ga fa n ca nj cj i cE cA B0 AE AV Aj gv av a W c j x u' := by
 match j with
 | 0 | 1 | 2 | 5 | 6 | 7 | 8 | 9 | 10 | 11 | 14 | 16 => exact h
 | 3 | 12 =>
  obtain ⟨g, e, h1, hg, h0⟩ := h;exact ⟨g, e, h1, Nat.lt_of_lt_of_le hg hb.size, (hb.cell (p := ⟨g, 0, none⟩) hg).trans h0⟩
 | 4 | 13 =>
  intro hc;obtain ⟨A, c', e, ho, hf⟩ := h hc;exact ⟨A, c', e, own_later ho hb, hf⟩
 | 15 =>
  intro hc;obtain ⟨A, c', ho, hf, hr⟩ := h hc;exact ⟨A, c', own_later ho hb, hf, (hb.block _ (Array.getElem?_eq_some_iff.1 hr).1).trans hr⟩
 | _ + 17 => exact trivial
theorem factR28_01 (hg : u.grownBy u' (Value.slice AE i cE).ownBlock) (hv : ∀ g, (Value.slice AE i cE).ownBlock = some g → g < W.heap.size) (j : Nat) (x : Value) (hj : j ≠ 4) (h : factR28 N M s ga fa n ca nj cj i cE cA B0 AE AV Aj gv av a W 0 j x u) : factR28 N M s ga fa n ca nj cj i cE cA B0 AE AV Aj gv av a W 1 j x u' := by
 match j with
 | 0 | 1 | 2 | 5 | 6 | 7 | 8 | 9 | 10 | 11 | 14 | 16 => exact h
 | 3 | 12 => exact f814 hg hv h
 | 4 => exact absurd rfl hj
 | 13 | 15 => exact fun hc => by omega
 | _ + 17 => exact trivial
theorem factR28_12 (hg : u.grownBy u' (Value.slice AV i cA).ownBlock) (hv : ∀ g, (Value.slice AV i cA).ownBlock = some g → g < W.heap.size) (hd : ∀ g, (Value.slice AV i cA).ownBlock = some g → (Value.slice AE i cE).ownBlock ≠ some g) (j : Nat) (x : Value) (hj : j ≠ 13) (h : factR28 N M s ga fa n ca nj cj i cE cA B0 AE AV Aj gv av a W 1 j x u) : factR28 N M s ga fa n ca nj cj i cE cA B0 AE AV Aj gv av a W 2 j x u' := by
 match j with
 | 0 | 1 | 2 | 5 | 6 | 7 | 8 | 9 | 10 | 11 | 14 | 16 => exact h
 | 3 | 12 => exact f814 hg hv h
 | 4 =>
  intro _;obtain ⟨A, c', e, ho, hf⟩ := h (by decide)
  refine ⟨A, c', e, own_same ho fun g hgx => hg.block g (ho.lt g hgx).2 (fun e2 => ?_), hf⟩;rcases hf with hf | ⟨g', hf, h2⟩
  ·rw [hf] at hgx; exact hd g e2.symm hgx
  ·rw [hf] at hgx; injection hgx with hgx; have := hv g e2.symm; omega
 | 13 => exact absurd rfl hj
 | 15 => exact fun hc => by omega
 | _ + 17 => exact trivial
theorem factR28_23 (hs : N < W.heap.size) (hsS : (Value.slice AE i cE).ownBlock ≠ some N) (hsF : (Value.slice AV i cA).ownBlock ≠ some N) (v : Value) (j : Nat) (x : Value) (hj : j ≠ 15) (h : factR28 N M s ga fa n ca nj cj i cE cA B0 AE AV Aj gv av a W 2 j x u) : factR28 N M s ga fa n ca nj cj i cE cA B0 AE AV Aj gv av a W 3 j x (u.setCell ⟨N, 0, none⟩ v) := by
 have hset : ∀ k, k ≠ N → (u.setCell ⟨N, 0, none⟩ v).heap[k]? = u.heap[k]? := fun k hk => Below.heap_setCell _ _ _ _ hk
 match j with
 | 0 | 1 | 2 | 5 | 6 | 7 | 8 | 9 | 10 | 11 | 14 | 16 => exact h
 | 3 | 12 =>
  obtain ⟨g, e, h1, h2, h3⟩ := h;exact ⟨g, e, h1, by simpa [World.setCell] using h2, (World.cell?_of_block (a := ⟨g, 0, none⟩) (hset g (by omega))).trans h3⟩
 | 4 =>
  intro _;obtain ⟨A, c', e, ho, hf⟩ := h (by decide)
  refine ⟨A, c', e, own_same ho fun g hgx => hset g (fun e2 => ?_), hf⟩;subst e2;rcases hf with hf | ⟨g', hf, h2⟩
  ·rw [hf] at hgx; exact hsS hgx
  ·rw [hf] at hgx; injection hgx with hgx; omega
 | 13 =>
  intro _;obtain ⟨A, c', e, ho, hf⟩ := h (by decide)
  refine ⟨A, c', e, own_same ho fun g hgx => hset g (fun e2 => ?_), hf⟩;subst e2;rcases hf with hf | ⟨g', hf, h2⟩
  ·rw [hf] at hgx; exact hsF hgx
  ·rw [hf] at hgx; injection hgx with hgx; omega
 | 15 => exact absurd rfl hj
 | _ + 17 => exact trivial
end
set_option maxHeartbeats 16000000 in
theorem rsmall_any (v : Value) (m : Mc) (w : World) (hm : McIn w v m) (hv : Vld m) (hsm : McSm m) (h1 : 1 ≤ m.ed.length) (h2 : m.ed.length ≤ 2000) : Calls Tryz.prog 46 #[v] w (LePost m w) := by
 have HTB := Lib.hid fun W (h : Below w.heap.size w W) => rtable_any v m W (hm.later h) hv hsm h1 h2;have HCL := Lib.hid fun W gT al (h : Below w.heap.size w W) (ha : LiveL m al) (ht : TbB W gT m.ed.length (tbF m al)) => rclasses_any v m W gT al (hm.later h) hv hsm h1 h2 ha ht;obtain ⟨Ae, ce, Aa, ca, rfl, hcn, hcn2⟩ := mcf hm;obtain ⟨he, hac0⟩ := mc_parts hm;obtain ⟨n, hn⟩ : ∃ n, m.ed.length = n := ⟨_, rfl⟩;have hac : m.ac.length = n := by rw [hv.len, hn]
 have HA := Lib.hid hac0;have HV := Lib.hid hv;have HSM := Lib.hid hsm;have HN := Lib.hid (And.intro hn hac);rw [hn] at h1 h2 hcn HTB HCL;rw [hac] at hcn2 HTB HCL;rw [hac, hn];obtain ⟨is, his, hs0, hs1, hs2⟩ := info_parts info_es;obtain ⟨ib, hib, hb0, hb1, hb2⟩ := info_parts info_bool;obtain ⟨ii, hii, hj0, hj1, hj2⟩ := info_parts info_int;obtain ⟨ie, hie, hk0, hk1, hk2⟩ := info_parts info_ed;have hmk := mk_zeros n (by omega)
 have HH1 := Lib.hid h1;clear he hac0 hv hsm hm hn hac
 go_enter Tryz.func46, Tryz.ntmps46
 go_wp2_with fail;refine (HTB.out _ ?hb0).mono ?_
 case hb0 => exact ((Below.refl w.heap.size w).alloc (Nat.le_refl _) _).alloc (by simp) _
 rintro e w1 ⟨gT, al, rfl, hgT, htb1, hb1', hal, hall⟩;have hsz0 : ((w.alloc (.cells #[.slice Ae n ce, .slice Aa n ca] 34)).alloc (.cells #[.slice none 0 0, .slice none 0 0] 34)).heap.size = w.heap.size + 2 := by simp
 rw [hsz0] at hgT hb1';have hbx0 : w1.heap[w.heap.size]? = some (.cells #[.slice Ae n ce, .slice Aa n ca] 34 (0, 0)) := (hb1'.block _ (by omega)).trans ((old_alloc _ _ _ (by simp)).trans (heap_alloc_new w _))
 have hbx1 : w1.heap[w.heap.size + 1]? = some (.cells #[.slice none 0 0, .slice none 0 0] 34 (0, 0)) := (hb1'.block _ (by omega)).trans (by simpa using heap_alloc_new (w.alloc (.cells #[.slice Ae n ce, .slice Aa n ca] 34)) (.cells #[.slice none 0 0, .slice none 0 0] 34))
 have hz1 := hb1'.size;rw [hsz0] at hz1;have hbw1 : Below w.heap.size w w1 := (((Below.refl w.heap.size w).alloc (Nat.le_refl _) _).alloc (by simp) _).trans (hb1'.mono (by omega))
 have hLL : LiveL m al := ⟨by rw [hal, HN.out.1], fun s hs => hall s (by rw [← HN.out.1]; exact hs)⟩
 have HLL := Lib.hid hLL;have HTB1 := Lib.hid htb1;have HB1 := Lib.hid hbw1;have HX0 := Lib.hid hbx0;have HX1 := Lib.hid hbx1;obtain ⟨y0, y1⟩ : w1.cell? ⟨w.heap.size, 0, none⟩ = some (.slice Ae n ce) ∧ w1.cell? ⟨w.heap.size, 1, none⟩ = some (.slice Aa n ca) := by constructor <;> (rw [cell_of_row _ _ _ _ _ _ hbx0]; rfl)
 have ly : w.heap.size < w1.heap.size := by omega
 clear htb1 hb1' hal hall hsz0 hbx0 hbx1 hbw1 hLL;go_wp2_with fail;refine (HCL.out w1 gT al HB1.out HLL.out HTB1.out).mono ?_;rintro e w2 ⟨gC, ds, rfl, hcl2, hb2', hdl, hds, hdlt⟩;obtain ⟨m', c, hX⟩ := smx_of HV.out HSM.out (by rw [HN.out.1]; exact h1) HLL.out (ds := ds) (fun s t hs ht => hds s t (by rw [← HN.out.1]; exact hs) (by rw [← HN.out.1]; exact ht)) (fun s => by rw [HN.out.1]; exact hdlt s)
 have HXX := Lib.hid hX;have hz2 := hb2'.size;have HC := Lib.hid (hcl2.mono (Nat.zero_le _));have hgC := hcl2.lt1;have HB2 := Lib.hid (HB1.out.trans (hb2'.mono (by omega)))
 have HTB2 := Lib.hid (HTB1.out.later hb2');have HX02 := Lib.hid ((hb2'.block _ (by omega)).trans HX0.out)
 have HX12 := Lib.hid ((hb2'.block _ (by omega)).trans HX1.out)
 have hgT2 : gT < w2.heap.size := (HTB2.out.cell (s := 0) (c := 0) (by omega) (by decide)).2.2
 have HDL := Lib.hid hdl;have hk0n : cF ds 0 < n := hdlt 0;obtain ⟨cc0, -⟩ := HC.out.cellC 0 (by rw [List.length_map, HDL.out]; omega)
 rw [clF_some (by rw [HDL.out]; omega)] at cc0
 have hc0 : c 0 = some (cF ds 0) := hX.c0;have hww2 := HB2.out.size;clear hcl2 hb2' hdl hds hX HTB1 HX0 HX1 y0 y1 ly HLL HTB HCL hgT hz1 hz2;obtain ⟨k0, hk0e⟩ : ∃ k, cF ds 0 = k := ⟨_, rfl⟩;rw [hk0e] at hk0n cc0 hc0;have HC0 := Lib.hid hc0;have hk0d : decide (k0 < n) = true := decide_eq_true hk0n;have h0n : decide (0 < n) = true := decide_eq_true (by omega)
 clear hk0e hc0;have cc1 : w2.cell? ⟨gC, 0, none⟩ = some (.int .i64 (k0 : Int)) := cc0;go_wp2_with fail;refine wp_named fun W3 hW3 => ?_;have hb3 : Below w2.heap.size w2 W3 := by rw [hW3]; exact (Below.refl _ _).alloc (Nat.le_refl _) _
 have hz3 : W3.heap.size = w2.heap.size + 1 := by rw [hW3]; simp
 have hnu3 : OR 3 1 clC w2.heap.size (.slice (some ⟨w2.heap.size, 0, none⟩) n n) (preN 0 n) W3 := by rw [hW3, preN_zero]; exact zeros_new w2 n (by omega)
 have HB3 := Lib.hid hb3;have HNU3 := Lib.hid hnu3;have HZ3 := Lib.hid hz3;clear hW3 hb3 hnu3 hz3 cc0
 go_loopw [6] (fun iv wr => ∃ k : Nat, k ≤ n ∧ iv = .int .i64 (k : Int) ∧ Hid (OR 3 1 clC w2.heap.size (.slice (some ⟨w2.heap.size, 0, none⟩) n n) (preN k n) wr) ∧ Hid (Below w2.heap.size w2 wr ∧ wr.heap.size = w2.heap.size + 1)) (fun iv _ => n - (intOf iv).toNat)
 case atStart => exact ⟨0, Nat.zero_le _, rfl, HNU3, HB3.out, HZ3.out⟩
 case round =>
  obtain ⟨k, hk, rfl, HNU, HBR⟩ := hrel;have hgy := HNU.out.lt1;by_cases hlt : k < n
  ·have hd : decide ((k : Int) < (n : Int)) = true := decide_eq_true (by omega)
   have hdn : decide (k < n) = true := decide_eq_true hlt;obtain ⟨y0, y1⟩ := HNU.out.cellC k (by rw [preN_len hk]; exact hlt)
   have hset := HNU.out.setC (preN_len hk) k none;rw [preN_set hlt] at hset;have HS2 := Lib.hid hset;have HB5 : Hid (Below w2.heap.size w2 (wr.setCell ⟨w2.heap.size, k, none⟩ (.int .i64 (-1))) ∧ (wr.setCell ⟨w2.heap.size, k, none⟩ (.int .i64 (-1))).heap.size = w2.heap.size + 1) := ⟨HBR.out.1.setCell (p := ⟨w2.heap.size, k, none⟩) (Nat.le_refl _) _, by simp [World.setCell, HBR.out.2]⟩
   clear hset;go_wp2_with fail;go_roundw
   case rel => exact ⟨k + 1, by omega, by go_num, HS2, HB5⟩
   case measure => simp [intOf]; omega
  ·obtain rfl : k = n := by omega
   have hd : decide ((k : Int) < (k : Int)) = false := decide_eq_false (by omega)
   have hdn : decide (k < k) = false := decide_eq_false (by omega)
   obtain ⟨y0, y1⟩ := HNU.out.cellC k0 (by rw [preN_len hk]; exact hk0n)
   have cc2 : wr.cell? ⟨gC, 0, none⟩ = some (.int .i64 (k0 : Int)) := (HBR.out.1.cell (p := ⟨gC, 0, none⟩) hgC).trans cc1;have lC : gC < wr.heap.size := by have := HBR.out.2; omega
   have hset := HNU.out.setC (preN_len hk) k0 (some 0);rw [preN_all c, nuL_first hk0n HC0.out] at hset;have HS2 := Lib.hid hset;have HB5 : Hid (Below w2.heap.size w2 (wr.setCell ⟨w2.heap.size, k0, none⟩ (.int .i64 0)) ∧ (wr.setCell ⟨w2.heap.size, k0, none⟩ (.int .i64 0)).heap.size = w2.heap.size + 1) := ⟨HBR.out.1.setCell (p := ⟨w2.heap.size, k0, none⟩) (Nat.le_refl _) _, by simp [World.setCell, HBR.out.2]⟩
   clear hset;go_wp2_with fail;refine wp_named fun W hW => ?_;have hsz5 : (wr.setCell ⟨w2.heap.size, k0, none⟩ (.int .i64 0)).heap.size = wr.heap.size := by simp [World.setCell]
   have hNW : W.heap[wr.heap.size + 1]? = some (.cells #[.slice none 0 0, .slice none 0 0] 34 (0, 0)) := by
    rw [hW];have := heap_alloc_new ((wr.setCell ⟨w2.heap.size, k0, none⟩ (.int .i64 0)).alloc (.cells #[.int .i64 0] 3)) (.cells #[.slice none 0 0, .slice none 0 0] 34);simpa [World.setCell] using this
   have hst0 : OR 3 1 clC wr.heap.size (.slice (some ⟨wr.heap.size, 0, none⟩) 1 1) [some 0] W := by
    rw [hW];have h9 := zeros_new (wr.setCell ⟨w2.heap.size, k0, none⟩ (.int .i64 0)) 1 (by omega)
    rw [hsz5] at h9;exact OR.later h9 ((Below.refl _ _).alloc (by simp [World.setCell]) _)
   have hb5 : Below wr.heap.size (wr.setCell ⟨w2.heap.size, k0, none⟩ (.int .i64 0)) W := by rw [hW]; exact ((Below.refl _ _).alloc (by rw [hsz5]; exact Nat.le_refl _) _).alloc (by simp [World.setCell]) _
   obtain ⟨zl, hzl⟩ : ∃ z, wr.heap.size = z := ⟨_, rfl⟩;have hzl2 : zl = w2.heap.size + 1 := by rw [← hzl]; exact HBR.out.2
   rw [hzl] at hNW hst0 hb5 hsz5 ⊢;have hL0 : SmS m' c w2.heap.size (zl + 1) w2.heap.size k 0 (.slice none 0 0) [] [] (.slice none 0 0) (.slice none 0 0) [] [] [] 0 [0] (.slice (some ⟨zl, 0, none⟩) 1 1) W := by
    refine ⟨⟨hNW, by omega, World.ownsRow_nil _ _ _ _, fun i hi => (by cases hi), OR.nil_ _ _ _, fun k hk hx => ?_⟩, HS2.out.later (show Below (wr.setCell ⟨w2.heap.size, k0, none⟩ (.int .i64 0)).heap.size (wr.setCell ⟨w2.heap.size, k0, none⟩ (.int .i64 0)) W by rw [hsz5]; exact hb5), OR.mono hst0 (show w2.heap.size ≤ zl by omega), fun e => by have e2 : zl = w2.heap.size := Option.some.inj e; omega, OR.nil_ _ _ _, LeI.start (by rw [HC0.out]; simp) (by rw [HXX.out.len, HN.out.1]; omega), rfl⟩
    have h1 : k = zl + 1 := by rcases mem_fpM.1 hk with h | h | h; exact h; cases h; cases h
    rcases List.mem_cons.1 hx with h | h
    ·omega
    ·simp [blk, Value.ownBlock] at h; omega
   have HL0 := Lib.hid hL0;have HBW := Lib.hid (HB5.out.1.trans (hb5.mono (by omega)))
   obtain ⟨n, hkn⟩ : ∃ n, k = n := ⟨_, rfl⟩;subst hkn;have HZL := Lib.hid hzl2;clear hzl2;clear hW hNW hst0 hb5 hsz5 hL0 hzl cc1 cc2 lC y0 y1 HB5 HS2 HNU hgy HBR hd hdn hlt
   go_loopw [9, 7] (fun iv vst wr => ∃ (i : Nat) (st : List Nat) (rs : List (List Ed)) (acs : List Bool) (vE vA : Value) (gv : List Value) (t : Nat), iv = .int .i64 (i : Int) ∧ i ≤ k ∧ Hid (SmS m' c w2.heap.size (zl + 1) w2.heap.size k i (.slice none 0 0) rs acs vE vA gv [] [] t st vst wr) ∧ Hid (Below w2.heap.size w2 wr)) (fun iv _ _ => k - (intOf iv).toNat)
   case atStart => exact ⟨0, [0], [], [], _, _, [], 0, rfl, Nat.zero_le _, HL0, HBW⟩
   case round =>
    obtain ⟨i, st, rs, acs, vE, vA, gv, t, rfl, hin, HL, HB⟩ := hrel;obtain ⟨nst, hnst⟩ : ∃ x, st.length = x := ⟨_, rfl⟩;have hnk : nst ≤ k := by have := HL.out.le.nodup; rw [HXX.out.len, HN.out.1] at this; omega
    have hil := HL.out.le.il;have hown := HL.out.own;rw [hnst] at hown hil;obtain ⟨Ast, cst, rfl, -, -⟩ := own_form hown;have HNST := Lib.hid hnst;clear hnst;by_cases hlt : i < nst
    ·have hd : decide ((i : Int) < (nst : Int)) = true := decide_eq_true (by omega)
     have hdn : decide (i < nst) = true := decide_eq_true hlt;obtain ⟨gs, rfl, hgs, lgs, hgc⟩ := own_at1 hown (by omega)
     obtain ⟨s, hs⟩ : ∃ s, st[i]? = some s := ⟨_, List.getElem?_eq_getElem (by rw [HNST.out]; exact hlt)⟩
     have xst : wr.cell? ⟨gs, i, none⟩ = some (.int .i64 (s : Int)) := by rw [hgc i hlt]; unfold ints; rw [List.getElem?_map, hs]; rfl
     obtain ⟨hsn', hscn⟩ := HL.out.le.lv s (List.mem_of_getElem? hs);have hsn : s < k := by rw [HXX.out.len, HN.out.1] at hsn'; exact hsn'
     have HS := Lib.hid (And.intro hs hscn);have HIT := Lib.hid (show i ≤ t by have h9 : t + 1 = st.length := HL.out.le.top; have := HNST.out; omega)
     have hrow0 : RowB (fun x => (trn (rowM m' s) x).bind c) 0 [] := RowB.start _;have HL1 := Lib.hid HL.out.nil_;have hsd : decide (s < k) = true := decide_eq_true hsn;clear hs hscn hsn' hgc hown;go_wp2_with fail
     go_loopw [12, 7, 11] (fun bv vst lv wr => ∃ (b : Nat) (st' : List Nat) (p : List Ed) (Al : Option Addr) (cl : Nat), b ≤ 256 ∧ bv = .int .i64 (b : Int) ∧ lv = .slice Al p.length cl ∧ Hid (SmS m' c w2.heap.size (zl + 1) w2.heap.size k i lv rs acs vE vA gv p p t st' vst wr) ∧ Hid (RowB (fun x => (trn (rowM m' s) x).bind c) b p ∧ (∃ more, st' = st ++ more) ∧ Below w2.heap.size w2 wr)) (fun bv _ _ _ => 256 - (intOf bv).toNat)
     case atStart => exact ⟨0, st, [], none, 0, by omega, rfl, rfl, HL1, hrow0, ⟨[], by simp⟩, HB.out⟩
     case round =>
      obtain ⟨b, st', p, Al, cl, hb, rfl, rfl, HK, HR⟩ := hrel;obtain ⟨ns2, hns2⟩ : ∃ x, st'.length = x := ⟨_, rfl⟩;have hnk2 : ns2 ≤ k := by have := HK.out.le.nodup; rw [HXX.out.len, HN.out.1] at this; omega
      have hown := HK.out.own;rw [hns2] at hown;obtain ⟨As2, cst2, rfl, -, -⟩ := own_form hown;obtain ⟨nl, hnl⟩ : ∃ x, p.length = x := ⟨_, rfl⟩;rw [hnl] at HK ⊢;have hnl2 : nl ≤ b := by rw [← hnl]; exact HR.out.1.len
      have HNS := Lib.hid hns2;have HNL := Lib.hid hnl;clear hns2 hnl;by_cases hbl : b < 256
      ·have hdb : decide ((b : Int) < 256) = true := decide_eq_true (by omega)
       have hdbn : decide (b < 256) = true := decide_eq_true hbl;have hbu : IntKind.u8.wrap (b : Int) = (b : Int) := IntWalk.u8_in _ (by omega)
       have hgn := HK.out.gnlt;have hbw := HR.out.2.2.size;have tc0 : wr.cell? ⟨gT, s * 256 + b, none⟩ = some (.int .i64 (tbF m al s b)) := (World.cell?_of_block (a := ⟨gT, s * 256 + b, none⟩) (HR.out.2.2.block gT hgT2)).trans (HTB2.out.cell hsn hbl).1;have lT : gT < wr.heap.size := by omega
       have hstep := HXX.out.stp s (by rw [HN.out.1]; exact hsn) HS.out.2 b hbl
       cases hT : (trn (rowM m' s) b).bind c with
       | none =>
        rw [hT] at hstep;have hstep : tbF m al s b = -1 := hstep;rw [hstep] at tc0;have HR2 : Hid (RowB (fun x => (trn (rowM m' s) x).bind c) (b + 1) p ∧ (∃ more, st' = st ++ more) ∧ Below w2.heap.size w2 wr) := ⟨HR.out.1.none_ hT, HR.out.2⟩;clear hstep hT hown;go_wp2_with fail;go_roundw
        case rel => exact ⟨b + 1, st', p, Al, cl, by omega, by go_num, by rw [HNL.out], HK, HR2⟩
        case measure => simp [intOf]; omega
       | some kc =>
        rw [hT] at hstep;obtain ⟨tt, ht1, ht2, ht3, ht4⟩ := hstep;rw [ht1] at tc0;rw [HN.out.1] at ht2;have htd : decide (tt < k) = true := decide_eq_true ht2;obtain ⟨cc0, -⟩ := HC.out.cellC tt (by rw [List.length_map, HDL.out]; exact ht2)
        rw [clF_some (by rw [HDL.out]; exact ht2), ht4] at cc0
        have cc1 : wr.cell? ⟨gC, tt, none⟩ = some (.int .i64 (kc : Int)) := (HR.out.2.2.cell (p := ⟨gC, tt, none⟩) hgC).trans cc0;have lC : gC < wr.heap.size := by omega
        have hkk : kc < k := by rw [← HN.out.1]; exact HXX.out.kl tt kc ht3
        have hkd : decide (kc < k) = true := decide_eq_true hkk;obtain ⟨z0, z1⟩ := HK.out.nu.cellC kc (by rw [nuL_len]; exact hkk)
        rw [nuL_at hkk] at z0;have lg : w2.heap.size < wr.heap.size := hgn.2;have HT := Lib.hid hT;have HTT := Lib.hid (And.intro ht2 ht3);have hdt0 : decide ((tt : Int) < 0) = false := decide_eq_false (by omega)
        clear cc0 ht1 ht3 ht4 hT hown hgn;by_cases hkn : some kc ∈ st'.map c
        ·rw [if_pos hkn] at z0;have z2 : wr.cell? ⟨w2.heap.size, kc, none⟩ = some (.int .i64 ((numC c st' kc : Nat) : Int)) := z0;obtain ⟨nu, hnu⟩ : ∃ x, numC c st' kc = x := ⟨_, rfl⟩;rw [hnu] at z2;have hdn0 : decide ((nu : Int) < 0) = false := decide_eq_false (by omega)
         have HKN := Lib.hid (And.intro hkn hnu);clear z0 hkn hnu;rcases List.eq_nil_or_concat p with hp | ⟨q, f, hp⟩
         ·subst hp;have HZ := Lib.hid (show nl = 0 by rw [← HNL.out]; rfl)
          have HKA := Lib.hid (HK.out.to (HK.out.le.old ⟨b, b, kc⟩ HKN.out.1));have HBA := Lib.hid HR.out.2.2;have HKM := Lib.hid HKN.out.1;have HNU := Lib.hid HKN.out.2;have t0 : decide (0 < (nl : Int)) = false := decide_eq_false (by have := HZ.out; omega)
          have t0n : decide (0 < nl) = false := decide_eq_false (by have := HZ.out; omega)
          go_wp2_with fail;refine wp_region_below (Below.refl wr.heap.size wr) (by kernel_rfl) (by kernel_rfl) ?_
          repeat (go_big_quiet_step (fail))
          refine wpQuiet_nil ?_;intro w6 hw';have hw6 : Below wr.heap.size wr w6 := by obtain ⟨d9, rfl⟩ := hw'; exact d9.property
          have HK6 := Lib.hid (HKA.out.later hw6);have HB6 := Lib.hid (HBA.out.trans (hw6.mono HBA.out.size));have z6 : w6.cell? ⟨w2.heap.size, kc, none⟩ = some (.int .i64 (nu : Int)) := HK6.out.num hkk HKM.out HNU.out;have l6 : w2.heap.size < w6.heap.size := HK6.out.gnlt.2;have hown6 := HK6.out.row6 (b := b) (nu := nu) HNL.out (.cells #[.int .u8 (b : Int), .int .u8 (b : Int), .int .i64 (nu : Int)] 58);obtain ⟨ro, hro⟩ : ∃ r, rowF edC (renE (numC c st') ([])) = r := ⟨_, rfl⟩;rw [hro] at hown6;have HRO := Lib.hid hro;have hcx : ∀ j u, [Value.int .u8 (b : Int), .int .u8 (b : Int), .int .i64 (nu : Int)][j]? = some u → (w6.alloc (.cells #[.int .u8 (b : Int), .int .u8 (b : Int), .int .i64 (nu : Int)] 58)).cell? ((⟨w6.heap.size, 0, none⟩ : Addr).add j) = some u := by
           intro j u hj;rw [Addr.add_lit, Nat.zero_add, World.cell?_alloc_mark];simpa using hj
          have hbz : w2.heap.size ≤ (w6.alloc (.cells #[.int .u8 (b : Int), .int .u8 (b : Int), .int .i64 (nu : Int)] 58)).heap.size := by simp; omega
          clear hw' hw6 hro;go_wp2_with (at_builtin; refine appI_at rfl _ _ 53 rfl w2.heap.size 58 ie _ 3 16 Tryz.underlying53 hie hk0 hk1 hk2 rfl (by decide) _ nl ro rfl hown6 ⟨w6.heap.size, 0, none⟩ 1 1 [.int .u8 (b : Int), .int .u8 (b : Int), .int .i64 (nu : Int)] rfl rfl hcx (by intro u hu; simp only [List.mem_cons, List.not_mem_nil, or_false] at hu; rcases hu with rfl | rfl | rfl <;> rfl) (by unfold maxLen; omega) (by omega) hbz ?_)
          intro v9 w9 hown9 hg9 hf9;have hs9 : (w6.alloc (.cells #[.int .u8 (b : Int), .int .u8 (b : Int), .int .i64 (nu : Int)] 58)).heap.size = w6.heap.size + 1 := by simp
          have hf9' : Fresh v9 (.slice Al nl cl) (w6.alloc (.cells #[.int .u8 (b : Int), .int .u8 (b : Int), .int .i64 (nu : Int)] 58)).heap.size := by first | exact hf9 | (rw [hs9]; exact hf9)
          obtain ⟨hk9, hb9⟩ := HK6.out.app1 (b := b) HNL.out HNU.out HRO.out hown9 hg9 hf9';obtain ⟨A9, c9, rfl, -, -⟩ := own_form hown9;have HK9 := Lib.hid hk9;have HR9 := Lib.hid (And.intro (HR.out.1.app HT.out (nil_ne)) (And.intro (show ∃ more, st' = st ++ more from HR.out.2.1) (HB6.out.trans hb9)));clear hown9 hg9 hf9 hf9' hs9 hk9 hb9 hown6 hcx hbz z6 l6;go_wp2_with fail;go_roundw
          case rel => exact ⟨b + 1, st', [] ++ [⟨b, b, kc⟩], A9, c9, by omega, by go_num, by rw [List.length_append, HNL.out]; rfl, HK9, HR9⟩
          case measure => simp [intOf]; omega
         ·rw [List.concat_eq_append] at hp;subst hp;obtain ⟨nq, hnq⟩ : ∃ x, q.length = x := ⟨_, rfl⟩;have HNQ := Lib.hid (And.intro hnq (show nq + 1 = nl by rw [← HNL.out, ← hnq]; simp))
          obtain ⟨gl, rfl, ⟨x1, x2⟩, x3, lgl, hglB⟩ := HK.out.lastE hnq;obtain ⟨nf, hnf⟩ : ∃ x, numC c st' f.to = x := ⟨_, rfl⟩;obtain ⟨fh, hfh⟩ : ∃ x, f.hi = x := ⟨_, rfl⟩;rw [hnf] at x2;rw [hfh] at x1;have HF := Lib.hid (And.intro hfh (show fh < 256 by have := HR.out.1.hi f (by simp); omega))
          have HNF := Lib.hid hnf;have hfm : some f.to ∈ st'.map c := HK.out.le.ptg f (by simp)
          clear hnq hnf hfh;have HKA := Lib.hid (HK.out.to (HK.out.le.old ⟨b, b, kc⟩ HKN.out.1));have HBA := Lib.hid HR.out.2.2;have HKM := Lib.hid HKN.out.1;have HNU := Lib.hid HKN.out.2;have t0 : decide (0 < (nl : Int)) = true := decide_eq_true (by have := HNQ.out.2; omega)
          have t0n : decide (0 < nl) = true := decide_eq_true (by have := HNQ.out.2; omega)
          have t1 : IntKind.i64.wrap ((nl : Int) - 1) = (nq : Int) := by rw [IntWalk.i64_in _ (by have := HNQ.out.2; omega)]; have := HNQ.out.2; omega
          have t1n : (nl : Int) - 1 = (nq : Int) := by have := HNQ.out.2; omega
          have t2 : decide (nq < nl) = true := decide_eq_true (by have := HNQ.out.2; omega)
          have d0 : ∀ d : BelT wr.heap.size wr, d.val.cell? ⟨w2.heap.size, kc, none⟩ = some (.int .i64 (nu : Int)) := fun d => (d.property.cell (p := ⟨w2.heap.size, kc, none⟩) lg).trans z2;have d1 : ∀ d : BelT wr.heap.size wr, w2.heap.size < d.val.heap.size := fun d => Nat.lt_of_lt_of_le lg d.property.size;have d2 : ∀ d : BelT wr.heap.size wr, d.val.cell? ⟨gl, nq * 3 + 1, none⟩ = some (.int .u8 (fh : Int)) := fun d => (d.property.cell (p := ⟨gl, nq * 3 + 1, none⟩) lgl).trans x1;have d3 : ∀ d : BelT wr.heap.size wr, d.val.cell? ⟨gl, nq * 3 + 2, none⟩ = some (.int .i64 (nf : Int)) := fun d => (d.property.cell (p := ⟨gl, nq * 3 + 2, none⟩) lgl).trans x2;have d4 : ∀ d : BelT wr.heap.size wr, gl < d.val.heap.size := fun d => Nat.lt_of_lt_of_le lgl d.property.size;have t5 : IntKind.i64.wrap (fh : Int) = (fh : Int) := IntWalk.i64_in _ (by have := HF.out.2; omega)
          have t6 : IntKind.i64.wrap ((b : Int) - 1) = (b : Int) - 1 := IntWalk.i64_in _ (by omega)
          by_cases hnn : nf = nu
          ·have t3 : ((nf : Int) == (nu : Int)) = true := by subst hnn; simp
           have hfk : f.to = kc := numC_inj hfm HKN.out.1 (by rw [HNF.out, hnn, HKN.out.2])
           by_cases hfb : fh + 1 = b
           ·have t4 : ((fh : Int) == (b : Int) - 1) = true := by simp; omega
            have HFE := Lib.hid (And.intro hfk hfb);have HX3 := Lib.hid hglB;clear hfk hnn hfm hglB;go_wp2_with fail;refine wp_region_below (Below.refl wr.heap.size wr) (by kernel_rfl) (by kernel_rfl) ?_
            repeat (go_big_quiet_step (fail))
            refine wpQuiet_nil ?_;intro w6 hw';have hw6 : Below wr.heap.size wr w6 := by obtain ⟨d9, rfl⟩ := hw'; exact d9.property
            have HK6 := Lib.hid (HK.out.later hw6);have HB6 := Lib.hid (HR.out.2.2.trans (hw6.mono HR.out.2.2.size));have y3 : w6.frozen? ⟨gl, nq * 3 + 1, none⟩ = false := (hw6.frozen (p := ⟨gl, nq * 3 + 1, none⟩) lgl).trans x3;have y1 : w6.cell? ⟨gl, nq * 3 + 1, none⟩ = some (.int .u8 (fh : Int)) := (hw6.cell (p := ⟨gl, nq * 3 + 1, none⟩) lgl).trans x1;have l6 : gl < w6.heap.size := Nat.lt_of_lt_of_le lgl hw6.size;obtain ⟨hk9, hb9⟩ := HK6.out.set1 (b := b) HNQ.out.1 HNQ.out.2 HX3.out;have HK9 := Lib.hid hk9;have HR9 := Lib.hid (And.intro (HR.out.1.ext (by rw [HF.out.1]; exact HFE.out.2) (by rw [HT.out, HFE.out.1])) (And.intro HR.out.2.1 (HB6.out.trans hb9)))
            clear hw' hw6 hk9 hb9 x1 x2 x3 z2 d0 d1 d2 d3 d4;go_wp2_with fail;go_roundw
            case rel => exact ⟨b + 1, st', q ++ [⟨f.lo, b, f.to⟩], some ⟨gl, 0, none⟩, cl, by omega, by go_num, by rw [List.length_append, HNQ.out.1, ← HNQ.out.2]; rfl, HK9, HR9⟩
            case measure => simp [intOf]; omega
           ·have t4 : ((fh : Int) == (b : Int) - 1) = false := by simp; omega
            have HFN := Lib.hid hfb;clear hnn hfm hfk hfb;go_wp2_with fail;refine wp_region_below (Below.refl wr.heap.size wr) (by kernel_rfl) (by kernel_rfl) ?_
            repeat (go_big_quiet_step (fail))
            refine wpQuiet_nil ?_;intro w6 hw';have hw6 : Below wr.heap.size wr w6 := by obtain ⟨d9, rfl⟩ := hw'; exact d9.property
            have HK6 := Lib.hid (HKA.out.later hw6);have HB6 := Lib.hid (HBA.out.trans (hw6.mono HBA.out.size));have z6 : w6.cell? ⟨w2.heap.size, kc, none⟩ = some (.int .i64 (nu : Int)) := HK6.out.num hkk HKM.out HNU.out;have l6 : w2.heap.size < w6.heap.size := HK6.out.gnlt.2;have hown6 := HK6.out.row6 (b := b) (nu := nu) HNL.out (.cells #[.int .u8 (b : Int), .int .u8 (b : Int), .int .i64 (nu : Int)] 58);obtain ⟨ro, hro⟩ : ∃ r, rowF edC (renE (numC c st') ((q ++ [f]))) = r := ⟨_, rfl⟩;rw [hro] at hown6;have HRO := Lib.hid hro;have hcx : ∀ j u, [Value.int .u8 (b : Int), .int .u8 (b : Int), .int .i64 (nu : Int)][j]? = some u → (w6.alloc (.cells #[.int .u8 (b : Int), .int .u8 (b : Int), .int .i64 (nu : Int)] 58)).cell? ((⟨w6.heap.size, 0, none⟩ : Addr).add j) = some u := by
             intro j u hj;rw [Addr.add_lit, Nat.zero_add, World.cell?_alloc_mark];simpa using hj
            have hbz : w2.heap.size ≤ (w6.alloc (.cells #[.int .u8 (b : Int), .int .u8 (b : Int), .int .i64 (nu : Int)] 58)).heap.size := by simp; omega
            clear hw' hw6 hro d0 d1 d2 d3 d4 x1 x2 x3 z2;go_wp2_with (at_builtin; refine appI_at rfl _ _ 53 rfl w2.heap.size 58 ie _ 3 16 Tryz.underlying53 hie hk0 hk1 hk2 rfl (by decide) _ nl ro rfl hown6 ⟨w6.heap.size, 0, none⟩ 1 1 [.int .u8 (b : Int), .int .u8 (b : Int), .int .i64 (nu : Int)] rfl rfl hcx (by intro u hu; simp only [List.mem_cons, List.not_mem_nil, or_false] at hu; rcases hu with rfl | rfl | rfl <;> rfl) (by unfold maxLen; omega) (by omega) hbz ?_)
            intro v9 w9 hown9 hg9 hf9;have hs9 : (w6.alloc (.cells #[.int .u8 (b : Int), .int .u8 (b : Int), .int .i64 (nu : Int)] 58)).heap.size = w6.heap.size + 1 := by simp
            have hf9' : Fresh v9 (.slice (some ⟨gl, 0, none⟩) nl cl) (w6.alloc (.cells #[.int .u8 (b : Int), .int .u8 (b : Int), .int .i64 (nu : Int)] 58)).heap.size := by first | exact hf9 | (rw [hs9]; exact hf9)
            obtain ⟨hk9, hb9⟩ := HK6.out.app1 (b := b) HNL.out HNU.out HRO.out hown9 hg9 hf9';obtain ⟨A9, c9, rfl, -, -⟩ := own_form hown9;have HK9 := Lib.hid hk9;have HR9 := Lib.hid (And.intro (HR.out.1.app HT.out (snoc_ne (fun h => HFN.out (by rw [← HF.out.1]; exact h.1)))) (And.intro (show ∃ more, st' = st ++ more from HR.out.2.1) (HB6.out.trans hb9)))
            clear hown9 hg9 hf9 hf9' hs9 hk9 hb9 hown6 hcx hbz z6 l6;go_wp2_with fail;go_roundw
            case rel => exact ⟨b + 1, st', (q ++ [f]) ++ [⟨b, b, kc⟩], A9, c9, by omega, by go_num, by rw [List.length_append, HNL.out]; rfl, HK9, HR9⟩
            case measure => simp [intOf]; omega
          ·have t3 : ((nf : Int) == (nu : Int)) = false := by simp; omega
           have HFN := Lib.hid hnn;clear hnn hfm;go_wp2_with fail;refine wp_region_below (Below.refl wr.heap.size wr) (by kernel_rfl) (by kernel_rfl) ?_
           repeat (go_big_quiet_step (fail))
           refine wpQuiet_nil ?_;intro w6 hw';have hw6 : Below wr.heap.size wr w6 := by obtain ⟨d9, rfl⟩ := hw'; exact d9.property
           have HK6 := Lib.hid (HKA.out.later hw6);have HB6 := Lib.hid (HBA.out.trans (hw6.mono HBA.out.size));have z6 : w6.cell? ⟨w2.heap.size, kc, none⟩ = some (.int .i64 (nu : Int)) := HK6.out.num hkk HKM.out HNU.out;have l6 : w2.heap.size < w6.heap.size := HK6.out.gnlt.2;have hown6 := HK6.out.row6 (b := b) (nu := nu) HNL.out (.cells #[.int .u8 (b : Int), .int .u8 (b : Int), .int .i64 (nu : Int)] 58);obtain ⟨ro, hro⟩ : ∃ r, rowF edC (renE (numC c st') ((q ++ [f]))) = r := ⟨_, rfl⟩;rw [hro] at hown6;have HRO := Lib.hid hro;have hcx : ∀ j u, [Value.int .u8 (b : Int), .int .u8 (b : Int), .int .i64 (nu : Int)][j]? = some u → (w6.alloc (.cells #[.int .u8 (b : Int), .int .u8 (b : Int), .int .i64 (nu : Int)] 58)).cell? ((⟨w6.heap.size, 0, none⟩ : Addr).add j) = some u := by
            intro j u hj;rw [Addr.add_lit, Nat.zero_add, World.cell?_alloc_mark];simpa using hj
           have hbz : w2.heap.size ≤ (w6.alloc (.cells #[.int .u8 (b : Int), .int .u8 (b : Int), .int .i64 (nu : Int)] 58)).heap.size := by simp; omega
           clear hw' hw6 hro d0 d1 d2 d3 d4 x1 x2 x3 z2;go_wp2_with (at_builtin; refine appI_at rfl _ _ 53 rfl w2.heap.size 58 ie _ 3 16 Tryz.underlying53 hie hk0 hk1 hk2 rfl (by decide) _ nl ro rfl hown6 ⟨w6.heap.size, 0, none⟩ 1 1 [.int .u8 (b : Int), .int .u8 (b : Int), .int .i64 (nu : Int)] rfl rfl hcx (by intro u hu; simp only [List.mem_cons, List.not_mem_nil, or_false] at hu; rcases hu with rfl | rfl | rfl <;> rfl) (by unfold maxLen; omega) (by omega) hbz ?_)
           intro v9 w9 hown9 hg9 hf9;have hs9 : (w6.alloc (.cells #[.int .u8 (b : Int), .int .u8 (b : Int), .int .i64 (nu : Int)] 58)).heap.size = w6.heap.size + 1 := by simp
           have hf9' : Fresh v9 (.slice (some ⟨gl, 0, none⟩) nl cl) (w6.alloc (.cells #[.int .u8 (b : Int), .int .u8 (b : Int), .int .i64 (nu : Int)] 58)).heap.size := by first | exact hf9 | (rw [hs9]; exact hf9)
           obtain ⟨hk9, hb9⟩ := HK6.out.app1 (b := b) HNL.out HNU.out HRO.out hown9 hg9 hf9';obtain ⟨A9, c9, rfl, -, -⟩ := own_form hown9;have HK9 := Lib.hid hk9;have HR9 := Lib.hid (And.intro (HR.out.1.app HT.out (snoc_ne (fun h => HFN.out (by rw [← HNF.out, ← HKN.out.2, h.2])))) (And.intro (show ∃ more, st' = st ++ more from HR.out.2.1) (HB6.out.trans hb9)))
           clear hown9 hg9 hf9 hf9' hs9 hk9 hb9 hown6 hcx hbz z6 l6;go_wp2_with fail;go_roundw
           case rel => exact ⟨b + 1, st', (q ++ [f]) ++ [⟨b, b, kc⟩], A9, c9, by omega, by go_num, by rw [List.length_append, HNL.out]; rfl, HK9, HR9⟩
           case measure => simp [intOf]; omega
        ·rw [if_neg hkn] at z0;have zm : wr.cell? ⟨w2.heap.size, kc, none⟩ = some (.int .i64 (-1)) := z0;have HKN := Lib.hid hkn;have HTT9 := Lib.hid (And.intro (show tt < m'.ed.length by rw [HXX.out.len, HN.out.1]; exact HTT.out.1) HTT.out.2)
         clear hkn;rcases List.eq_nil_or_concat p with hp | ⟨q, f, hp⟩
         ·subst hp;have HZ := Lib.hid (show nl = 0 by rw [← HNL.out]; rfl)
          have t0 : decide (0 < (nl : Int)) = false := decide_eq_false (by have := HZ.out; omega)
          have t0n : decide (0 < nl) = false := decide_eq_false (by have := HZ.out; omega)
          have hns : ns2 < k := by
           have h9 := (HK.out.le.new ⟨b, b, kc⟩ tt HKN.out HTT9.out.1 HTT9.out.2).1.nodup;rw [HXX.out.len, HN.out.1, List.length_append, HNS.out] at h9;exact h9
          have hb2 : Below (wr.setCell ⟨w2.heap.size, kc, none⟩ (.int .i64 (ns2 : Int))).heap.size (wr.setCell ⟨w2.heap.size, kc, none⟩ (.int .i64 (ns2 : Int))) ((wr.setCell ⟨w2.heap.size, kc, none⟩ (.int .i64 (ns2 : Int))).alloc (.cells #[.int .i64 (tt : Int)] 3)) := (Below.refl _ _).alloc (Nat.le_refl _) _;have hsz : (wr.setCell ⟨w2.heap.size, kc, none⟩ (.int .i64 (ns2 : Int))).heap.size = wr.heap.size := by simp [World.setCell]
          have hownA : ((wr.setCell ⟨w2.heap.size, kc, none⟩ (.int .i64 (ns2 : Int))).alloc (.cells #[.int .i64 (tt : Int)] 3)).ownsRow w2.heap.size 3 1 (.slice As2 ns2 cst2) ns2 (ints st') := by
           have h := HK.out.own;rw [HNS.out] at h;exact World.ownsRow.alloc (own_same h fun g hg => Below.heap_setCell _ _ _ _ (fun e => HK.out.ap (by rw [hg, show g = w2.heap.size from e]))) _
          have hcz : ∀ j u, ([.int .i64 (tt : Int)] : List Value)[j]? = some u → ((wr.setCell ⟨w2.heap.size, kc, none⟩ (.int .i64 (ns2 : Int))).alloc (.cells #[.int .i64 (tt : Int)] 3)).cell? ((⟨wr.heap.size, 0, none⟩ : Addr).add j) = some u := fun j u hj => by
           match j, hj with
           | 0, hj =>
            simp at hj;have h9 := heap_alloc_new (wr.setCell ⟨w2.heap.size, kc, none⟩ (.int .i64 (ns2 : Int))) (.cells #[.int .i64 (tt : Int)] 3);rw [hsz] at h9;rw [← hj, Addr.add_lit, cell_of_row _ _ _ _ _ _ h9]; rfl
          have hbx : w2.heap.size ≤ ((wr.setCell ⟨w2.heap.size, kc, none⟩ (.int .i64 (ns2 : Int))).alloc (.cells #[.int .i64 (tt : Int)] 3)).heap.size := by simp [World.setCell]; omega
          have HBN := Lib.hid (And.intro hb2 hsz);have hneT : gT ≠ w2.heap.size := by omega
          have hneT2 : ¬ w2.heap.size = gT := by omega
          have hdn0 : decide ((-1 : Int) < 0) = true := by decide
          clear hb2 hsz;go_wp2_with (at_builtin; refine appI_at rfl _ _ 22 rfl w2.heap.size 3 ii _ 1 8 Tryz.underlying22 hii hj0 hj1 hj2 rfl (by decide) _ ns2 (ints st') rfl hownA ⟨wr.heap.size, 0, none⟩ 1 1 [.int .i64 (tt : Int)] rfl rfl hcz (by intro u hu; simp at hu; subst hu; rfl) (by unfold maxLen; omega) (by omega) hbx ?_)
          intro vst4 w4 hown4 hg4 hf4;have hs4 : ((wr.setCell ⟨w2.heap.size, kc, none⟩ (.int .i64 (ns2 : Int))).alloc (.cells #[.int .i64 (tt : Int)] 3)).heap.size = wr.heap.size + 1 := by simp [World.setCell]
          have hf4' : Fresh vst4 (.slice As2 ns2 cst2) ((wr.setCell ⟨w2.heap.size, kc, none⟩ (.int .i64 (ns2 : Int))).alloc (.cells #[.int .i64 (tt : Int)] 3)).heap.size := by first | exact hf4 | (rw [hs4]; exact hf4)
          obtain ⟨hk4, hnum, hb4⟩ := HK.out.meet1 (b := b) HNS.out hkk HTT9.out.1 HTT9.out.2 HKN.out (by rw [← HBN.out.2]; exact HBN.out.1) hg4 hown4 hf4'
          obtain ⟨A4, c4, rfl, -, -⟩ := own_form hown4;have hkm : some kc ∈ (st' ++ [tt]).map c := by rw [List.map_append]; exact List.mem_append_right _ (by simp [HTT9.out.2])
          have z2 : w4.cell? ⟨w2.heap.size, kc, none⟩ = some (.int .i64 (ns2 : Int)) := hk4.num hkk hkm hnum;have lg4 : w2.heap.size < w4.heap.size := hk4.gnlt.2;have HKA := Lib.hid hk4;have HBA := Lib.hid (HR.out.2.2.trans hb4);have HKM := Lib.hid hkm;have HNU := Lib.hid hnum;clear hown4 hg4 hf4 hf4' hs4 hk4 hnum hb4 hkm hownA hcz hbx z0 z1 zm lg;have lg := lg4;clear lg4;go_wp2_with fail;refine wp_region_below (Below.refl w4.heap.size w4) (by kernel_rfl) (by kernel_rfl) ?_
          repeat (go_big_quiet_step (fail))
          refine wpQuiet_nil ?_;intro w6 hw';have hw6 : Below w4.heap.size w4 w6 := by obtain ⟨d9, rfl⟩ := hw'; exact d9.property
          have HK6 := Lib.hid (HKA.out.later hw6);have HB6 := Lib.hid (HBA.out.trans (hw6.mono HBA.out.size));have z6 : w6.cell? ⟨w2.heap.size, kc, none⟩ = some (.int .i64 (ns2 : Int)) := HK6.out.num hkk HKM.out HNU.out;have l6 : w2.heap.size < w6.heap.size := HK6.out.gnlt.2;have hown6 := HK6.out.row6 (b := b) (nu := ns2) HNL.out (.cells #[.int .u8 (b : Int), .int .u8 (b : Int), .int .i64 (ns2 : Int)] 58);obtain ⟨ro, hro⟩ : ∃ r, rowF edC (renE (numC c (st' ++ [tt])) ([])) = r := ⟨_, rfl⟩;rw [hro] at hown6;have HRO := Lib.hid hro;have hcx : ∀ j u, [Value.int .u8 (b : Int), .int .u8 (b : Int), .int .i64 (ns2 : Int)][j]? = some u → (w6.alloc (.cells #[.int .u8 (b : Int), .int .u8 (b : Int), .int .i64 (ns2 : Int)] 58)).cell? ((⟨w6.heap.size, 0, none⟩ : Addr).add j) = some u := by
           intro j u hj;rw [Addr.add_lit, Nat.zero_add, World.cell?_alloc_mark];simpa using hj
          have hbz : w2.heap.size ≤ (w6.alloc (.cells #[.int .u8 (b : Int), .int .u8 (b : Int), .int .i64 (ns2 : Int)] 58)).heap.size := by simp; omega
          clear hw' hw6 hro;go_wp2_with (at_builtin; refine appI_at rfl _ _ 53 rfl w2.heap.size 58 ie _ 3 16 Tryz.underlying53 hie hk0 hk1 hk2 rfl (by decide) _ nl ro rfl hown6 ⟨w6.heap.size, 0, none⟩ 1 1 [.int .u8 (b : Int), .int .u8 (b : Int), .int .i64 (ns2 : Int)] rfl rfl hcx (by intro u hu; simp only [List.mem_cons, List.not_mem_nil, or_false] at hu; rcases hu with rfl | rfl | rfl <;> rfl) (by unfold maxLen; omega) (by omega) hbz ?_)
          intro v9 w9 hown9 hg9 hf9;have hs9 : (w6.alloc (.cells #[.int .u8 (b : Int), .int .u8 (b : Int), .int .i64 (ns2 : Int)] 58)).heap.size = w6.heap.size + 1 := by simp
          have hf9' : Fresh v9 (.slice Al nl cl) (w6.alloc (.cells #[.int .u8 (b : Int), .int .u8 (b : Int), .int .i64 (ns2 : Int)] 58)).heap.size := by first | exact hf9 | (rw [hs9]; exact hf9)
          obtain ⟨hk9, hb9⟩ := HK6.out.app1 (b := b) HNL.out HNU.out HRO.out hown9 hg9 hf9';obtain ⟨A9, c9, rfl, -, -⟩ := own_form hown9;have HK9 := Lib.hid hk9;have HR9 := Lib.hid (And.intro (HR.out.1.app HT.out (nil_ne)) (And.intro (show ∃ more, (st' ++ [tt]) = st ++ more from by obtain ⟨x, hx⟩ := HR.out.2.1; exact ⟨x ++ [tt], by rw [hx, List.append_assoc]⟩) (HB6.out.trans hb9)))
          clear hown9 hg9 hf9 hf9' hs9 hk9 hb9 hown6 hcx hbz z6 l6;go_wp2_with fail;go_roundw
          case rel => exact ⟨b + 1, (st' ++ [tt]), [] ++ [⟨b, b, kc⟩], A9, c9, by omega, by go_num, by rw [List.length_append, HNL.out]; rfl, HK9, HR9⟩
          case measure => simp [intOf]; omega
         ·rw [List.concat_eq_append] at hp;subst hp;obtain ⟨nq, hnq⟩ : ∃ x, q.length = x := ⟨_, rfl⟩;have HNQ := Lib.hid (And.intro hnq (show nq + 1 = nl by rw [← HNL.out, ← hnq]; simp))
          obtain ⟨gl, rfl, -, -, -, -⟩ := HK.out.lastE hnq;have hfm : some f.to ∈ st'.map c := HK.out.le.ptg f (by simp)
          have HFM := Lib.hid hfm;clear hnq hfm;have hns : ns2 < k := by
           have h9 := (HK.out.le.new ⟨b, b, kc⟩ tt HKN.out HTT9.out.1 HTT9.out.2).1.nodup;rw [HXX.out.len, HN.out.1, List.length_append, HNS.out] at h9;exact h9
          have hb2 : Below (wr.setCell ⟨w2.heap.size, kc, none⟩ (.int .i64 (ns2 : Int))).heap.size (wr.setCell ⟨w2.heap.size, kc, none⟩ (.int .i64 (ns2 : Int))) ((wr.setCell ⟨w2.heap.size, kc, none⟩ (.int .i64 (ns2 : Int))).alloc (.cells #[.int .i64 (tt : Int)] 3)) := (Below.refl _ _).alloc (Nat.le_refl _) _;have hsz : (wr.setCell ⟨w2.heap.size, kc, none⟩ (.int .i64 (ns2 : Int))).heap.size = wr.heap.size := by simp [World.setCell]
          have hownA : ((wr.setCell ⟨w2.heap.size, kc, none⟩ (.int .i64 (ns2 : Int))).alloc (.cells #[.int .i64 (tt : Int)] 3)).ownsRow w2.heap.size 3 1 (.slice As2 ns2 cst2) ns2 (ints st') := by
           have h := HK.out.own;rw [HNS.out] at h;exact World.ownsRow.alloc (own_same h fun g hg => Below.heap_setCell _ _ _ _ (fun e => HK.out.ap (by rw [hg, show g = w2.heap.size from e]))) _
          have hcz : ∀ j u, ([.int .i64 (tt : Int)] : List Value)[j]? = some u → ((wr.setCell ⟨w2.heap.size, kc, none⟩ (.int .i64 (ns2 : Int))).alloc (.cells #[.int .i64 (tt : Int)] 3)).cell? ((⟨wr.heap.size, 0, none⟩ : Addr).add j) = some u := fun j u hj => by
           match j, hj with
           | 0, hj =>
            simp at hj;have h9 := heap_alloc_new (wr.setCell ⟨w2.heap.size, kc, none⟩ (.int .i64 (ns2 : Int))) (.cells #[.int .i64 (tt : Int)] 3);rw [hsz] at h9;rw [← hj, Addr.add_lit, cell_of_row _ _ _ _ _ _ h9]; rfl
          have hbx : w2.heap.size ≤ ((wr.setCell ⟨w2.heap.size, kc, none⟩ (.int .i64 (ns2 : Int))).alloc (.cells #[.int .i64 (tt : Int)] 3)).heap.size := by simp [World.setCell]; omega
          have HBN := Lib.hid (And.intro hb2 hsz);have hneT : gT ≠ w2.heap.size := by omega
          have hneT2 : ¬ w2.heap.size = gT := by omega
          have hdn0 : decide ((-1 : Int) < 0) = true := by decide
          clear hb2 hsz;go_wp2_with (at_builtin; refine appI_at rfl _ _ 22 rfl w2.heap.size 3 ii _ 1 8 Tryz.underlying22 hii hj0 hj1 hj2 rfl (by decide) _ ns2 (ints st') rfl hownA ⟨wr.heap.size, 0, none⟩ 1 1 [.int .i64 (tt : Int)] rfl rfl hcz (by intro u hu; simp at hu; subst hu; rfl) (by unfold maxLen; omega) (by omega) hbx ?_)
          intro vst4 w4 hown4 hg4 hf4;have hs4 : ((wr.setCell ⟨w2.heap.size, kc, none⟩ (.int .i64 (ns2 : Int))).alloc (.cells #[.int .i64 (tt : Int)] 3)).heap.size = wr.heap.size + 1 := by simp [World.setCell]
          have hf4' : Fresh vst4 (.slice As2 ns2 cst2) ((wr.setCell ⟨w2.heap.size, kc, none⟩ (.int .i64 (ns2 : Int))).alloc (.cells #[.int .i64 (tt : Int)] 3)).heap.size := by first | exact hf4 | (rw [hs4]; exact hf4)
          obtain ⟨hk4, hnum, hb4⟩ := HK.out.meet1 (b := b) HNS.out hkk HTT9.out.1 HTT9.out.2 HKN.out (by rw [← HBN.out.2]; exact HBN.out.1) hg4 hown4 hf4'
          obtain ⟨A4, c4, rfl, -, -⟩ := own_form hown4;have hkm : some kc ∈ (st' ++ [tt]).map c := by rw [List.map_append]; exact List.mem_append_right _ (by simp [HTT9.out.2])
          have z2 : w4.cell? ⟨w2.heap.size, kc, none⟩ = some (.int .i64 (ns2 : Int)) := hk4.num hkk hkm hnum;have lg4 : w2.heap.size < w4.heap.size := hk4.gnlt.2;have HKA := Lib.hid hk4;have HBA := Lib.hid (HR.out.2.2.trans hb4);have HKM := Lib.hid hkm;have HNU := Lib.hid hnum;clear hown4 hg4 hf4 hf4' hs4 hk4 hnum hb4 hkm hownA hcz hbx z0 z1 zm lg;have lg := lg4;clear lg4;obtain ⟨gl', e', ⟨x1, x2⟩, x3, lgl, -⟩ := HKA.out.lastE HNQ.out.1;obtain rfl : gl = gl' := by injection e' with e'; injection e'
          obtain ⟨nf, hnf⟩ : ∃ x, numC c (st' ++ [tt]) f.to = x := ⟨_, rfl⟩;obtain ⟨fh, hfh⟩ : ∃ x, f.hi = x := ⟨_, rfl⟩;rw [hnf] at x2;rw [hfh] at x1;have hnn : nf < ns2 := by rw [← hnf, ← HNS.out]; exact numC_ne HFM.out HKN.out
          have HF := Lib.hid (And.intro hfh (show fh < 256 by have := HR.out.1.hi f (by simp); omega))
          have t3 : ((nf : Int) == (ns2 : Int)) = false := by simp; omega
          have HFN := Lib.hid (show f.to ≠ kc from fun e => HKN.out (by rw [← e]; exact HFM.out))
          clear hnf hfh e' hnn;have t0 : decide (0 < (nl : Int)) = true := decide_eq_true (by have := HNQ.out.2; omega)
          have t0n : decide (0 < nl) = true := decide_eq_true (by have := HNQ.out.2; omega)
          have t1 : IntKind.i64.wrap ((nl : Int) - 1) = (nq : Int) := by rw [IntWalk.i64_in _ (by have := HNQ.out.2; omega)]; have := HNQ.out.2; omega
          have t1n : (nl : Int) - 1 = (nq : Int) := by have := HNQ.out.2; omega
          have t2 : decide (nq < nl) = true := decide_eq_true (by have := HNQ.out.2; omega)
          have d0 : ∀ d : BelT w4.heap.size w4, d.val.cell? ⟨w2.heap.size, kc, none⟩ = some (.int .i64 (ns2 : Int)) := fun d => (d.property.cell (p := ⟨w2.heap.size, kc, none⟩) lg).trans z2;have d1 : ∀ d : BelT w4.heap.size w4, w2.heap.size < d.val.heap.size := fun d => Nat.lt_of_lt_of_le lg d.property.size;have d2 : ∀ d : BelT w4.heap.size w4, d.val.cell? ⟨gl, nq * 3 + 1, none⟩ = some (.int .u8 (fh : Int)) := fun d => (d.property.cell (p := ⟨gl, nq * 3 + 1, none⟩) lgl).trans x1;have d3 : ∀ d : BelT w4.heap.size w4, d.val.cell? ⟨gl, nq * 3 + 2, none⟩ = some (.int .i64 (nf : Int)) := fun d => (d.property.cell (p := ⟨gl, nq * 3 + 2, none⟩) lgl).trans x2;have d4 : ∀ d : BelT w4.heap.size w4, gl < d.val.heap.size := fun d => Nat.lt_of_lt_of_le lgl d.property.size;have t5 : IntKind.i64.wrap (fh : Int) = (fh : Int) := IntWalk.i64_in _ (by have := HF.out.2; omega)
          have t6 : IntKind.i64.wrap ((b : Int) - 1) = (b : Int) - 1 := IntWalk.i64_in _ (by omega)
          go_wp2_with fail;refine wp_region_below (Below.refl w4.heap.size w4) (by kernel_rfl) (by kernel_rfl) ?_
          repeat (go_big_quiet_step (fail))
          refine wpQuiet_nil ?_;intro w6 hw';have hw6 : Below w4.heap.size w4 w6 := by obtain ⟨d9, rfl⟩ := hw'; exact d9.property
          have HK6 := Lib.hid (HKA.out.later hw6);have HB6 := Lib.hid (HBA.out.trans (hw6.mono HBA.out.size));have z6 : w6.cell? ⟨w2.heap.size, kc, none⟩ = some (.int .i64 (ns2 : Int)) := HK6.out.num hkk HKM.out HNU.out;have l6 : w2.heap.size < w6.heap.size := HK6.out.gnlt.2;have hown6 := HK6.out.row6 (b := b) (nu := ns2) HNL.out (.cells #[.int .u8 (b : Int), .int .u8 (b : Int), .int .i64 (ns2 : Int)] 58);obtain ⟨ro, hro⟩ : ∃ r, rowF edC (renE (numC c (st' ++ [tt])) ((q ++ [f]))) = r := ⟨_, rfl⟩;rw [hro] at hown6;have HRO := Lib.hid hro;have hcx : ∀ j u, [Value.int .u8 (b : Int), .int .u8 (b : Int), .int .i64 (ns2 : Int)][j]? = some u → (w6.alloc (.cells #[.int .u8 (b : Int), .int .u8 (b : Int), .int .i64 (ns2 : Int)] 58)).cell? ((⟨w6.heap.size, 0, none⟩ : Addr).add j) = some u := by
           intro j u hj;rw [Addr.add_lit, Nat.zero_add, World.cell?_alloc_mark];simpa using hj
          have hbz : w2.heap.size ≤ (w6.alloc (.cells #[.int .u8 (b : Int), .int .u8 (b : Int), .int .i64 (ns2 : Int)] 58)).heap.size := by simp; omega
          clear hw' hw6 hro d0 d1 d2 d3 d4 x1 x2 x3 z2;go_wp2_with (at_builtin; refine appI_at rfl _ _ 53 rfl w2.heap.size 58 ie _ 3 16 Tryz.underlying53 hie hk0 hk1 hk2 rfl (by decide) _ nl ro rfl hown6 ⟨w6.heap.size, 0, none⟩ 1 1 [.int .u8 (b : Int), .int .u8 (b : Int), .int .i64 (ns2 : Int)] rfl rfl hcx (by intro u hu; simp only [List.mem_cons, List.not_mem_nil, or_false] at hu; rcases hu with rfl | rfl | rfl <;> rfl) (by unfold maxLen; omega) (by omega) hbz ?_)
          intro v9 w9 hown9 hg9 hf9;have hs9 : (w6.alloc (.cells #[.int .u8 (b : Int), .int .u8 (b : Int), .int .i64 (ns2 : Int)] 58)).heap.size = w6.heap.size + 1 := by simp
          have hf9' : Fresh v9 (.slice (some ⟨gl, 0, none⟩) nl cl) (w6.alloc (.cells #[.int .u8 (b : Int), .int .u8 (b : Int), .int .i64 (ns2 : Int)] 58)).heap.size := by first | exact hf9 | (rw [hs9]; exact hf9)
          obtain ⟨hk9, hb9⟩ := HK6.out.app1 (b := b) HNL.out HNU.out HRO.out hown9 hg9 hf9';obtain ⟨A9, c9, rfl, -, -⟩ := own_form hown9;have HK9 := Lib.hid hk9;have HR9 := Lib.hid (And.intro (HR.out.1.app HT.out (snoc_ne (fun h => HFN.out h.2))) (And.intro (show ∃ more, (st' ++ [tt]) = st ++ more from by obtain ⟨x, hx⟩ := HR.out.2.1; exact ⟨x ++ [tt], by rw [hx, List.append_assoc]⟩) (HB6.out.trans hb9)))
          clear hown9 hg9 hf9 hf9' hs9 hk9 hb9 hown6 hcx hbz z6 l6;go_wp2_with fail;go_roundw
          case rel => exact ⟨b + 1, (st' ++ [tt]), (q ++ [f]) ++ [⟨b, b, kc⟩], A9, c9, by omega, by go_num, by rw [List.length_append, HNL.out]; rfl, HK9, HR9⟩
          case measure => simp [intOf]; omega
      ·have hbe : b = 256 := by omega
       subst hbe;have hdb : decide (((256 : Nat) : Int) < 256) = false := by decide
       have hdbm : decide ((256 : Int) < 256) = false := by decide
       have hdbn : decide (256 < 256) = false := by decide
       have hpJ : p = joinF c (rowM m' s) := HR.out.1.done (HXX.out.row s).1 (HXX.out.row s).2.1;have hle := HK.out;have hil2 := hle.le.il;obtain ⟨more, hmore⟩ := HR.out.2.1;have hs2 : st'[i]? = some s := by rw [hmore, List.getElem?_append_left (by have := HNST.out; omega)]; exact HS.out.1
       have hrl2 : rs.length = i := by rw [hle.le.rows, List.length_map, List.length_take]; omega
       have hal2 : acs.length = i := by rw [hle.ac, List.length_map, List.length_take]; omega
       have hmkE := hle.ma.own;have hmkA : wr.ownsRow w2.heap.size 4 1 vA acs.length (rowF bC acs) := hle.ma.acc;rw [hrl2] at hmkE;rw [hal2] at hmkA;obtain ⟨AE, cE, rfl, -, -⟩ := own_form hmkE;obtain ⟨AV, cA, rfl, -, -⟩ := own_form hmkA;obtain ⟨av, hav⟩ : ∃ av, rowF bC acs = av := ⟨_, rfl⟩;rw [hav] at hmkA;have hbw : Below w.heap.size w wr := HB2.out.trans (HR.out.2.2.mono HB2.out.size);have hM := (HR.out.2.2.block w.heap.size (Array.getElem?_eq_some_iff.1 HX02.out).1).trans HX02.out;obtain ⟨ga, fa, rfl, -, hga, hca0⟩ := HA.out.at_ (show s < m.ac.length by rw [HN.out.2]; exact hsn)
       have xm1 : wr.cell? ⟨w.heap.size, 1, none⟩ = some (.slice (some ⟨ga, fa, none⟩) k ca) := by rw [cell_of_row _ _ _ _ _ _ hM]; rfl
       obtain ⟨a, haa⟩ : ∃ b, m.ac[s]'(by rw [HN.out.2]; exact hsn) = b := ⟨_, rfl⟩
       rw [haa] at hca0;have hacA : a = (m'.ac[s]?).getD false := by rw [HXX.out.ac, List.getElem?_eq_getElem (by rw [HN.out.2]; exact hsn), haa]; rfl
       have xac := (World.cell?_of_block (a := ⟨ga, fa + s, none⟩) (hbw.block ga hga)).trans hca0;have hNr := hle.ma.hN;obtain ⟨xn0, xn1⟩ : wr.cell? ⟨zl + 1, 0, none⟩ = some (.slice AE i cE) ∧ wr.cell? ⟨zl + 1, 1, none⟩ = some (.slice AV i cA) := by constructor <;> (rw [cell_of_row _ _ _ _ _ _ hNr]; rfl)
       have hltM := hle.ma.lt;have hwr2 := HR.out.2.2.size;have hwz2 := hbw.size;have hsl : zl + 1 < wr.heap.size := (hltM _ (mem_fpM.2 (.inl rfl))).2;have hw2x : w.heap.size < w2.heap.size := (Array.getElem?_eq_some_iff.1 HX02.out).1;have lM : w.heap.size < wr.heap.size := by omega
       have lga : ga < wr.heap.size := by omega
       have nM : w.heap.size ∉ (zl + 1) :: (blk (.slice AE i cE) ++ blk (.slice AV i cA)) := fun hm => by have := (hltM _ hm).1; omega
       have nga : ga ∉ (zl + 1) :: (blk (.slice AE i cE) ++ blk (.slice AV i cA)) := fun hm => by have := (hltM _ hm).1; omega
       have hne : (∀ g, (Value.slice AE i cE).ownBlock = some g → g < wr.heap.size) ∧ (∀ g, (Value.slice AV i cA).ownBlock = some g → g < wr.heap.size) ∧ (∀ g, (Value.slice AV i cA).ownBlock = some g → (Value.slice AE i cE).ownBlock ≠ some g) ∧ (Value.slice AE i cE).ownBlock ≠ some (zl + 1) ∧ (Value.slice AV i cA).ownBlock ≠ some (zl + 1) ∧ (∀ g, (Value.slice AV i cA).ownBlock = some g → (Value.slice AE i cE).ownBlock ≠ some g ∧ g < wr.heap.size) := by
        have hd : ∀ g, (Value.slice AV i cA).ownBlock = some g → (Value.slice AE i cE).ownBlock ≠ some g := fun g hg e => hle.ma.neEA g e hg;exact ⟨fun g hg => (hmkE.lt g hg).2, fun g hg => (hmkA.lt g hg).2, hd, hle.ma.neE, hle.ma.neA, fun g hg => ⟨hd g hg, (hmkA.lt g hg).2⟩⟩
       obtain ⟨Aj, cj, nj, hnj, hAj, hcj⟩ : ∃ A c n, n = nl ∧ A = Al ∧ c = cl := ⟨_, _, _, rfl, rfl, rfl⟩;subst hnj hAj hcj;obtain ⟨W, hWeq⟩ : ∃ W : World, W = wr := ⟨_, rfl⟩;subst hWeq;have hS0 : StW6 (zl + 1) (.slice AE i cE) (.slice AV i cA) W 0 W.drew := ⟨(KeepF.of_below (Below.refl _ _).drew).weak, fun _ => rfl, fun _ _ _ => rfl, fun _ => (Below.refl _ _).drew⟩;have HNE := Lib.hid hne;have HNB := Lib.hid hNr;have HE1 := Lib.hid hmkE;have HV1 := Lib.hid hmkA;have HZ1 := Lib.hid hwr2;have HLE := Lib.hid (And.intro hle (And.intro hpJ hs2));have HBE := Lib.hid HR.out.2.2;have HAV := Lib.hid (And.intro hav (And.intro hrl2 (And.intro hal2 hacA)));clear hle hpJ hil2 hs2 hrl2 hal2 hmkE hmkA hav hM hbw hacA hca0 hNr hltM hne hwr2 hmore haa hown hga hw2x;go_wp2_with fail;refine wp_region_chain 17 [4, 13, 15] (factR28 (zl + 1) w.heap.size s ga fa k ca nj cj i cE cA w2.heap.size AE AV Aj gv av a W) (fun c w' => StW6 (zl + 1) (.slice AE i cE) (.slice AV i cA) W c w') (by kernel_rfl) (by kernel_rfl) (by kernel_rfl) (by kernel_rfl) (by kernel_rfl) (by kernel_rfl) (by decide) hS0 ?_ ?_
       ·simp only [pq4, pq5];refine HSteps.pure (by decide) ?_ (HSteps.pure (by decide) ?_ (HSteps.pure (by decide) ?_ (HSteps.free (by decide) ?_ (HSteps.eff 0 rfl ?_ (HSteps.pure (by decide) ?_ (HSteps.pure (by decide) ?_ (HSteps.pure (by decide) ?_ (HSteps.pure (by decide) ?_ (HSteps.pure (by decide) ?_ (HSteps.pure (by decide) ?_ (HSteps.pure (by decide) ?_ (HSteps.free (by decide) ?_ (HSteps.eff 1 rfl ?_ (HSteps.pure (by decide) ?_ (HSteps.eff 2 rfl ?_ (HSteps.pure (by decide) ?_ (HSteps.nil)))))))))))))))))
        all_goals first | (intro v wz c hlo hS hE K hK;simp only [putAll, Act.put, pq1, pq2, pq3, Nat.zero_add, Nat.reduceAdd, pq4, pq5] at hK ⊢) | (intro v wz hS hE K hK;simp only [putAll, Act.put, pq1, pq2, pq3, Nat.zero_add, Nat.reduceAdd, pq4, pq5] at hK ⊢)
        ·have HX := Lib.hid hS;clear hS hE hlo;go_wp2_with fail;exact hK.out _ rfl
        ·have e0 : v 0 = _ := hE.1 rfl;rw [e0] at hK ⊢;have hle := hlo 0 (by kernel_rfl)
         have c1 := (World.cell?_of_block (a := ⟨zl + 1, 0, none⟩) (hS.2.1 (by omega))).trans xn0
         have l1 : zl + 1 < wz.heap.size := by have := hS.1.size; omega
         have HX := Lib.hid hS;clear hS hE hlo;go_wp2_with fail;exact hK.out _ rfl
        ·have HX := Lib.hid hS;clear hS hE hlo;go_wp2_with fail;exact hK.out _ rfl
        ·have e2 : v 2 = _ := hE.1 rfl;rw [e2] at hK ⊢;have hbz : Below wz.heap.size wz (wz.alloc (.cells #[.slice Aj nj cj] 53)) := (Below.refl _ _).alloc (Nat.le_refl _) _;have hzW := hS.1.size;have HX := Lib.hid hS;have HBZ := Lib.hid hbz;clear hS hE hlo hbz;go_wp2_with fail;exact hK.out _ _ (fun j y _ h => factR28_bl HBZ.out h) (HX.out.later hsl HNE.out.2.1 HBZ.out) ⟨wz.heap.size, rfl, hzW, by simp, by go_simp⟩
        ·have e1 : v 1 = _ := hE.1 rfl;rw [e1] at hK ⊢;have E3 := hE.2.1 rfl;obtain ⟨g, e3, hgW, hgl, hg0⟩ := E3;rw [e3] at hK ⊢;have hz := hS.2.2.2 rfl;have hown : wz.ownsRow w2.heap.size 53 1 (.slice AE i cE) i gv := own_later HE1.out hz;have hzz := hz.size;clear hz;have hcell : ∀ j u, ([.slice Aj nj cj] : List Value)[j]? = some u → wz.cell? ((⟨g, 0, none⟩ : Addr).add j) = some u := fun j u hj => by
          match j, hj with
          | 0, hj => simp at hj; rw [← hj, Addr.add_lit]; exact hg0
         have HX := Lib.hid hS;clear hS hE;go_wp2_with (at_builtin; refine appI_at rfl _ _ 31 rfl w2.heap.size 53 is (.slice none 0 0) 1 24 Tryz.underlying31 his hs0 hs1 hs2 rfl (by decide) _ i gv rfl hown ⟨g, 0, none⟩ 1 1 [.slice Aj nj cj] rfl rfl hcell (by intro u hu; simp at hu; subst hu; rfl) (by unfold maxLen; omega) (by omega) (by have := HZ1.out; omega) ?_)
         intro v' wx hown1 hg1 hfr;obtain ⟨A', c', rfl, -, -⟩ := own_form hown1;have hfr2 : Fresh (.slice A' (i + 1) c') (.slice AE i cE) W.heap.size := hfr.imp id fun ⟨g, h1, h2⟩ => ⟨g, h1, Nat.le_trans hzz h2⟩;refine hK.out _ _ (factR28_01 hg1 HNE.out.1) (HX.out.s1 hsl hg1 HNE.out.2.2.2.1 HNE.out.2.2.2.2.2) (fun _ => ⟨A', c', rfl, hown1, hfr2⟩)
        ·have HX := Lib.hid hS;clear hS hE hlo;go_wp2_with fail;exact hK.out _ rfl
        ·have e5 : v 5 = _ := hE.1 rfl;rw [e5] at hK ⊢;have hle := hlo 1 (by kernel_rfl)
         have c1 := (World.cell?_of_block (a := ⟨zl + 1, 1, none⟩) (hS.2.1 (by omega))).trans xn1
         have l1 : zl + 1 < wz.heap.size := by have := hS.1.size; omega
         have HX := Lib.hid hS;clear hS hE hlo;go_wp2_with fail;exact hK.out _ rfl
        ·have HX := Lib.hid hS;clear hS hE hlo;go_wp2_with fail;exact hK.out _ rfl
        ·have e7 : v 7 = _ := hE.1 rfl;rw [e7] at hK ⊢;have c1 := (World.cell?_of_block (a := ⟨w.heap.size, 1, none⟩) (hS.1.blk _ lM nM)).trans xm1;have l1 : w.heap.size < wz.heap.size := by have := hS.1.size; omega
         have HX := Lib.hid hS;clear hS hE hlo;go_wp2_with fail;exact hK.out _ rfl
        ·have HX := Lib.hid hS;clear hS hE hlo;go_wp2_with fail;exact hK.out _ rfl
        ·have e8 : v 8 = _ := hE.1 rfl;have e9 : v 9 = _ := hE.2.1 rfl;rw [e8, e9] at hK ⊢;have HX := Lib.hid hS;clear hS hE hlo;go_wp2_with fail;exact hK.out _ rfl
        ·have e10 : v 10 = _ := hE.1 rfl;rw [e10] at hK ⊢;have c1 := (World.cell?_of_block (a := ⟨ga, fa + s, none⟩) (hS.1.blk _ lga nga)).trans xac;have l1 : ga < wz.heap.size := by have := hS.1.size; omega
         have HX := Lib.hid hS;clear hS hE hlo;go_wp2_with fail;exact hK.out _ rfl
        ·have e11 : v 11 = _ := hE.1 rfl;rw [e11] at hK ⊢;have hbz : Below wz.heap.size wz (wz.alloc (.cells #[.bool a] 4)) := (Below.refl _ _).alloc (Nat.le_refl _) _;have hzW := hS.1.size;have HX := Lib.hid hS;have HBZ := Lib.hid hbz;clear hS hE hlo hbz;go_wp2_with fail;exact hK.out _ _ (fun j y _ h => factR28_bl HBZ.out h) (HX.out.later hsl HNE.out.2.1 HBZ.out) ⟨wz.heap.size, rfl, hzW, by simp, by go_simp⟩
        ·have e6 : v 6 = _ := hE.1 rfl;rw [e6] at hK ⊢;have E12 := hE.2.1 rfl;obtain ⟨g, e12, hgW, hgl, hg0⟩ := E12;rw [e12] at hK ⊢;have hown : wz.ownsRow w2.heap.size 4 1 (.slice AV i cA) i av := own_same HV1.out fun g hg => hS.2.2.1 (by decide) g hg
         have hzz := hS.1.size;have hcell : ∀ j u, ([.bool a] : List Value)[j]? = some u → wz.cell? ((⟨g, 0, none⟩ : Addr).add j) = some u := fun j u hj => by
          match j, hj with
          | 0, hj => simp at hj; rw [← hj, Addr.add_lit]; exact hg0
         have HX := Lib.hid hS;clear hS hE;go_wp2_with (at_builtin; refine appI_at rfl _ _ 32 rfl w2.heap.size 4 ib (.bool false) 1 1 Tryz.underlying32 hib hb0 hb1 hb2 rfl (by decide) _ i av rfl hown ⟨g, 0, none⟩ 1 1 [.bool a] rfl rfl hcell (by intro u hu; simp at hu; subst hu; rfl) (by unfold maxLen; omega) (by omega) (by have := HZ1.out; omega) ?_)
         intro v' wx hown1 hg1 hfr;obtain ⟨A', c', rfl, -, -⟩ := own_form hown1;have hfr2 : Fresh (.slice A' (i + 1) c') (.slice AV i cA) W.heap.size := hfr.imp id fun ⟨g, h1, h2⟩ => ⟨g, h1, Nat.le_trans hzz h2⟩;refine hK.out _ _ (factR28_12 hg1 HNE.out.2.1 HNE.out.2.2.1) (HX.out.s2 hsl hg1 HNE.out.2.2.2.2.1) (fun _ => ⟨A', c', rfl, hown1, hfr2⟩)
        ·have HX := Lib.hid hS;clear hS hE hlo;go_wp2_with fail;exact hK.out _ rfl
        ·have e14 : v 14 = _ := hE.1 rfl;rw [e14] at hK ⊢;have E4 := hE.2.1 rfl;obtain ⟨A, c', ev, ho, hfr⟩ := E4 (by decide)
         rw [ev] at hK ho hfr ⊢;have hrow := (hS.2.1 (by decide)).trans HNB.out
         have cz : wz.cell? ⟨zl + 1, 0, none⟩ = some (.slice AE i cE) := by rw [cell_of_row _ _ _ _ _ _ hrow]; rfl
         have fz : wz.frozen? ⟨zl + 1, 0, none⟩ = false := by simp [World.frozen?, hrow]
         have HX := Lib.hid hS;have HO := Lib.hid (And.intro ho (And.intro hfr hrow));clear hS hE ho hfr hrow ev;go_wp2_with fail;have hns : ∀ g, (Value.slice A (i + 1) c').ownBlock = some g → g ≠ zl + 1 := fun g hg => HO.out.2.1.elim (fun e => by rw [e] at hg; intro e2; subst e2; exact HNE.out.2.2.2.1 hg) fun ⟨g', e, h2⟩ => by rw [e] at hg; injection hg with hg; omega
         refine hK.out undef _ (factR28_23 hsl HNE.out.2.2.2.1 HNE.out.2.2.2.2.1 _) (HX.out.s3 _) (fun _ => ⟨A, c', own_same HO.out.1 fun g hg => Below.heap_setCell _ _ _ _ (hns g hg), HO.out.2.1, by have := set_row3 HO.out.2.2 0 (.slice A (i + 1) c'); simpa using this⟩)
        ·have HX := Lib.hid hS;clear hS hE hlo;go_wp2_with fail;exact hK.out _ rfl
       ·intro v wz hS hF;have e0 : v 0 = _ := hF 0 (by decide)
        have e1 : v 1 = _ := hF 1 (by decide)
        have e2 : v 2 = _ := hF 2 (by decide)
        have e5 : v 5 = _ := hF 5 (by decide)
        have e6 : v 6 = _ := hF 6 (by decide)
        have e7 : v 7 = _ := hF 7 (by decide)
        have e8 : v 8 = _ := hF 8 (by decide)
        have e9 : v 9 = _ := hF 9 (by decide)
        have e10 : v 10 = _ := hF 10 (by decide)
        have e11 : v 11 = _ := hF 11 (by decide)
        have e14 : v 14 = _ := hF 14 (by decide)
        have e16 : v 16 = _ := hF 16 (by decide)
        have E3 := hF 3 (by decide)
        have E4 := hF 4 (by decide)
        have E12 := hF 12 (by decide)
        have E13 := hF 13 (by decide)
        have E15 := hF 15 (by decide)
        simp only [putAll, Act.put, pq1, pq2, pq3, Nat.zero_add, Nat.reduceAdd, pq4, pq5, List.drop_succ_cons, List.drop_zero, e0, e1, e2, e5, e6, e7, e8, e9, e10, e11, e14, e16];clear hF e0 e1 e2 e5 e6 e7 e8 e9 e10 e11 e14 e16;obtain ⟨A18, c18, ho18, hf18, hr18⟩ := E15 (by decide)
        obtain ⟨A16, c16, ev16, ho16, hf16⟩ := E13 (by decide)
        rw [ev16] at ho16 hf16 ⊢;have hkz := hS.1;have z1 : wz.cell? ⟨zl + 1, 1, none⟩ = some (.slice AV i cA) := by rw [cell_of_row _ _ _ _ _ _ hr18]; rfl
        have fz1 : wz.frozen? ⟨zl + 1, 1, none⟩ = false := by simp [World.frozen?, hr18]
        have lNz : zl + 1 < wz.heap.size := (Array.getElem?_eq_some_iff.1 hr18).1;have hset : ∀ k, k ≠ zl + 1 → (wz.setCell ⟨zl + 1, 1, none⟩ (.slice A16 (i + 1) c16)).heap[k]? = wz.heap[k]? := fun k hk => Below.heap_setCell _ _ _ _ hk;have hfr : ∀ {v v' : Value}, Fresh v' v W.heap.size → v.ownBlock ≠ some (zl + 1) → ∀ g, v'.ownBlock = some g → g ≠ zl + 1 := fun hf hn g hg e => by
         subst e;rcases hf with hf | ⟨g', hf, h2⟩
         ·rw [hf] at hg; exact hn hg
         ·rw [hf] at hg; injection hg with hg; omega
        have hks : KeepF (fpM (zl + 1) (.slice AE i cE) (.slice AV i cA)) [] W (wz.setCell ⟨zl + 1, 1, none⟩ (.slice A16 (i + 1) c16)) :=
         KeepF.tr (show KeepF (fpM (zl + 1) (.slice AE i cE) (.slice AV i cA)) [] W wz from hkz) ⟨rfl, rfl, rfl, by simp [World.setCell], fun k _ hn => hset k (fun e => hn (mem_fpM.2 (.inl e))), fun k hk => by cases hk⟩
        have hfin := HLE.out.1.rowDone hks (by have := set_row3 hr18 1 (.slice A16 (i + 1) c16); simpa using this) (by rw [HAV.out.2.1]; exact own_same ho18 fun g hg => hset g (hfr hf18 HNE.out.2.2.2.1 g hg)) (a := a) (by
         show World.ownsRow _ _ _ _ _ _ _;rw [List.length_append, rowF_app, rowF_single, HAV.out.1, HAV.out.2.2.1];exact own_same ho16 fun g hg => hset g (hfr hf16 HNE.out.2.2.2.2.1 g hg)) hf18 hf16 HIT.out HLE.out.2.2 HLE.out.2.1 HAV.out.2.2.2
        have hbf : Below w2.heap.size w2 (wz.setCell ⟨zl + 1, 1, none⟩ (.slice A16 (i + 1) c16)) := HBE.out.trans (hks.below (fun k hk => (HLE.out.1.ma.lt k hk).1) HZ1.out);have HFIN := Lib.hid hfin;have HBF := Lib.hid hbf;clear hS hkz hset hfr hks hfin hbf ho18 hf18 hr18 ho16 hf16 ev16 E3 E4 E12 E13 E15;go_wp2_with fail;go_roundw
        case rel => exact ⟨i + 1, st', _, _, _, _, _, _, by go_num, by omega, HFIN, HBF⟩
        case measure => simp [intOf]; omega
    ·have hie : i = nst := by omega
     have hd : decide ((i : Int) < (nst : Int)) = false := decide_eq_false (by omega)
     have hlei : i = st.length := by rw [HNST.out]; exact hie
     have hle := HL.out;have hmkE := hle.ma.own;have hmkA : wr.ownsRow w2.heap.size 4 1 vA acs.length (rowF bC acs) := hle.ma.acc;obtain ⟨AE, cE, rfl, -, -⟩ := own_form hmkE;obtain ⟨AV, cA, rfl, -, -⟩ := own_form hmkA;obtain ⟨nE, hnE⟩ : ∃ x, rs.length = x := ⟨_, rfl⟩;obtain ⟨nV, hnV⟩ : ∃ x, acs.length = x := ⟨_, rfl⟩;rw [hnE, hnV] at HL;have hNr := HL.out.ma.hN;obtain ⟨xn0, xn1⟩ : wr.cell? ⟨zl + 1, 0, none⟩ = some (.slice AE nE cE) ∧ wr.cell? ⟨zl + 1, 1, none⟩ = some (.slice AV nV cA) := by constructor <;> (rw [cell_of_row _ _ _ _ _ _ hNr]; rfl)
     have hX1 := (HB.out.block (w.heap.size + 1) (Array.getElem?_eq_some_iff.1 HX12.out).1).trans HX12.out;obtain ⟨q0, q1⟩ : wr.cell? ⟨w.heap.size + 1, 0, none⟩ = some (.slice none 0 0) ∧ wr.cell? ⟨w.heap.size + 1, 1, none⟩ = some (.slice none 0 0) := by constructor <;> (rw [cell_of_row _ _ _ _ _ _ hX1]; rfl)
     have g0 : wr.frozen? ⟨w.heap.size + 1, 0, none⟩ = false := by simp [World.frozen?, hX1]
     have g1 : wr.frozen? ⟨w.heap.size + 1, 1, none⟩ = false := by simp [World.frozen?, hX1]
     have lNr : zl + 1 < wr.heap.size := (Array.getElem?_eq_some_iff.1 hNr).1;have lXr : w.heap.size + 1 < wr.heap.size := (Array.getElem?_eq_some_iff.1 hX1).1;have lX2 : w.heap.size + 1 < w2.heap.size := (Array.getElem?_eq_some_iff.1 HX12.out).1;have HEI := Lib.hid (And.intro hlei (And.intro hnE hnV));clear hle hlei hmkE hmkA hNr hX1 hnE hnV hie;go_wp2_with fail;refine post_named fun Wf hWf => ?_;refine bodyPost_ret (v := .agg #[.slice AE nE cE, .slice AV nV cA]) (by rw [hWf]; simp [results, Tryz.results46, go_sem, q0, q1, lXr]; try rfl) rfl ?_
     have hkl : KeepF [w.heap.size + 1] [] wr Wf := by
      rw [hWf];have hne : ∀ k, k ∉ [w.heap.size + 1] → k ≠ w.heap.size + 1 := fun k hn e => hn (List.mem_singleton.2 e);exact ⟨rfl, rfl, rfl, by simp [World.setCell], fun k _ hn => (Below.heap_setCell (wr.setCell ⟨w.heap.size + 1, 0, none⟩ (.slice AE nE cE)) ⟨w.heap.size + 1, 1, none⟩ (.slice AV nV cA) k (hne k hn)).trans (Below.heap_setCell wr ⟨w.heap.size + 1, 0, none⟩ (.slice AE nE cE) k (hne k hn)), fun k hk => by cases hk⟩
     have hmk := HL.out.ma.low hkl (fun k hk => by rw [List.mem_singleton] at hk; omega)
     have hle := HL.out.le;have hac := HL.out.ac;rw [HEI.out.1] at hle;rw [HEI.out.1, List.take_length] at hac;have hfin := smx_done HV.out HSM.out (by rw [HN.out.1]; exact HH1.out) HXX.out hle
     rw [← hac] at hfin;have hbf : Below w.heap.size w Wf := (HB2.out.trans (HB.out.mono HB2.out.size)).trans (hkl.below (fun k hk => by rw [List.mem_singleton] at hk; omega) (by have := HB2.out.size; have := HB.out.size; omega))
     exact ⟨_, ⟨rs, acs⟩, rfl, hmk.up.mono HB2.out.size, hbf, hfin⟩
def LzPost (m : Mz) (w : World) (e : Ending) (w' : World) : Prop := ∃ rv m', ∃ ec : Int, e = .returned (.tuple #[rv, .int .i64 ec]) ∧ McUp w.heap.size w' rv m' ∧ Below w.heap.size w w' ∧ ((VldZ m ∧ ec = 0 ∧ LeOK (cvM m) m') ∨ (¬ VldZ m ∧ ec = 1 ∧ m' = ⟨[], []⟩))
theorem mcIn_nil (w : World) : McIn w (.agg #[.slice none 0 0, .slice none 0 0]) ⟨[], []⟩ := ⟨_, _, rfl, ⟨none, 0, rfl, ⟨Nat.le_refl _, by decide⟩, .inl rfl⟩, ⟨none, 0, rfl, ⟨Nat.le_refl _, by decide⟩, .inl rfl⟩⟩
theorem leOK_unique {m m1 m2 : Mc} (h1 : LeOK m m1) (h2 : LeOK m m2) : m1 = m2 := by
 rcases h1.1 with ⟨hl, hc, he⟩ | ⟨hn, rfl⟩
 ·rcases h2.1 with ⟨-, hc2, he2⟩ | ⟨hn, -⟩
  ·exact Canon.unique hc hc2 fun w => (he w).trans (he2 w).symm
  ·exact absurd hl hn
 ·rcases h2.1 with ⟨hl, -⟩ | ⟨-, rfl⟩
  ·exact absurd hl hn
  ·rfl
theorem nil_vld : Vld (⟨[], []⟩ : Mc) ∧ McSm ⟨[], []⟩ := ⟨⟨rfl, fun r hr => (by cases hr), fun r hr => (by cases hr)⟩, ⟨fun r hr => (by cases hr), fun r hr => (by cases hr), by simp⟩⟩
theorem lz_same {m : Mz} {m1 m2 : Mc} {e1 e2 : Int} (h1 : (VldZ m ∧ e1 = 0 ∧ LeOK (cvM m) m1) ∨ (¬ VldZ m ∧ e1 = 1 ∧ m1 = ⟨[], []⟩)) (h2 : (VldZ m ∧ e2 = 0 ∧ LeOK (cvM m) m2) ∨ (¬ VldZ m ∧ e2 = 1 ∧ m2 = ⟨[], []⟩)) : e1 = e2 ∧ m1 = m2 ∧ Vld m1 ∧ McSm m1 := by
 rcases h1 with ⟨hv, rfl, ho⟩ | ⟨hv, rfl, rfl⟩
 ·rcases h2 with ⟨-, rfl, ho2⟩ | ⟨hv2, -⟩
  ·exact ⟨rfl, leOK_unique ho ho2, (leOK_vld ho).1, ho.2.2⟩
  ·exact absurd hv hv2
 ·rcases h2 with ⟨hv2, -⟩ | ⟨-, rfl, rfl⟩
  ·exact absurd hv2 hv
  ·exact ⟨rfl, rfl, nil_vld.1, nil_vld.2⟩
set_option maxHeartbeats 4000000 in
theorem mleast_z (v : Value) (m : Mz) (w : World) (hm : McInZ w v m) (hrl : ∀ r ∈ m.ed, r.length ≤ 4611686018427387904) (hl : ∀ W, Below w.heap.size w W → VldZ m → Calls Tryz.prog 39 #[v] W (LePost (cvM m) W)) : Calls Tryz.prog 21 #[v] w (LzPost m w) := by
 obtain ⟨Ae, ce, Aa, ca, rfl, -, -⟩ := mcz_form hm;have HV := Lib.hid fun W (h : Below w.heap.size w W) => mvalidz_any _ m W (hm.later h) hrl;have HL := Lib.hid hl;clear hm hl hrl;generalize m.ed.length = n at *;generalize m.ac.length = k at *;have HB0 : Hid (Bx w (.slice Ae n ce) (.slice Aa k ca) (.slice none 0 0) (.slice none 0 0) ((w.alloc (.cells #[.slice Ae n ce, .slice Aa k ca] 34)).alloc (.cells #[.slice none 0 0, .slice none 0 0] 34))) :=
  ⟨((Below.refl _ _).alloc (Nat.le_refl _) _).alloc (by simp) _, by simp, by rw [old_alloc _ _ _ (by simp)]; exact heap_alloc_new w _, by simpa using heap_alloc_new (w.alloc (.cells #[.slice Ae n ce, .slice Aa k ca] 34)) (.cells #[.slice none 0 0, .slice none 0 0] 34)⟩
 obtain ⟨z, hz⟩ : ∃ z, vldZ m = z := ⟨_, rfl⟩;rw [hz] at HV;have HZ := Lib.hid hz;clear hz
 go_enter Tryz.func21, Tryz.ntmps21
 go_wp2_with fail;refine (HV.out _ HB0.out.bel).mono ?_;rintro e w1 ⟨rfl, hb1⟩;have HB1 := Lib.hid (HB0.out.later hb1);obtain ⟨b0, b1, b2, b3, s0, s1⟩ := HB1.out.cells;clear hb1
 cases z with
 | false =>
  have hR9 := HB1.out.r1;have gz0 : w1.frozen? ⟨w.heap.size + 1, 0, none⟩ = false := by simp [World.frozen?, hR9]
  have gz1 : w1.frozen? ⟨w.heap.size + 1, 1, none⟩ = false := by simp [World.frozen?, hR9]
  clear hR9;go_wp2_with fail;refine post_named fun Wf hWf => ?_;refine bodyPost_ret (v := .tuple #[.agg #[.slice none 0 0, .slice none 0 0], .int .i64 1]) (by rw [hWf]; simp [results, Tryz.results21, go_sem, b2, b3, s1]; try rfl) rfl ?_
  have hbf : Below w.heap.size w Wf := by
   rw [hWf];exact (HB1.out.bel.setCell (p := ⟨w.heap.size + 1, 0, none⟩) (by show w.heap.size ≤ w.heap.size + 1; omega) _).setCell (p := ⟨w.heap.size + 1, 1, none⟩) (by show w.heap.size ≤ w.heap.size + 1; omega) _
  exact ⟨_, ⟨[], []⟩, 1, rfl, fun W' _ => mcIn_nil W', hbf, .inr ⟨fun h => (by have h1 := HZ.out; rw [vldZ_true h] at h1; cases h1), rfl, rfl⟩⟩
 | true =>
  go_wp2_with fail;refine (HL.out _ HB1.out.bel (vldZ_iff.1 HZ.out)).mono ?_;rintro e w9 ⟨rv, m', rfl, hup, hb9, hok⟩;clear b0 b1 b2 b3 s0 s1;have HB2 := Lib.hid (HB1.out.later hb9);obtain ⟨ve9, va9, rfl, he9, ha9⟩ := id hup.mc;obtain ⟨A9, c9, rfl, -⟩ := he9.form;obtain ⟨B9, d9, rfl, -⟩ := ha9.form;obtain ⟨n9, hn9⟩ : ∃ n, m'.ed.length = n := ⟨_, rfl⟩;obtain ⟨m9, hm9⟩ : ∃ n, m'.ac.length = n := ⟨_, rfl⟩;rw [hn9, hm9] at hup ⊢;have hz9 := hb9.size;obtain ⟨b0, b1, rz0, rz1, s0, lR9⟩ := HB2.out.cells;have hR9 := HB2.out.r1;have gz0 : w9.frozen? ⟨w.heap.size + 1, 0, none⟩ = false := by simp [World.frozen?, hR9]
  have gz1 : w9.frozen? ⟨w.heap.size + 1, 1, none⟩ = false := by simp [World.frozen?, hR9]
  have HUP := Lib.hid (And.intro hup (And.intro hb9 hok));clear hup hb9 hok he9 ha9 hR9 hn9 hm9;go_wp2_with fail;refine post_named fun Wf hWf => ?_;refine bodyPost_ret (v := .tuple #[.agg #[.slice A9 n9 c9, .slice B9 m9 d9], .int .i64 0]) (by rw [hWf]; simp [results, Tryz.results21, go_sem, rz0, rz1, lR9]; try rfl) rfl ?_
  have hkl : KeepF [w.heap.size + 1] [] w9 Wf := by
   rw [hWf];have hne : ∀ k, k ∉ [w.heap.size + 1] → k ≠ w.heap.size + 1 := fun k hn e => hn (List.mem_singleton.2 e);exact ⟨rfl, rfl, rfl, by simp [World.setCell], fun k _ hn => (Below.heap_setCell (w9.setCell ⟨w.heap.size + 1, 0, none⟩ _) ⟨w.heap.size + 1, 1, none⟩ _ k (hne k hn)).trans (Below.heap_setCell w9 ⟨w.heap.size + 1, 0, none⟩ _ k (hne k hn)), fun k hk => by cases hk⟩
  have hsz := HB1.out.siz;have hbf : Below w.heap.size w Wf := HB2.out.bel.trans (hkl.below (fun k hk => by rw [List.mem_singleton] at hk; omega) HB2.out.bel.size)
  exact ⟨_, m', 0, rfl, (HUP.out.1.keep hkl (fun k hk => by rw [List.mem_singleton] at hk; omega)).mono HB1.out.bel.size, hbf, .inl ⟨vldZ_iff.1 HZ.out, rfl, HUP.out.2.2⟩⟩
set_option maxHeartbeats 4000000 in
theorem rleast_z (v : Value) (m : Mz) (w : World) (hm : McInZ w v m) (hrl : ∀ r ∈ m.ed, r.length ≤ 4611686018427387904) (hl : ∀ W, Below w.heap.size w W → VldZ m → Calls Tryz.prog 46 #[v] W (LePost (cvM m) W)) : Calls Tryz.prog 22 #[v] w (LzPost m w) := by
 obtain ⟨Ae, ce, Aa, ca, rfl, -, -⟩ := mcz_form hm;have HV := Lib.hid fun W (h : Below w.heap.size w W) => rvalidz_any _ m W (hm.later h) hrl;have HL := Lib.hid hl;clear hm hl hrl;generalize m.ed.length = n at *;generalize m.ac.length = k at *;have HB0 : Hid (Bx w (.slice Ae n ce) (.slice Aa k ca) (.slice none 0 0) (.slice none 0 0) ((w.alloc (.cells #[.slice Ae n ce, .slice Aa k ca] 34)).alloc (.cells #[.slice none 0 0, .slice none 0 0] 34))) :=
  ⟨((Below.refl _ _).alloc (Nat.le_refl _) _).alloc (by simp) _, by simp, by rw [old_alloc _ _ _ (by simp)]; exact heap_alloc_new w _, by simpa using heap_alloc_new (w.alloc (.cells #[.slice Ae n ce, .slice Aa k ca] 34)) (.cells #[.slice none 0 0, .slice none 0 0] 34)⟩
 obtain ⟨z, hz⟩ : ∃ z, vldZ m = z := ⟨_, rfl⟩;rw [hz] at HV;have HZ := Lib.hid hz;clear hz
 go_enter Tryz.func22, Tryz.ntmps22
 go_wp2_with fail;refine (HV.out _ HB0.out.bel).mono ?_;rintro e w1 ⟨rfl, hb1⟩;have HB1 := Lib.hid (HB0.out.later hb1);obtain ⟨b0, b1, b2, b3, s0, s1⟩ := HB1.out.cells;clear hb1
 cases z with
 | false =>
  have hR9 := HB1.out.r1;have gz0 : w1.frozen? ⟨w.heap.size + 1, 0, none⟩ = false := by simp [World.frozen?, hR9]
  have gz1 : w1.frozen? ⟨w.heap.size + 1, 1, none⟩ = false := by simp [World.frozen?, hR9]
  clear hR9;go_wp2_with fail;refine post_named fun Wf hWf => ?_;refine bodyPost_ret (v := .tuple #[.agg #[.slice none 0 0, .slice none 0 0], .int .i64 1]) (by rw [hWf]; simp [results, Tryz.results22, go_sem, b2, b3, s1]; try rfl) rfl ?_
  have hbf : Below w.heap.size w Wf := by
   rw [hWf];exact (HB1.out.bel.setCell (p := ⟨w.heap.size + 1, 0, none⟩) (by show w.heap.size ≤ w.heap.size + 1; omega) _).setCell (p := ⟨w.heap.size + 1, 1, none⟩) (by show w.heap.size ≤ w.heap.size + 1; omega) _
  exact ⟨_, ⟨[], []⟩, 1, rfl, fun W' _ => mcIn_nil W', hbf, .inr ⟨fun h => (by have h1 := HZ.out; rw [vldZ_true h] at h1; cases h1), rfl, rfl⟩⟩
 | true =>
  go_wp2_with fail;refine (HL.out _ HB1.out.bel (vldZ_iff.1 HZ.out)).mono ?_;rintro e w9 ⟨rv, m', rfl, hup, hb9, hok⟩;clear b0 b1 b2 b3 s0 s1;have HB2 := Lib.hid (HB1.out.later hb9);obtain ⟨ve9, va9, rfl, he9, ha9⟩ := id hup.mc;obtain ⟨A9, c9, rfl, -⟩ := he9.form;obtain ⟨B9, d9, rfl, -⟩ := ha9.form;obtain ⟨n9, hn9⟩ : ∃ n, m'.ed.length = n := ⟨_, rfl⟩;obtain ⟨m9, hm9⟩ : ∃ n, m'.ac.length = n := ⟨_, rfl⟩;rw [hn9, hm9] at hup ⊢;have hz9 := hb9.size;obtain ⟨b0, b1, rz0, rz1, s0, lR9⟩ := HB2.out.cells;have hR9 := HB2.out.r1;have gz0 : w9.frozen? ⟨w.heap.size + 1, 0, none⟩ = false := by simp [World.frozen?, hR9]
  have gz1 : w9.frozen? ⟨w.heap.size + 1, 1, none⟩ = false := by simp [World.frozen?, hR9]
  have HUP := Lib.hid (And.intro hup (And.intro hb9 hok));clear hup hb9 hok he9 ha9 hR9 hn9 hm9;go_wp2_with fail;refine post_named fun Wf hWf => ?_;refine bodyPost_ret (v := .tuple #[.agg #[.slice A9 n9 c9, .slice B9 m9 d9], .int .i64 0]) (by rw [hWf]; simp [results, Tryz.results22, go_sem, rz0, rz1, lR9]; try rfl) rfl ?_
  have hkl : KeepF [w.heap.size + 1] [] w9 Wf := by
   rw [hWf];have hne : ∀ k, k ∉ [w.heap.size + 1] → k ≠ w.heap.size + 1 := fun k hn e => hn (List.mem_singleton.2 e);exact ⟨rfl, rfl, rfl, by simp [World.setCell], fun k _ hn => (Below.heap_setCell (w9.setCell ⟨w.heap.size + 1, 0, none⟩ _) ⟨w.heap.size + 1, 1, none⟩ _ k (hne k hn)).trans (Below.heap_setCell w9 ⟨w.heap.size + 1, 0, none⟩ _ k (hne k hn)), fun k hk => by cases hk⟩
  have hsz := HB1.out.siz;have hbf : Below w.heap.size w Wf := HB2.out.bel.trans (hkl.below (fun k hk => by rw [List.mem_singleton] at hk; omega) HB2.out.bel.size)
  exact ⟨_, m', 0, rfl, (HUP.out.1.keep hkl (fun k hk => by rw [List.mem_singleton] at hk; omega)).mono HB1.out.bel.size, hbf, .inl ⟨vldZ_iff.1 HZ.out, rfl, HUP.out.2.2⟩⟩
theorem mleastz_any (v : Value) (m : Mz) (w : World) (hm : McInZ w v m) (hrl : ∀ r ∈ m.ed, r.length ≤ 10000) (hvr : VrOK w) : Calls Tryz.prog 21 #[v] w (LzPost m w) :=
 mleast_z v m w hm (fun r hr => by have := hrl r hr; omega) fun W hb hz => least_any v (cvM m) W ((hm.later hb).cv hz) hz.vld (hm.sm hz.n2 hrl) (by simpa [cvM] using hz.n1) (hvr.later hb)
theorem rleastz_any (v : Value) (m : Mz) (w : World) (hm : McInZ w v m) (hrl : ∀ r ∈ m.ed, r.length ≤ 10000) : Calls Tryz.prog 22 #[v] w (LzPost m w) :=
 rleast_z v m w hm (fun r hr => by have := hrl r hr; omega) fun W hb hz => rsmall_any v (cvM m) W ((hm.later hb).cv hz) hz.vld (hm.sm hz.n2 hrl) (by simpa [cvM] using hz.n1) (by simpa [cvM] using hz.n2)
end Go.Proofs.YtjhmipidmpmlmaaGreatDoor
