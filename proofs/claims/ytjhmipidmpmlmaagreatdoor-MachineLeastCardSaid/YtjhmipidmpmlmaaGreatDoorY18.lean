/- Walks: the reader of patterns at one text: its number. · Walks: a pattern written out. · Walks: a sequence written out. · Walks: a choice written out. · Walks: any pattern that is right written out. -/
import Derived.Test.YtjhmipidmpmlmaaGreatDoorY11
import Derived.LoopN
import Derived.Test.YtjhmipidmpmlmaaGreatDoorY17
import Derived.Deep.WholeRow
import Derived.Test.YtjhmipidmpmlmaaGreatDoorY13
namespace Go.Proofs.YtjhmipidmpmlmaaGreatDoor
set_option linter.unusedVariables false
set_option linter.unusedSimpArgs false
set_option maxRecDepth 100000
open Go.RowKit
def digT : ByteArray := ⟨#[48, 49, 50, 51, 52, 53, 54, 55, 56, 57]⟩
theorem setCells_at : (Lib.setCells digT.data.toList)[50]? = some (.bool true) ∧ (Lib.setCells digT.data.toList)[125]? = some (.bool false) ∧ (Lib.setCells digT.data.toList).size = 256 := ⟨by rfl, by rfl, by rfl⟩
theorem foldOne : ∀ (l : List UInt8) (a : Array Value), (∀ (i : Nat) (v : Value), a[i]? = some v → v.oneCell' = true) → ∀ (i : Nat) (v : Value), (l.foldl (fun a c => a.setIfInBounds c.toNat (.bool true)) a)[i]? = some v → v.oneCell' = true
 | [], _, h => h
 | c :: r, a, h => foldOne r _ fun i v hv => by
  rw [Array.getElem?_setIfInBounds] at hv
  split at hv
  ·split at hv
   ·injection hv with hv; rw [← hv]; rfl
   ·cases hv
  ·exact h i v hv
theorem setOne (l : List UInt8) : (Lib.setCells l).all (·.oneCell') = true := by
 rw [Array.all_eq_true];intro i hi;refine foldOne l (Array.replicate 256 (.bool false)) (fun j v hj => ?_) i _ (Array.getElem?_eq_getElem hi);rw [Array.getElem?_replicate] at hj
 split at hj
 ·injection hj with hj; rw [← hj]; rfl
 ·cases hj
theorem trimA_2 (b : Nat) (w : World) (h0 : w.cell? ⟨b, 50, none⟩ = some (.bool true)) (h1 : w.cell? ⟨b, 125, none⟩ = some (.bool false)) :
  Calls Tryz.prog 171 #[.string ⟨#[50, 125]⟩, .pointer (some ⟨b, 0, none⟩)] w fun e w' => e = .returned (.string ⟨#[125]⟩) ∧ w' = w := by
 have H0 := Lib.hid (Tryz.asciiSet_contains b 50 true w h0);have H1 := Lib.hid (Tryz.asciiSet_contains b 125 false w h1);clear h0 h1
 go_enter Tryz.func171, Tryz.ntmps171
 go_wp2_with fail;refine wp_loop_rounds 2 ?_;rw [rounds_succ];go_wp2_with fail;refine H0.out.mono ?_;rintro e w1 ⟨rfl, hw1⟩;subst hw1;go_wp2_with fail;rw [rounds_succ];go_wp2_with fail;refine H1.out.mono ?_;rintro e w2 ⟨rfl, hw2⟩;subst hw2;go_wp2_with fail;go_ret;exact ⟨rfl, rfl⟩
theorem trim_2 (w : World) : Calls Tryz.prog 163 #[.string ⟨#[50, 125]⟩, .string digT] w fun e w' => e = .returned (.string ⟨#[125]⟩) ∧ Below w.heap.size w w' := by
 have hz : ∀ w, (zeroValue 205).run Tryz.prog w = .ok (.agg (Array.replicate 256 (.bool false))) w := fun _ => by kernel_rfl
 have hm := Tryz.strings_makeASCIISet hz digT;have HM := Lib.hid (fun w => hm w (by decide) (fun j b hj => (show ∀ b ∈ digT.data.toList, b.toNat < 128 by decide) b (List.mem_of_getElem? hj)))
 clear hm;have hsc := setCells_at;unfold digT at HM hsc ⊢
 go_enter Tryz.func163, Tryz.ntmps163
 go_wp2_with fail;refine (HM.out _).mono ?_;rintro e w1 ⟨rfl, hw1⟩;subst hw1;obtain ⟨SC, hSC⟩ : ∃ c, Lib.setCells (⟨#[48, 49, 50, 51, 52, 53, 54, 55, 56, 57]⟩ : ByteArray).data.toList = c := ⟨_, rfl⟩;rw [hSC] at hsc ⊢;obtain ⟨s1, s2, s3⟩ := hsc;have hinf : (Tryz.prog.info? 205).map (·.size) = some 256 := by kernel_rfl
 have hone : SC.all (·.oneCell') = true := by rw [← hSC]; exact setOne _
 have hst := run_storeCells_new (P := Tryz.prog) (w.alloc (.cells SC 205)) 205 (Array.replicate 256 (.bool false)) SC (by rw [s3]; exact hinf) (by rw [s3]; simp) hone
 simp only [World.size_alloc] at hst;have HS := Lib.hid (And.intro s1 s2);clear hSC hinf hone s1 s2;go_wp2_with fail;clear hst;obtain ⟨W, hW⟩ : ∃ W, W = (w.alloc (.cells SC 205)).alloc (.cells SC 205) := ⟨_, rfl⟩;rw [← hW];have hrow : W.heap[w.heap.size + 1]? = some (.cells SC 205 (0, 0)) := by rw [hW]; simpa using heap_alloc_new (w.alloc (.cells SC 205)) (.cells SC 205)
 have hT := trimA_2 (w.heap.size + 1) W (by rw [cell_of_row _ _ _ _ _ _ hrow]; exact HS.out.1) (by rw [cell_of_row _ _ _ _ _ _ hrow]; exact HS.out.2)
 have HT := Lib.hid hT;have HB := Lib.hid (show Below w.heap.size w W by rw [hW]; exact ((Below.refl _ _).alloc (Nat.le_refl _) _).alloc (by simp) _)
 clear hrow hT hW;refine HT.out.mono ?_;rintro e w3 ⟨rfl, hw3⟩;subst hw3;go_wp2_with fail;go_ret;exact ⟨rfl, HB.out⟩
theorem atoi_2 (w : World) : Calls Tryz.prog 164 #[.string ⟨#[50]⟩] w fun e w' => e = .returned (.tuple #[.int .i64 2, .nilIface]) ∧ Below w.heap.size w w' := by
 refine (Tryz.strconv_Atoi_ok ⟨#[50]⟩ (by decide) 2 (by rfl) w).mono ?_
 rintro e w' ⟨rfl, hw⟩;refine ⟨rfl, ?_⟩;rcases hw with rfl | ⟨t, rfl⟩
 ·exact Below.refl _ _
 ·exact bw_below _ _ _
theorem number_2 (rb : Nat) (d : Int) (w : World) (h : RdW rb ⟨#[50, 125]⟩ false d w) :
  Calls Tryz.prog 156 #[.pointer (some ⟨rb, 0, none⟩)] w fun e w' => e = .returned (.int .i64 2) ∧ RdW rb ⟨#[125]⟩ false d w' ∧ KfR rb w w' := by
 have HT := Lib.hid trim_2;unfold digT at HT;obtain ⟨⟨c0, c1, c2⟩, ⟨f0, f1, f2⟩, hl⟩ := h.cells;have HR := Lib.hid h;clear h
 go_enter Tryz.func156, Tryz.ntmps156
 go_wp2_with fail;refine (HT.out w).mono ?_;rintro e w1 ⟨rfl, hb1⟩;have hr1 := HR.out.later hb1;have H1 := Lib.hid (And.intro hr1 hb1);have hd0 : ∀ d' : BelT w1.heap.size w1, d'.val.cell? ⟨rb, 0, none⟩ = some (.string ⟨#[50, 125]⟩) := fun d' => (hr1.later d'.property).cells.1.1;have hd1 : ∀ d' : BelT w1.heap.size w1, rb < d'.val.heap.size := fun d' => (hr1.later d'.property).cells.2.2;clear c0 c1 c2 f0 f1 f2 hl hb1 hr1;go_wp2_with fail;refine wp_region_below (Below.refl w1.heap.size w1) (by kernel_rfl) (by kernel_rfl) ?_
 repeat (go_big_quiet_step ((go_at_call 164; exact Calls.below_of (Nat.le_refl _) (atoi_2 _))))
 refine wpQuiet_nil ?_;intro w2 hw';have hw2 : Below w1.heap.size w1 w2 := by obtain ⟨d9, rfl⟩ := hw'; exact d9.property
 clear hw';have hr2 := H1.out.1.later hw2;obtain ⟨⟨c0, c1, c2⟩, ⟨f0, f1, f2⟩, hl⟩ := hr2.cells;have H2 := Lib.hid (And.intro hr2 (show KfR rb w w2 from (kfr_below H1.out.2).tr (kfr_below hw2)));clear hd0 hd1 hr2 hw2;go_wp2_with fail;refine post_named fun Wf hWf => ?_;subst hWf;refine bodyPost_ret (v := .int .i64 2) (by simp [results, Tryz.results156, go_sem]; try rfl) rfl ?_
 refine ⟨rfl, ?_, (H2.out.2.tr kfr_set).tr kfr_set⟩;have h1 := set_row3 (set_row3 H2.out.1 1 (.bool false)) 0 (.string ⟨#[125]⟩);simpa [RdW] using h1
def factW12 (w0 : World) (s : Nat) (x2 x3 x4 : Value) (b : Pb) (fp : List Nat) (Lg : List Nat → Prop) (pk KK : Nat) (W : World) (vo1 vo2 : Value) (eo : Bool) (kv : Value) (xo : Prt) : Nat → Nat → Value → World → Prop
 | c, 0, x, w => x = .pointer (some ⟨s, 0, none⟩)
 | c, 1, x, w => x = .agg #[vo1, vo2, .bool eo]
 | c, 2, x, w => x = .pointer (some ⟨s, 0, none⟩)
 | c, 3, x, w => x = kv
 | c, 4, x, w => c = 1 → WrP w0 s x2 x3 x4 b fp Lg pk KK W (.returned x) w
 | c, 5, x, w => c = 2 → CpR w0 s x2 x3 x4 b fp Lg pk KK xo W x w
 | _, _, _, _ => True
def EiR (w0 : World) (s : Nat) (x2 x3 x4 : Value) (b : Pb) (fp : List Nat) (Lg : List Nat → Prop) (pk KK : Nat) (xo : Prt) (W : World) (x : Value) (w : World) : Prop :=
 ∃ b' y fp2 u1 u2, x = .agg #[u1, u2, .bool (eitP xo y).emp] ∧ BuI w0 s x2 x3 x4 b' fp2 w ∧ KeepF fp fp2 W w ∧ (IL w u1 (eitP xo y).first ∧ outOf fp2 u1) ∧ (IL w u2 (eitP xo y).last ∧ outOf fp2 u2) ∧ Wr b b' y Lg ∧ b'.fol.length = b.fol.length + pk ∧ (y.first ≠ [] ∧ y.last ≠ []) ∧ (y.first.length ≤ pk ∧ y.last.length ≤ pk) ∧ ∀ l ∈ b'.fol, l.length ≤ KK
def factW19 (w0 : World) (s : Nat) (x2 x3 x4 : Value) (b : Pb) (fp : List Nat) (Lg : List Nat → Prop) (pk KK : Nat) (W : World) (vo1 vo2 : Value) (eo : Bool) (kv : Value) (xo : Prt) : Nat → Nat → Value → World → Prop
 | c, 0, x, w => x = .agg #[vo1, vo2, .bool eo]
 | c, 1, x, w => x = .pointer (some ⟨s, 0, none⟩)
 | c, 2, x, w => x = kv
 | c, 3, x, w => c = 1 → WrP w0 s x2 x3 x4 b fp Lg pk KK W (.returned x) w
 | c, 4, x, w => c = 2 → EiR w0 s x2 x3 x4 b fp Lg pk KK xo W x w
 | _, _, _, _ => True
structure WrMem (w0 : World) (s : Nat) (x2 x3 x4 : Value) (fp : List Nat) (w : World) (nb : Array Value) (bi : Pb) (fpi : List Nat) (xo : Prt) (vo1 vo2 : Value) (wr : World) : Prop where
 bu : BuI w0 s x2 x3 x4 bi fpi wr
 kf : KeepF fp fpi w wr
 ap : ∀ q ∈ fpi, q < w.heap.size ∨ w.heap.size + 3 ≤ q
 n0 : wr.heap[w.heap.size]? = some (.cells nb 29 (0, 0))
 n1 : wr.heap[w.heap.size + 1]? = some (.cells #[.slice none 0 0, .slice none 0 0, .bool false] 72 (0, 0))
 n2 : wr.heap[w.heap.size + 1 + 1]? = some (.cells #[vo1, vo2, .bool xo.emp] 72 (0, 0))
 sz : w.heap.size + 3 ≤ wr.heap.size
 o1 : IL wr vo1 xo.first ∧ outOf fpi vo1
 o2 : IL wr vo2 xo.last ∧ outOf fpi vo2
section
variable {w0 : World} {s : Nat} {x2 x3 x4 : Value} {fp : List Nat} {w : World} {nb : Array Value} {bi : Pb} {fpi : List Nat} {xo : Prt} {vo1 vo2 : Value} {wr : World}
theorem WrMem.later (h : WrMem w0 s x2 x3 x4 fp w nb bi fpi xo vo1 vo2 wr) {W : World} (hb : Below wr.heap.size wr W) : WrMem w0 s x2 x3 x4 fp w nb bi fpi xo vo1 vo2 W := by
 have hz := h.sz;exact ⟨h.bu.later hb, h.kf.trans (KeepF.of_below hb), h.ap, (hb.block _ (by omega)).trans h.n0, (hb.block _ (by omega)).trans h.n1, (hb.block _ (by omega)).trans h.n2, Nat.le_trans hz hb.size, ⟨h.o1.1.later hb, h.o1.2⟩, ⟨h.o2.1.later hb, h.o2.2⟩⟩
theorem WrMem.notin (h : WrMem w0 s x2 x3 x4 fp w nb bi fpi xo vo1 vo2 wr) (k : Nat) (h1 : w.heap.size ≤ k) (h2 : k < w.heap.size + 3) : k ∉ fpi := fun hm => by have := h.ap k hm; omega
theorem WrMem.out (h : WrMem w0 s x2 x3 x4 fp w nb bi fpi xo vo1 vo2 wr) {b2 : Pb} {x' : Prt} {fp2 : List Nat} {u1 u2 : Value} {wz : World} (hb2 : BuI w0 s x2 x3 x4 b2 fp2 wz) (hk2 : KeepF fpi fp2 wr wz) (hu1 : IL wz u1 x'.first ∧ outOf fp2 u1) (hu2 : IL wz u2 x'.last ∧ outOf fp2 u2) (hw : w0.heap.size ≤ w.heap.size) :
  WrMem w0 s x2 x3 x4 fp w nb b2 fp2 x' u1 u2 (st3 wz (w.heap.size + 1 + 1) u1 u2 (.bool x'.emp)) := by
 have hz := h.sz;have hz2 := hk2.size;have hnew : ∀ q ∈ fp2, q < w.heap.size ∨ w.heap.size + 3 ≤ q := fun q hq => (hk2.new q hq).elim (h.ap q) fun h => .inr (by omega)
 have hn : ∀ k, w.heap.size ≤ k → k < w.heap.size + 3 → k ∉ fp2 := fun k h1 h2 hm => by have := hnew k hm; omega
 have m0 := (hk2.blk _ (by omega) (h.notin _ (Nat.le_refl _) (by omega))).trans h.n0
 have m1 := (hk2.blk _ (by omega) (h.notin _ (by omega) (by omega))).trans h.n1
 have m2 := (hk2.blk _ (by omega) (h.notin _ (by omega) (by omega))).trans h.n2
 obtain ⟨q1, q2⟩ := beh_end hb2 (h.kf.trans hk2) hw (show w.heap.size ≤ w.heap.size + 1 + 1 by omega) (by omega) (hn _ (by omega) (by omega)) (st3_gb wz (w.heap.size + 1 + 1) u1 u2 (.bool x'.emp))
 obtain ⟨Ao1, co1, e1, -⟩ := h.o1.1.form;obtain ⟨Ao2, co2, e2, -⟩ := h.o2.1.form;rw [e1, e2] at m2;exact ⟨q1, q2, hnew, (st3_old (by omega) _ _ _).trans m0, (st3_old (by omega) _ _ _).trans m1, st3_row m2 _ _ _, by rw [st3_size]; omega,
  ⟨hu1.1.st3 (hu1.1.apart m2) _ _ _, hu1.2⟩, ⟨hu2.1.st3 (hu2.1.apart m2) _ _ _, hu2.2⟩⟩
theorem WrMem.fin (h : WrMem w0 s x2 x3 x4 fp w nb bi fpi xo vo1 vo2 wr) (hw : w0.heap.size ≤ w.heap.size) {W : World} (hg : wr.grownBy W (some (w.heap.size + 1))) : BuI w0 s x2 x3 x4 bi fpi W ∧ KeepF fp fpi w W ∧ (IL W vo1 xo.first ∧ outOf fpi vo1) ∧ (IL W vo2 xo.last ∧ outOf fpi vo2) := by
 have hz := h.sz;obtain ⟨q1, q2⟩ := beh_end h.bu h.kf hw (show w.heap.size ≤ w.heap.size + 1 by omega) (by omega) (h.notin _ (by omega) (by omega)) hg
 have hil : ∀ {v : Value} {l : List Nat}, IL wr v l → IL W v l := fun {v l} hi => by
  have hap := hi;have hne := hi.apart h.n1;rcases hi with hi | ⟨g, f, c', rfl, h0, hg', hc, hcell⟩
  ·exact .inl hi
  ·have hgk : g ≠ w.heap.size + 1 := fun e => hne h0 (by rw [e]; rfl)
   exact .inr ⟨g, f, c', rfl, h0, Nat.lt_of_lt_of_le hg' hg.size, hc, fun i hi => (World.cell?_of_block (a := ⟨g, f + i, none⟩) (hg.block g hg' (fun e => by injection e with e; exact hgk e))).trans (hcell i hi)⟩
 exact ⟨q1, q2, ⟨hil h.o1.1, h.o1.2⟩, ⟨hil h.o2.1, h.o2.2⟩⟩
end
theorem posS_snoc (k : Nd) : ∀ l : List Nd, posS (l ++ [k]) = posS l + posF k
 | [] => by simp [posS]
 | a :: r => by rw [List.cons_append, posS, posS, posS_snoc k r]; omega
theorem cstS_snoc (k : Nd) : ∀ l : List Nd, cstS (l ++ [k]) = cstS l + (cstF k + 360000)
 | [] => by simp [cstS]
 | a :: r => by rw [List.cons_append, cstS, cstS, cstS_snoc k r]; omega
theorem posS_le (l : List Nd) (k : Nat) : posS (l.take k) ≤ posS l := by
 induction l generalizing k with
 | nil => simp
 | cons a r ih =>
  cases k with
  | zero => simp [posS]
  | succ k => rw [List.take_succ_cons, posS, posS]; have := ih k; omega
theorem cstS_le (l : List Nd) (k : Nat) : cstS (l.take k) ≤ cstS l := by
 induction l generalizing k with
 | nil => simp
 | cons a r ih =>
  cases k with
  | zero => simp [cstS]
  | succ k => rw [List.take_succ_cons, cstS, cstS]; have := ih k; omega
theorem take_snoc {α : Type} {l : List α} {k : Nat} {x : α} (h : l[k]? = some x) : l.take (k + 1) = l.take k ++ [x] := by
 obtain ⟨h1, h2⟩ := List.getElem?_eq_some_iff.1 h;rw [List.take_succ_eq_append_getElem h1, h2]
structure KidI (b bi : Pb) (Lg : List Nat → Prop) (k n : Nat) (xo : Prt) (K : Nat) : Prop where
 wr : Wr b bi xo Lg
 fl : bi.fol.length = b.fol.length + n
 ln : xo.first.length ≤ n ∧ xo.last.length ≤ n
 bd : ∀ l ∈ bi.fol, l.length ≤ K
 ne : (k = 0 ∧ xo.emp = true) ∨ (xo.first ≠ [] ∧ xo.last ≠ [])
theorem KidI.seq {b bi b' : Pb} {kids : List Nd} {k : Nat} {kd : Nd} {xo y : Prt} {K : Nat} (h : KidI b bi (langS (kids.take k)) k (posS (kids.take k)) xo (K + cstS (kids.take k))) (hk : kids[k]? = some kd) (hy : Wr bi b' y (langN kd)) (hl : b'.fol.length = bi.fol.length + posF kd) (hln : y.first.length ≤ posF kd ∧ y.last.length ≤ posF kd)
  (hbd : ∀ l ∈ b'.fol, l.length ≤ K + cstS (kids.take k) + cstF kd) (h600 : xo.last.length ≤ 600) (hy600 : y.first.length ≤ 600) (hne : y.first ≠ [] ∧ y.last ≠ []) :
  KidI b (behB b' xo y) (langS (kids.take (k + 1))) (k + 1) (posS (kids.take (k + 1))) (behP xo y) (K + cstS (kids.take (k + 1))) := by
 rw [take_snoc hk, posS_snoc, cstS_snoc];refine ⟨(h.wr.beh hy).iff fun w => (langS_snoc _ _ _).symm, ?_, ?_, fun l hl' => ?_, .inr ⟨?_, ?_⟩⟩
 ·unfold behB; rw [addF_len, hl, h.fl]; omega
 ·have := h.ln;unfold behP;constructor
  ·simp only; split
   ·rw [List.length_append]; omega
   ·omega
  ·simp only; split
   ·rw [List.length_append]; omega
   ·omega
 ·have h1 := addF_le y.first xo.last b'.fol _ hbd l hl';have h2 : xo.last.length * y.first.length ≤ 600 * 600 := Nat.mul_le_mul h600 hy600;omega
 ·unfold behP;simp only
  split
  ·intro e; exact hne.1 (List.append_eq_nil_iff.1 e).2
  ·next he => exact (h.ne.resolve_left fun hx => he hx.2).1
 ·unfold behP;simp only
  split
  ·intro e; exact hne.2 (List.append_eq_nil_iff.1 e).2
  ·exact hne.2
theorem KidI.cho {b bi b' : Pb} {kids : List Nd} {k : Nat} {kd : Nd} {xo y : Prt} {K : Nat} (h : KidI b bi (langC (kids.take k)) k (posS (kids.take k)) xo (K + cstS (kids.take k))) (hk : kids[k]? = some kd) (hy : Wr bi b' y (langN kd)) (hl : b'.fol.length = bi.fol.length + posF kd) (hln : y.first.length ≤ posF kd ∧ y.last.length ≤ posF kd)
  (hbd : ∀ l ∈ b'.fol, l.length ≤ K + cstS (kids.take k) + cstF kd) (hne : y.first ≠ [] ∧ y.last ≠ []) :
  KidI b b' (langC (kids.take (k + 1))) (k + 1) (posS (kids.take (k + 1))) (eitP xo y) (K + cstS (kids.take (k + 1))) := by
 rw [take_snoc hk, posS_snoc, cstS_snoc];refine ⟨(h.wr.eit hy).iff fun w => (langC_snoc _ _ _).symm, by rw [hl, h.fl]; omega, ?_, fun l hl' => by have := hbd l hl'; omega, .inr ⟨?_, ?_⟩⟩
 ·have := h.ln;unfold eitP;simp only [List.length_append];omega
 ·unfold eitP; intro e; exact hne.1 (List.append_eq_nil_iff.1 e).2
 ·unfold eitP; intro e; exact hne.2 (List.append_eq_nil_iff.1 e).2
theorem WrMem.start {w0 : World} {s : Nat} {x2 x3 x4 : Value} {b : Pb} {fp : List Nat} {w : World} (hbu : BuI w0 s x2 x3 x4 b fp w) (nb : Array Value) :
  WrMem w0 s x2 x3 x4 fp w nb b fp ⟨[], [], true⟩ (.slice none 0 0) (.slice none 0 0) (((w.alloc (.cells nb 29)).alloc (.cells #[.slice none 0 0, .slice none 0 0, .bool false] 72)).alloc (.cells #[.slice none 0 0, .slice none 0 0, .bool true] 72)) := by
 have hB := ((((Below.refl w.heap.size w).alloc (Nat.le_refl _) (.cells nb 29)).alloc (by simp) (.cells #[.slice none 0 0, .slice none 0 0, .bool false] 72)).alloc (by simp <;> omega) (.cells #[.slice none 0 0, .slice none 0 0, .bool true] 72))
 have hnil : ∀ (W : World) (fq : List Nat), IL W (.slice none 0 0) [] ∧ outOf fq (.slice none 0 0) := fun W fq => ⟨.inl ⟨rfl, rfl⟩, fun g hg => by simp [Value.ownBlock] at hg⟩
 refine ⟨hbu.later hB, KeepF.of_below hB, fun q hq => .inl (hbu.lt q hq).2, ?_, ?_, ?_, by simp, hnil _ _, hnil _ _⟩
 ·rw [old_alloc _ _ _ (by simp <;> omega), old_alloc _ _ _ (by simp)]; exact heap_alloc_new w _
 ·rw [old_alloc _ _ _ (by simp)]; simpa using heap_alloc_new (w.alloc _) _
 ·simpa using heap_alloc_new ((w.alloc _).alloc _) _
set_option maxHeartbeats 8000000 in
theorem write_rep (w0 : World) (s : Nat) (x2 x3 x4 : Value) (rs : List (Nat × Nat)) (kd : Nd) (mn mx : Int) (A1 : Option Addr) (c1 g f c : Nat) (kvs : List Value) (hR : rightF (.mk 4 rs [kd] mn mx) = true) (hpos : posF (.mk 4 rs [kd] mn mx) ≤ 600)
  (hg : g < w0.heap.size) (hc : 1 ≤ c ∧ c ≤ 9223372036854775807) (hkd : NdIn w0 kd kvs) (hkc : ∀ j, j < 5 → w0.cell? ⟨g, f + j, none⟩ = kvs[j]?) (hw : WrCall w0 s x2 x3 x4 kd kvs) :
  WrCall w0 s x2 x3 x4 (.mk 4 rs [kd] mn mx) [.int .i64 4, .slice A1 rs.length c1, .slice (some ⟨g, f, none⟩) 1 c, .int .i64 mn, .int .i64 mx] := by
 intro w b fp K hbu hln hrm hK hKK;have hM0 := WrMem.start hbu #[.int .i64 4, .slice A1 rs.length c1, .slice (some ⟨g, f, none⟩) 1 c, .int .i64 mn, .int .i64 mx];have hcp := fun (W : World) (fq : List Nat) (h : BuI w0 s x2 x3 x4 b fq W) => copies_any w0 s x2 x3 x4 rs kd mn mx A1 c1 g f c kvs hR hpos hg hc hkd hkc hw W b fq K h hln hrm hK hKK;have HM0 := Lib.hid hM0;have HCP := Lib.hid hcp;have hw00 := hbu.bel.size;show Calls Tryz.prog _ #[_, .agg #[.int .i64 4, .slice A1 rs.length c1, .slice (some ⟨g, f, none⟩) 1 c, .int .i64 mn, .int .i64 mx]] w _;clear hR hkd hkc hw hbu hln hK hKK hM0 hcp hpos hrm
 go_enter Tryz.func35, Tryz.ntmps35
 go_wp2_with fail;refine (HCP.out _ _ HM0.out.bu).mono ?_;rintro e w1 ⟨b', x, fp', v1, v2, rfl, hb', hk', hi1, hi2, hwr, hfl, hne, hl, hbd⟩;obtain ⟨Av1, cv1, rfl, -⟩ := hi1.1.form;obtain ⟨Av2, cv2, rfl, -⟩ := hi2.1.form;have hM1 := HM0.out.out hb' hk' hi1 hi2 hw00;have HM1 := Lib.hid hM1;have HP := Lib.hid (And.intro hwr (And.intro hfl (And.intro hne (And.intro hl hbd))));have hz := hk'.size;have hz0 := HM0.out.sz;have hr1 := (hk'.blk _ (by omega) (HM0.out.notin (w.heap.size + 1) (by omega) (by omega))).trans HM0.out.n1
 have hr2 := (hk'.blk _ (by omega) (HM0.out.notin (w.heap.size + 1 + 1) (by omega) (by omega))).trans HM0.out.n2
 obtain ⟨y0, y1, y2⟩ := cells3 hr1;obtain ⟨q0, q1, q2⟩ := cells3 hr2;have fy0 : w1.frozen? ⟨w.heap.size + 1, 0, none⟩ = false := by simp [World.frozen?, hr1]
 have fy1 : w1.frozen? ⟨w.heap.size + 1, 1, none⟩ = false := by simp [World.frozen?, hr1]
 have fy2 : w1.frozen? ⟨w.heap.size + 1, 2, none⟩ = false := by simp [World.frozen?, hr1]
 have fq0 : w1.frozen? ⟨w.heap.size + 1 + 1, 0, none⟩ = false := by simp [World.frozen?, hr2]
 have fq1 : w1.frozen? ⟨w.heap.size + 1 + 1, 1, none⟩ = false := by simp [World.frozen?, hr2]
 have fq2 : w1.frozen? ⟨w.heap.size + 1 + 1, 2, none⟩ = false := by simp [World.frozen?, hr2]
 clear hb' hk' hi1 hi2 hwr hfl hne hl hbd hM1 hr1 hr2;go_wp2_with fail;refine post_named fun Wf hWf => ?_;have hgb : (st3 w1 (w.heap.size + 1 + 1) (.slice Av1 x.first.length cv1) (.slice Av2 x.last.length cv2) (.bool x.emp)).grownBy Wf (some (w.heap.size + 1)) := by
  rw [hWf]; repeat (first | exact gb_refl _ _ | refine gb_alloc ?_ _ | refine gb_setN ?_ _ _ | refine gb_drew ?_)
 obtain ⟨t1, t2, t3, t4⟩ := HM1.out.fin hw00 hgb;refine bodyPost_ret (v := .agg #[.slice Av1 x.first.length cv1, .slice Av2 x.last.length cv2, .bool x.emp]) (by rw [hWf]; simp [results, Tryz.results35, go_sem, y0, y1, y2, q0, q1, q2]; try rfl) rfl ?_
 exact ⟨b', x, fp', _, _, rfl, t1, t2, t3, t4, HP.out.1, HP.out.2.1, HP.out.2.2.1, HP.out.2.2.2.1, HP.out.2.2.2.2⟩
theorem kid_cells {w0 : World} {kids : List Nd} {g f k : Nat} (hk : k < kids.length) (h : KdsIn w0 kids g f) : ∃ kd B1 e1 B2 e2, kids[k]? = some kd ∧ NdIn w0 kd [.int .i64 kd.op, .slice B1 kd.rs.length e1, .slice B2 kd.kids.length e2, .int .i64 kd.mn, .int .i64 kd.mx] ∧
  ∀ wz : World, wz.heap[g]? = w0.heap[g]? → wz.cell? ⟨g, f + k * 5, none⟩ = some (.int .i64 kd.op) ∧ wz.cell? ⟨g, f + k * 5 + 1, none⟩ = some (.slice B1 kd.rs.length e1) ∧ wz.cell? ⟨g, f + k * 5 + 2, none⟩ = some (.slice B2 kd.kids.length e2) ∧ wz.cell? ⟨g, f + k * 5 + 3, none⟩ = some (.int .i64 kd.mn) ∧ wz.cell? ⟨g, f + k * 5 + 4, none⟩ = some (.int .i64 kd.mx) := by
 obtain ⟨vs, h1, h2⟩ := h.at k hk;obtain ⟨kd, hkd⟩ : ∃ kd, kids[k] = kd := ⟨_, rfl⟩;rw [hkd] at h2;obtain ⟨B1, e1, B2, e2, rfl, -, -, -⟩ := h2.form;refine ⟨kd, B1, e1, B2, e2, by rw [List.getElem?_eq_getElem hk, hkd], h2, fun wz hz => ?_⟩
 have hc := fun j (hj : j < 5) => (World.cell?_of_block (a := ⟨g, f + k * 5 + j, none⟩) hz).trans (h1 j hj);exact ⟨hc 0 (by omega), hc 1 (by omega), hc 2 (by omega), hc 3 (by omega), hc 4 (by omega)⟩
theorem posS_step {kids : List Nd} {k : Nat} {kd : Nd} (hk : kids[k]? = some kd) : posS (kids.take k) + posF kd ≤ posS kids := by
 have h1 := posS_le kids (k + 1);rw [take_snoc hk, posS_snoc] at h1;exact h1
theorem cstS_step {kids : List Nd} {k : Nat} {kd : Nd} (hk : kids[k]? = some kd) : cstS (kids.take k) + (cstF kd + 360000) ≤ cstS kids := by
 have h1 := cstS_le kids (k + 1);rw [take_snoc hk, cstS_snoc] at h1;exact h1
set_option maxHeartbeats 16000000 in
theorem write_seq (w0 : World) (s : Nat) (x2 x3 x4 : Value) (rs : List (Nat × Nat)) (kids : List Nd) (mn mx : Int) (A1 : Option Addr) (c1 g f c : Nat) (hR : rightF (.mk 2 rs kids mn mx) = true) (hpos : posF (.mk 2 rs kids mn mx) ≤ 600)
  (hg : g < w0.heap.size) (hc : kids.length ≤ c ∧ c ≤ 9223372036854775807) (hkd : KdsIn w0 kids g f) (hw : ∀ kd ∈ kids, ∀ vs, NdIn w0 kd vs → WrCall w0 s x2 x3 x4 kd vs) :
  WrCall w0 s x2 x3 x4 (.mk 2 rs kids mn mx) [.int .i64 2, .slice A1 rs.length c1, .slice (some ⟨g, f, none⟩) kids.length c, .int .i64 mn, .int .i64 mx] := by
 intro w b fp K hbu hln hrm hK hKK;have hM0 := WrMem.start hbu #[.int .i64 2, .slice A1 rs.length c1, .slice (some ⟨g, f, none⟩) kids.length c, .int .i64 mn, .int .i64 mx];have hkn := kids_ge hR (.inl rfl);have hpe := pos_seq (.inl rfl) hpos;have hce : cstF (.mk 2 rs kids mn mx) = cstS kids := by rw [cstF, if_neg (by decide), if_neg (by decide)]
 have hlang : langN (.mk 2 rs kids mn mx) = langS kids := by funext z; simp [langN]
 have hB0 := hbu.bel.size;rw [hpe] at hpos hrm ⊢;rw [hce] at hKK ⊢;rw [hlang];have hst0 : KidI b b (langS (kids.take 0)) 0 (posS (kids.take 0)) ⟨[], [], true⟩ (K + cstS (kids.take 0)) := ⟨(Wr.nil b hln).iff fun w => Iff.rfl, rfl, ⟨Nat.zero_le _, Nat.zero_le _⟩, fun l hl => by simpa [cstS] using hK l hl, .inl ⟨rfl, rfl⟩⟩
 have HM0 := Lib.hid hM0;have HST0 := Lib.hid hst0;have HW := Lib.hid hw;have HKD := Lib.hid hkd;obtain ⟨n, hn⟩ : ∃ n, kids.length = n := ⟨_, rfl⟩;obtain ⟨PS, hPS⟩ : ∃ P, posS kids = P := ⟨_, rfl⟩;obtain ⟨CS, hCS⟩ : ∃ P, cstS kids = P := ⟨_, rfl⟩;show Calls Tryz.prog _ #[_, .agg #[.int .i64 2, .slice A1 rs.length c1, .slice (some ⟨g, f, none⟩) kids.length c, .int .i64 mn, .int .i64 mx]] w _;rw [hn] at hc hkn ⊢;rw [hn] at HM0;rw [hPS] at hpos hrm ⊢;rw [hCS] at hKK ⊢;have HN := Lib.hid (And.intro hn (And.intro hPS hCS));clear hR hpe hce hlang hbu hw hkd hK hst0 hM0 hn hPS hCS hln
 go_enter Tryz.func35, Tryz.ntmps35
 go_wp2_with fail
 go_loopw [54] (fun iv wr => ∃ (k : Nat) (bi : Pb) (fpi : List Nat) (xo : Prt) (vo1 vo2 : Value), k ≤ n ∧ iv = .int .i64 (k : Int) ∧ Hid (WrMem w0 s x2 x3 x4 fp w #[.int .i64 2, .slice A1 rs.length c1, .slice (some ⟨g, f, none⟩) n c, .int .i64 mn, .int .i64 mx] bi fpi xo vo1 vo2 wr) ∧ Hid (KidI b bi (langS (kids.take k)) k (posS (kids.take k)) xo (K + cstS (kids.take k)))) (fun iv _ => n - (intOf iv).toNat)
 case atStart =>
  exact ⟨0, b, fp, ⟨[], [], true⟩, .slice none 0 0, .slice none 0 0, by omega, rfl, HM0, HST0⟩
 case round =>
  obtain ⟨k, bi, fpi, xo, vo1, vo2, hi, rfl, HM, HI⟩ := hrel;by_cases hlt : k < n
  ·have hd : decide ((k : Int) < (n : Int)) = true := decide_eq_true (by omega)
   have hdn : decide (k < n) = true := decide_eq_true hlt;obtain ⟨kd, B1, e1, B2, e2, hkd, hnd, hkc⟩ := kid_cells (k := k) (by rw [HN.out.1]; exact hlt) HKD.out
   obtain ⟨Ao1, co1, rfl, -⟩ := HM.out.o1.1.form;obtain ⟨Ao2, co2, rfl, -⟩ := HM.out.o2.1.form;obtain ⟨eo, heo⟩ : ∃ eo, xo.emp = eo := ⟨_, rfl⟩;have hw00 : w0.heap.size ≤ w.heap.size := hB0;have hsz0 := HM.out.sz;have hgr : wr.heap[g]? = w0.heap[g]? := HM.out.bu.bel.block g hg;have hglr : g < wr.heap.size := by have := HM.out.bu.bel.size; omega
   obtain ⟨k0, k1, k2, k3, k4⟩ := hkc wr hgr;have hps := posS_step hkd;have hcs := cstS_step hkd;rw [HN.out.2.1] at hps;rw [HN.out.2.2] at hcs;have hwc := HW.out kd (List.mem_of_getElem? hkd) _ hnd;have hin := HI.out;obtain ⟨pk, hpk⟩ : ∃ p, posS (kids.take k) = p := ⟨_, rfl⟩;obtain ⟨K0, hK0⟩ : ∃ p, K + cstS (kids.take k) = p := ⟨_, rfl⟩;rw [hpk, hK0] at hin;rw [hpk] at hps;have hKc : K0 + cstF kd ≤ 10000000000 := by omega
   have hpk600 : pk ≤ 600 := by omega
   have hpkd : posF kd ≤ 600 := by omega
   have HKD1 := Lib.hid hkd;have HWC := Lib.hid hwc;have HKX := Lib.hid (And.intro hpk hK0);have hfl := hin.fl;have hlen := hin.wr.len;have hroom : bi.fol.length + posF kd ≤ 600 := by omega
   have HROOM := Lib.hid (And.intro hroom hlen);have HKK := Lib.hid hin.bd;have HXL := Lib.hid (show ∀ p ∈ xo.last, p < bi.fol.length from fun p hp => (hin.wr.good.lst p hp).2);have HLO := Lib.hid (show xo.first.length ≤ 600 ∧ xo.last.length ≤ 600 from ⟨by have := hin.ln; omega, by have := hin.ln; omega⟩)
   have HEO := Lib.hid heo;have HKC := Lib.hid hkc;have HRM := Lib.hid (And.intro hps hcs);have hn2 := HM.out.n2;rw [heo] at hn2;obtain ⟨oo0, oo1, oo2⟩ := cells3 hn2;have HX0 := Lib.hid (And.intro hps hcs);clear hkd hnd hkc hwc hin hpk hfl hlen hroom hcs heo hn2 hK0 hgr hps;go_wp2_with fail;refine wp_named fun W hW => ?_;have hbW : Below wr.heap.size wr W := by rw [hW]; exact (Below.refl _ _).alloc (Nat.le_refl _) _
   have hMW := HM.out.later hbW;have hKB : W.heap[wr.heap.size]? = some (.cells #[.int .i64 kd.op, .slice B1 kd.rs.length e1, .slice B2 kd.kids.length e2, .int .i64 kd.mn, .int .i64 kd.mx] 29 (0, 0)) := by rw [hW]; exact heap_alloc_new wr _
   have hzW : W.heap.size = wr.heap.size + 1 := by rw [hW]; simp
   have l2 : w.heap.size + 1 + 1 < W.heap.size := by omega
   have lk : wr.heap.size < W.heap.size := by omega
   have n2 := hMW.notin (w.heap.size + 1 + 1) (by omega) (by omega)
   have nk : wr.heap.size ∉ fpi := fun hm => by have := (HM.out.bu.lt _ hm).2; omega
   have hn2 := hMW.n2;rw [HEO.out] at hn2;obtain ⟨o0, o1, o2⟩ := cells3 hn2;have HBU := Lib.hid hMW.bu;have HIO := Lib.hid (And.intro hMW.o1.1 (And.intro hMW.o1.2 (And.intro hMW.o2.1 hMW.o2.2)));have HKB := Lib.hid hKB;have HMW := Lib.hid hMW;have HBW := Lib.hid hbW;clear hW hbW hMW hKB hn2 k0 k1 k2 k3 k4 oo0 oo1 oo2;have hS0 : StC6 fpi W 0 W.drew := ⟨(KeepF.of_below (Below.refl _ _).drew).weak, fun _ => (Below.refl _ _).drew⟩;refine wp_region_chain 6 [4, 5] (factW12 w0 s x2 x3 x4 bi fpi (langN kd) (posF kd) (K0 + cstF kd) W (.slice Ao1 xo.first.length co1) (.slice Ao2 xo.last.length co2) eo (.agg #[.int .i64 kd.op, .slice B1 kd.rs.length e1, .slice B2 kd.kids.length e2, .int .i64 kd.mn, .int .i64 kd.mx]) xo) (fun c w' => StC6 fpi W c w') (by kernel_rfl) (by kernel_rfl) (by kernel_rfl) (by kernel_rfl) (by kernel_rfl) (by kernel_rfl) (by decide) hS0 ?_ ?_
   ·simp only [pq4, pq5];refine HSteps.pure (by decide) ?_ (HSteps.pure (by decide) ?_ (HSteps.pure (by decide) ?_ (HSteps.pure (by decide) ?_ (HSteps.eff 0 rfl ?_ (HSteps.eff 1 rfl ?_ (HSteps.nil))))))
    all_goals first | (intro v wz c hlo hS hE K hK;simp only [putAll, Act.put, pq1, pq2, pq3, Nat.zero_add, Nat.reduceAdd, pq4, pq5] at hK ⊢) | (intro v wz hS hE K hK;simp only [putAll, Act.put, pq1, pq2, pq3, Nat.zero_add, Nat.reduceAdd, pq4, pq5] at hK ⊢)
    ·have HX := Lib.hid hS;clear hS hE hlo;go_wp2_with fail;exact hK.out _ rfl
    ·have cx0 := (World.cell?_of_block (a := ⟨w.heap.size + 1 + 1, 0, none⟩) (hS.1.blk _ l2 n2)).trans o0;have cx1 := (World.cell?_of_block (a := ⟨w.heap.size + 1 + 1, 1, none⟩) (hS.1.blk _ l2 n2)).trans o1;have cx2 := (World.cell?_of_block (a := ⟨w.heap.size + 1 + 1, 2, none⟩) (hS.1.blk _ l2 n2)).trans o2;have HX := Lib.hid hS;clear hS hE hlo;go_wp2_with fail;exact hK.out _ rfl
    ·have HX := Lib.hid hS;clear hS hE hlo;go_wp2_with fail;exact hK.out _ rfl
    ·obtain ⟨k0, k1, k2, k3, k4⟩ := cells5 ((hS.1.blk _ lk nk).trans HKB.out);have HX := Lib.hid hS;clear hS hE hlo;go_wp2_with fail;exact hK.out _ rfl
    ·have e2 : v 2 = _ := hE.1 rfl;have e3 : v 3 = _ := hE.2.1 rfl;rw [e2, e3] at hK ⊢;have hz := hS.2 rfl;have hcall := HWC.out wz bi fpi K0 (HBU.out.later hz) HROOM.out.2 HROOM.out.1 HKK.out hKc;have HC := Lib.hid hcall;have HX := Lib.hid hS;clear hS hE hcall;go_wp2_with fail;refine HC.out.mono ?_;rintro e wy ⟨b', y, fp', v1, v2, rfl, hb', hk', hi1, hi2, hw', hl', hne', hln', hK'⟩;have HP := Lib.hid (And.intro hb' (And.intro hk' (And.intro hi1 (And.intro hi2 (And.intro hw' (And.intro hl' (And.intro hne' (And.intro hln' hK'))))))));clear hb' hk' hi1 hi2 hw' hl' hne' hln' hK';go_wp2_with fail;refine hK.out _ _ (fun j z hj h => ?_) ⟨((KeepF.of_below (HX.out.2 rfl)).trans HP.out.2.1).weak, fun h => by cases h⟩ (fun _ => ⟨b', y, fp', v1, v2, rfl, HP.out.1, (KeepF.of_below (HX.out.2 rfl)).trans HP.out.2.1, HP.out.2.2.1, HP.out.2.2.2.1, HP.out.2.2.2.2.1, HP.out.2.2.2.2.2.1, HP.out.2.2.2.2.2.2.1, HP.out.2.2.2.2.2.2.2.1, HP.out.2.2.2.2.2.2.2.2⟩)
     match j with
     | 0 | 1 | 2 | 3 => exact h
     | 4 => exact absurd rfl hj
     | 5 => exact fun h => by cases h
     | _ + 6 => exact trivial
    ·have e0 : v 0 = _ := hE.1 rfl;have e1 : v 1 = _ := hE.2.1 rfl;rw [e0, e1] at hK ⊢;have E4 := hE.2.2.1 rfl;obtain ⟨b', y, fp', v1, v2, ev, hb', hk', hi1, hi2, hw', hl', hne', hln', hK'⟩ := E4 rfl;injection ev with ev;rw [ev] at hK ⊢;have i1 := HIO.out.1.keep HIO.out.2.1 hk';have i2 := HIO.out.2.2.1.keep HIO.out.2.2.2 hk';have hxl : ∀ p ∈ xo.last, p < b'.fol.length := fun p hp => by have := HXL.out p hp; omega
     have hcall := behind_any w0 s x2 x3 x4 b' fp' wz xo y _ _ v1 v2 _ hb' i1.1 i1.2 i2.1 i2.2 hi1.1 hi1.2 hi2.1 hi2.2 hne'.1 hne'.2 hxl (by have := HLO.out; omega) (by have := HLO.out; omega) (by omega) (by omega) hK' (by omega)
     rw [HEO.out] at hcall;have HC := Lib.hid hcall;have HX := Lib.hid hS;have HP := Lib.hid (And.intro hb' (And.intro hk' (And.intro hw' (And.intro hl' (And.intro hne' (And.intro hln' hK'))))));clear hS hE hcall hb' hk' hi1 hi2 hw' hl' hne' hln' hK' i1 i2 hxl E4 ev;go_wp2_with fail;refine HC.out.mono ?_;rintro e wy ⟨fp2, u1, u2, rfl, hb2, hk2, j1, j2, j3, j4⟩;have HQ := Lib.hid (And.intro hb2 (And.intro hk2 (And.intro j1 (And.intro j2 (And.intro j3 j4)))));clear hb2 hk2 j1 j2 j3 j4;go_wp2_with fail;refine hK.out _ _ (fun j z hj h => ?_) ⟨(HP.out.2.1.trans HQ.out.2.1).weak, fun h => by cases h⟩ (fun _ => ⟨b', y, fp2, u1, u2, rfl, HQ.out.1, HP.out.2.1.trans HQ.out.2.1, ⟨HQ.out.2.2.1, HQ.out.2.2.2.1⟩, ⟨HQ.out.2.2.2.2.1, HQ.out.2.2.2.2.2⟩, HP.out.2.2.1, HP.out.2.2.2.1, HP.out.2.2.2.2.1, HP.out.2.2.2.2.2.1, HP.out.2.2.2.2.2.2⟩)
     match j with
     | 0 | 1 | 2 | 3 => exact h
     | 4 => exact fun h => by cases h
     | 5 => exact absurd rfl hj
     | _ + 6 => exact trivial
   ·intro v wz hS hF;have e0 : v 0 = _ := hF 0 (by decide)
    have e1 : v 1 = _ := hF 1 (by decide)
    have e2 : v 2 = _ := hF 2 (by decide)
    have e3 : v 3 = _ := hF 3 (by decide)
    have E4 := hF 4 (by decide)
    have E5 := hF 5 (by decide)
    simp only [putAll, Act.put, pq1, pq2, pq3, Nat.zero_add, Nat.reduceAdd, pq4, pq5, List.drop_succ_cons, List.drop_zero, e0, e1, e2, e3];clear hF e0 e1 e2 e3;obtain ⟨b', y, fp2, u1, u2, ev, hb2, hk2, hu1, hu2, hwy, hl', hne', hln', hK'⟩ := E5 rfl;rw [ev];obtain ⟨Au1, cu1, rfl, hcu1⟩ := hu1.1.form;obtain ⟨Au2, cu2, rfl, hcu2⟩ := hu2.1.form;have hM1 := HMW.out.out (x' := behP xo y) hb2 hk2 hu1 hu2 hw00;have hI1 := HI.out.seq HKD1.out hwy hl' hln' (fun l hl => by have := hK' l hl; have := HKX.out.2; omega) (by have := HLO.out; omega) (by omega) hne'
    have HP2 := Lib.hid hk2;have HI1 := Lib.hid hI1;have HM1 := Lib.hid hM1;have hz2 := (HP2.out.blk _ l2 n2).trans HMW.out.n2;obtain ⟨q0, q1, q2⟩ := cells3 hz2;have f0 : wz.frozen? ⟨w.heap.size + 1 + 1, 0, none⟩ = false := by simp [World.frozen?, hz2]
    have f1 : wz.frozen? ⟨w.heap.size + 1 + 1, 1, none⟩ = false := by simp [World.frozen?, hz2]
    have f2 : wz.frozen? ⟨w.heap.size + 1 + 1, 2, none⟩ = false := by simp [World.frozen?, hz2]
    clear hS E4 E5 ev hb2 hk2 hu1 hu2 hwy hl' hne' hln' hK' hI1 hM1 hz2 o0 o1 o2 hS0;go_wp2_with fail;go_roundw
    case rel =>
     exact ⟨k + 1, _, _, _, _, _, by omega, by go_num, HM1, HI1⟩
    case measure => simp [intOf]; omega
  ·obtain rfl : k = n := by omega
   have hw00 : w0.heap.size ≤ w.heap.size := hB0;obtain ⟨Ao1, co1, rfl, -⟩ := HM.out.o1.1.form;obtain ⟨Ao2, co2, rfl, -⟩ := HM.out.o2.1.form;have hsz0 := HM.out.sz;obtain ⟨y0, y1, y2⟩ := cells3 HM.out.n1;obtain ⟨q0, q1, q2⟩ := cells3 HM.out.n2;have fy0 : wr.frozen? ⟨w.heap.size + 1, 0, none⟩ = false := by simp [World.frozen?, HM.out.n1]
   have fy1 : wr.frozen? ⟨w.heap.size + 1, 1, none⟩ = false := by simp [World.frozen?, HM.out.n1]
   have fy2 : wr.frozen? ⟨w.heap.size + 1, 2, none⟩ = false := by simp [World.frozen?, HM.out.n1]
   go_wp2_with fail;refine post_named fun Wf hWf => ?_;have hgb : wr.grownBy Wf (some (w.heap.size + 1)) := by
    rw [hWf]; repeat (first | exact gb_refl _ _ | refine gb_alloc ?_ _ | refine gb_setN ?_ _ _ | refine gb_drew ?_)
   obtain ⟨t1, t2, t3, t4⟩ := HM.out.fin hw00 hgb;have hin := HI.out;rw [List.take_of_length_le (by rw [HN.out.1]; exact Nat.le_refl _), HN.out.2.1, HN.out.2.2] at hin
   refine bodyPost_ret (v := .agg #[.slice Ao1 xo.first.length co1, .slice Ao2 xo.last.length co2, .bool xo.emp]) (by rw [hWf]; simp [results, Tryz.results35, go_sem, y0, y1, y2, q0, q1, q2]; try rfl) rfl ?_
   exact ⟨bi, xo, fpi, _, _, rfl, t1, t2, t3, t4, hin.wr, hin.fl, hin.ne.resolve_left (by omega), hin.ln, hin.bd⟩
set_option maxHeartbeats 16000000 in
theorem write_choice (w0 : World) (s : Nat) (x2 x3 x4 : Value) (rs : List (Nat × Nat)) (a : Nd) (r : List Nd) (mn mx : Int) (A1 : Option Addr) (c1 g f c : Nat) (hR : rightF (.mk 3 rs (a :: r) mn mx) = true) (hpos : posF (.mk 3 rs (a :: r) mn mx) ≤ 600)
  (hg : g < w0.heap.size) (hc : r.length + 1 ≤ c ∧ c ≤ 9223372036854775807) (hkd : KdsIn w0 (a :: r) g f) (hw : ∀ kd ∈ a :: r, ∀ vs, NdIn w0 kd vs → WrCall w0 s x2 x3 x4 kd vs) :
  WrCall w0 s x2 x3 x4 (.mk 3 rs (a :: r) mn mx) [.int .i64 3, .slice A1 rs.length c1, .slice (some ⟨g, f, none⟩) (r.length + 1) c, .int .i64 mn, .int .i64 mx] := by
 intro w b fp K hbu hln hrm hK hKK;have hM0 := WrMem.start hbu #[.int .i64 3, .slice A1 rs.length c1, .slice (some ⟨g, f, none⟩) (r.length + 1) c, .int .i64 mn, .int .i64 mx];have hkn := kids_ge hR (.inr rfl);have hpe := pos_seq (.inr rfl) hpos;have hce : cstF (.mk 3 rs (a :: r) mn mx) = cstS (a :: r) := by rw [cstF, if_neg (by decide), if_neg (by decide)]
 have hlang : langN (.mk 3 rs (a :: r) mn mx) = langC (a :: r) := by funext z; simp [langN]
 have hB0 := hbu.bel.size;rw [hpe] at hpos hrm ⊢;rw [hce] at hKK ⊢;rw [hlang];have hln0 := hln;obtain ⟨kvs, hv0, hnd0⟩ := hkd.1;obtain ⟨Ba1, ea1, Ba2, ea2, rfl, -, -, -⟩ := hnd0.form;have hgr0 : w0.heap[g]? = w0.heap[g]? := rfl;have hcall0 := fun (W : World) (fq : List Nat) (h : BuI w0 s x2 x3 x4 b fq W) => hw a (by simp) _ hnd0 W b fq K h hln (by rw [posS] at hrm; omega) hK (by rw [cstS] at hKK; omega)
 have HC0 := Lib.hid hcall0;have hca0 : ∀ wz : World, wz.heap[g]? = w0.heap[g]? → wz.cell? ⟨g, f, none⟩ = some (.int .i64 a.op) ∧ wz.cell? ⟨g, f + 1, none⟩ = some (.slice Ba1 a.rs.length ea1) ∧ wz.cell? ⟨g, f + 2, none⟩ = some (.slice Ba2 a.kids.length ea2) ∧ wz.cell? ⟨g, f + 3, none⟩ = some (.int .i64 a.mn) ∧ wz.cell? ⟨g, f + 4, none⟩ = some (.int .i64 a.mx) := fun wz hz => by
  have hc := fun j (hj : j < 5) => (World.cell?_of_block (a := ⟨g, f + j, none⟩) hz).trans (hv0 j hj);exact ⟨hc 0 (by omega), hc 1 (by omega), hc 2 (by omega), hc 3 (by omega), hc 4 (by omega)⟩
 have hkr := hkd.2;have HM0 := Lib.hid hM0;have HW := Lib.hid hw;have HKD := Lib.hid hkr;obtain ⟨n, hn⟩ : ∃ n, r.length = n := ⟨_, rfl⟩;obtain ⟨PS, hPS⟩ : ∃ P, posS (a :: r) = P := ⟨_, rfl⟩;obtain ⟨CS, hCS⟩ : ∃ P, cstS (a :: r) = P := ⟨_, rfl⟩;show Calls Tryz.prog _ #[_, .agg #[.int .i64 3, .slice A1 rs.length c1, .slice (some ⟨g, f, none⟩) (r.length + 1) c, .int .i64 mn, .int .i64 mx]] w _;rw [List.length_cons, hn] at hkn;rw [hn] at hc ⊢;rw [hn] at HM0;rw [hPS] at hpos hrm ⊢;rw [hCS] at hKK ⊢;have HN := Lib.hid (And.intro hn (And.intro hPS hCS));have hk0 := hca0 w (hbu.bel.block g hg);obtain ⟨z0, z1, z2, z3, z4⟩ := hk0;have hglw : g < w.heap.size := by have := hbu.bel.size; omega
 have hglw1 : g < w.heap.size + 1 := by omega
 have hglw2 : g < w.heap.size + 1 + 1 := by omega
 clear hR hpe hce hlang hbu hw hkd hK hM0 hn hPS hCS hln hln0 hv0 hnd0 hcall0 hca0 hkr hgr0
 go_enter Tryz.func35, Tryz.ntmps35
 go_wp2_with fail;have hw00 : w0.heap.size ≤ w.heap.size := hB0;refine (HC0.out _ _ HM0.out.bu).mono ?_;rintro e w1 ⟨b1, y, fp1, v1, v2, rfl, hb', hk', hi1, hi2, hwr, hfl, hne, hl, hbd⟩;obtain ⟨Av1, cv1, rfl, -⟩ := hi1.1.form;obtain ⟨Av2, cv2, rfl, -⟩ := hi2.1.form;have hM1 := HM0.out.out hb' hk' hi1 hi2 hw00;have hst1 : KidI b b1 (langC ((a :: r).take 1)) 1 (posS ((a :: r).take 1)) y (K + cstS ((a :: r).take 1)) := by
  rw [List.take_succ_cons, List.take_zero, posS, posS, cstS, cstS];refine ⟨hwr.iff fun w => ?_, by rw [hfl]; omega, by omega, fun l hl => by have := hbd l hl; omega, .inr hne⟩
  show langN a w ↔ (langN a w ∨ langC [] w);simp [langC]
 have HST1 := Lib.hid hst1;have HM1 := Lib.hid hM1;have hz := hk'.size;have hz0 := HM0.out.sz;have hr0 := (hk'.blk _ (by omega) (HM0.out.notin w.heap.size (by omega) (by omega))).trans HM0.out.n0
 have hr2 := (hk'.blk _ (by omega) (HM0.out.notin (w.heap.size + 1 + 1) (by omega) (by omega))).trans HM0.out.n2
 obtain ⟨y0, y1, y2, y3, y4⟩ := cells5 hr0;obtain ⟨q0, q1, q2⟩ := cells3 hr2;have fq0 : w1.frozen? ⟨w.heap.size + 1 + 1, 0, none⟩ = false := by simp [World.frozen?, hr2]
 have fq1 : w1.frozen? ⟨w.heap.size + 1 + 1, 1, none⟩ = false := by simp [World.frozen?, hr2]
 have fq2 : w1.frozen? ⟨w.heap.size + 1 + 1, 2, none⟩ = false := by simp [World.frozen?, hr2]
 have lq0 : w.heap.size < w1.heap.size := by omega
 have lq2 : w.heap.size + 1 + 1 < w1.heap.size := by omega
 clear hb' hk' hi1 hi2 hwr hfl hne hl hbd hM1 hr2 hr0 hst1 z0 z1 z2 z3 z4;go_wp2_with fail
 go_loopw [77] (fun iv wr => ∃ (k : Nat) (bi : Pb) (fpi : List Nat) (xo : Prt) (vo1 vo2 : Value), k ≤ n ∧ iv = .int .i64 (k : Int) ∧ Hid (WrMem w0 s x2 x3 x4 fp w #[.int .i64 3, .slice A1 rs.length c1, .slice (some ⟨g, f, none⟩) (n + 1) c, .int .i64 mn, .int .i64 mx] bi fpi xo vo1 vo2 wr) ∧ Hid (KidI b bi (langC ((a :: r).take (k + 1))) (k + 1) (posS ((a :: r).take (k + 1))) xo (K + cstS ((a :: r).take (k + 1))))) (fun iv _ => n - (intOf iv).toNat)
 case atStart =>
  exact ⟨0, b1, fp1, y, _, _, by omega, rfl, HM1, HST1⟩
 case round =>
  obtain ⟨k, bi, fpi, xo, vo1, vo2, hi, rfl, HM, HI⟩ := hrel;by_cases hlt : k < n
  ·have hd : decide ((k : Int) < (n : Int)) = true := decide_eq_true (by omega)
   have hdn : decide (k < n) = true := decide_eq_true hlt;obtain ⟨kd, B1, e1, B2, e2, hkd, hnd, hkc⟩ := kid_cells (kids := r) (f := f + 5) (k := k) (by rw [HN.out.1]; exact hlt) HKD.out
   obtain ⟨Ao1, co1, rfl, -⟩ := HM.out.o1.1.form;obtain ⟨Ao2, co2, rfl, -⟩ := HM.out.o2.1.form;obtain ⟨eo, heo⟩ : ∃ eo, xo.emp = eo := ⟨_, rfl⟩;have hw00 : w0.heap.size ≤ w.heap.size := hB0;have hsz0 := HM.out.sz;have hgr : wr.heap[g]? = w0.heap[g]? := HM.out.bu.bel.block g hg;have hglr : g < wr.heap.size := by have := HM.out.bu.bel.size; omega
   obtain ⟨k0, k1, k2, k3, k4⟩ := hkc wr hgr;have hkd1 : (a :: r)[k + 1]? = some kd := by rw [List.getElem?_cons_succ]; exact hkd
   have hps := posS_step hkd1;have hcs := cstS_step hkd1;rw [HN.out.2.1] at hps;rw [HN.out.2.2] at hcs;have hwc := HW.out kd (List.mem_of_getElem? hkd1) _ hnd;have hin := HI.out;obtain ⟨pk, hpk⟩ : ∃ p, posS ((a :: r).take (k + 1)) = p := ⟨_, rfl⟩;obtain ⟨K0, hK0⟩ : ∃ p, K + cstS ((a :: r).take (k + 1)) = p := ⟨_, rfl⟩;rw [hpk, hK0] at hin;rw [hpk] at hps;have hKc : K0 + cstF kd ≤ 10000000000 := by omega
   have hpk600 : pk ≤ 600 := by omega
   have hpkd : posF kd ≤ 600 := by omega
   have HKD1 := Lib.hid hkd1;have HWC := Lib.hid hwc;have HKX := Lib.hid (And.intro hpk hK0);have hfl := hin.fl;have hlen := hin.wr.len;have hroom : bi.fol.length + posF kd ≤ 600 := by omega
   have HROOM := Lib.hid (And.intro hroom hlen);have HKK := Lib.hid hin.bd;have HXL := Lib.hid (show ∀ p ∈ xo.last, p < bi.fol.length from fun p hp => (hin.wr.good.lst p hp).2);have HLO := Lib.hid (show xo.first.length ≤ 600 ∧ xo.last.length ≤ 600 from ⟨by have := hin.ln; omega, by have := hin.ln; omega⟩)
   have HEO := Lib.hid heo;have HKC := Lib.hid hkc;have HRM := Lib.hid (And.intro hps hcs);have hn2 := HM.out.n2;rw [heo] at hn2;obtain ⟨oo0, oo1, oo2⟩ := cells3 hn2;have HX0 := Lib.hid (And.intro hps hcs);clear hkd hkd1 hnd hkc hwc hin hpk hfl hlen hroom hcs heo hn2 hK0 hgr hps;go_wp2_with fail;refine wp_named fun W hW => ?_;have hbW : Below wr.heap.size wr W := by rw [hW]; exact (Below.refl _ _).alloc (Nat.le_refl _) _
   have hMW := HM.out.later hbW;have hKB : W.heap[wr.heap.size]? = some (.cells #[.int .i64 kd.op, .slice B1 kd.rs.length e1, .slice B2 kd.kids.length e2, .int .i64 kd.mn, .int .i64 kd.mx] 29 (0, 0)) := by rw [hW]; exact heap_alloc_new wr _
   have hzW : W.heap.size = wr.heap.size + 1 := by rw [hW]; simp
   have l2 : w.heap.size + 1 + 1 < W.heap.size := by omega
   have lk : wr.heap.size < W.heap.size := by omega
   have n2 := hMW.notin (w.heap.size + 1 + 1) (by omega) (by omega)
   have nk : wr.heap.size ∉ fpi := fun hm => by have := (HM.out.bu.lt _ hm).2; omega
   have hn2 := hMW.n2;rw [HEO.out] at hn2;obtain ⟨o0, o1, o2⟩ := cells3 hn2;have HBU := Lib.hid hMW.bu;have HIO := Lib.hid (And.intro hMW.o1.1 (And.intro hMW.o1.2 (And.intro hMW.o2.1 hMW.o2.2)));have HKB := Lib.hid hKB;have HMW := Lib.hid hMW;have HBW := Lib.hid hbW;clear hW hbW hMW hKB hn2 k0 k1 k2 k3 k4 oo0 oo1 oo2;have hS0 : StC6 fpi W 0 W.drew := ⟨(KeepF.of_below (Below.refl _ _).drew).weak, fun _ => (Below.refl _ _).drew⟩;refine wp_region_chain 5 [3, 4] (factW19 w0 s x2 x3 x4 bi fpi (langN kd) (posF kd) (K0 + cstF kd) W (.slice Ao1 xo.first.length co1) (.slice Ao2 xo.last.length co2) eo (.agg #[.int .i64 kd.op, .slice B1 kd.rs.length e1, .slice B2 kd.kids.length e2, .int .i64 kd.mn, .int .i64 kd.mx]) xo) (fun c w' => StC6 fpi W c w') (by kernel_rfl) (by kernel_rfl) (by kernel_rfl) (by kernel_rfl) (by kernel_rfl) (by kernel_rfl) (by decide) hS0 ?_ ?_
   ·simp only [pq4, pq5];refine HSteps.pure (by decide) ?_ (HSteps.pure (by decide) ?_ (HSteps.pure (by decide) ?_ (HSteps.eff 0 rfl ?_ (HSteps.eff 1 rfl ?_ (HSteps.nil)))))
    all_goals first | (intro v wz c hlo hS hE K hK;simp only [putAll, Act.put, pq1, pq2, pq3, Nat.zero_add, Nat.reduceAdd, pq4, pq5] at hK ⊢) | (intro v wz hS hE K hK;simp only [putAll, Act.put, pq1, pq2, pq3, Nat.zero_add, Nat.reduceAdd, pq4, pq5] at hK ⊢)
    ·have cx0 := (World.cell?_of_block (a := ⟨w.heap.size + 1 + 1, 0, none⟩) (hS.1.blk _ l2 n2)).trans o0;have cx1 := (World.cell?_of_block (a := ⟨w.heap.size + 1 + 1, 1, none⟩) (hS.1.blk _ l2 n2)).trans o1;have cx2 := (World.cell?_of_block (a := ⟨w.heap.size + 1 + 1, 2, none⟩) (hS.1.blk _ l2 n2)).trans o2;have HX := Lib.hid hS;clear hS hE hlo;go_wp2_with fail;exact hK.out _ rfl
    ·have HX := Lib.hid hS;clear hS hE hlo;go_wp2_with fail;exact hK.out _ rfl
    ·obtain ⟨k0, k1, k2, k3, k4⟩ := cells5 ((hS.1.blk _ lk nk).trans HKB.out);have HX := Lib.hid hS;clear hS hE hlo;go_wp2_with fail;exact hK.out _ rfl
    ·have e1 : v 1 = _ := hE.1 rfl;have e2 : v 2 = _ := hE.2.1 rfl;rw [e1, e2] at hK ⊢;have hz := hS.2 rfl;have hcall := HWC.out wz bi fpi K0 (HBU.out.later hz) HROOM.out.2 HROOM.out.1 HKK.out hKc;have HC := Lib.hid hcall;have HX := Lib.hid hS;clear hS hE hcall;go_wp2_with fail;refine HC.out.mono ?_;rintro e wy ⟨b', y, fp', v1, v2, rfl, hb', hk', hi1, hi2, hw', hl', hne', hln', hK'⟩;have HP := Lib.hid (And.intro hb' (And.intro hk' (And.intro hi1 (And.intro hi2 (And.intro hw' (And.intro hl' (And.intro hne' (And.intro hln' hK'))))))));clear hb' hk' hi1 hi2 hw' hl' hne' hln' hK';go_wp2_with fail;refine hK.out _ _ (fun j z hj h => ?_) ⟨((KeepF.of_below (HX.out.2 rfl)).trans HP.out.2.1).weak, fun h => by cases h⟩ (fun _ => ⟨b', y, fp', v1, v2, rfl, HP.out.1, (KeepF.of_below (HX.out.2 rfl)).trans HP.out.2.1, HP.out.2.2.1, HP.out.2.2.2.1, HP.out.2.2.2.2.1, HP.out.2.2.2.2.2.1, HP.out.2.2.2.2.2.2.1, HP.out.2.2.2.2.2.2.2.1, HP.out.2.2.2.2.2.2.2.2⟩)
     match j with
     | 0 | 1 | 2 => exact h
     | 3 => exact absurd rfl hj
     | 4 => exact fun h => by cases h
     | _ + 5 => exact trivial
    ·have e0 : v 0 = _ := hE.1 rfl;rw [e0] at hK ⊢;have E3 := hE.2.1 rfl;obtain ⟨b', y, fp', v1, v2, ev, hb', hk', hi1, hi2, hw', hl', hne', hln', hK'⟩ := E3 rfl;injection ev with ev;rw [ev] at hK ⊢;have i1 := HIO.out.1.keep HIO.out.2.1 hk';have i2 := HIO.out.2.2.1.keep HIO.out.2.2.2 hk';have hcall := either_any xo.first xo.last y.first y.last xo.emp y.emp _ _ v1 v2 wz i1.1 i2.1 hi1.1 hi2.1 hne'.1 hne'.2 (by have := HLO.out; omega) (by have := HLO.out; omega) (by omega) (by omega)
     rw [HEO.out] at hcall;have HC := Lib.hid hcall;have HX := Lib.hid hS;have HP := Lib.hid (And.intro hb' (And.intro hk' (And.intro hw' (And.intro hl' (And.intro hne' (And.intro hln' hK'))))));clear hS hE hcall hb' hk' hi1 hi2 hw' hl' hne' hln' hK' i1 i2 E3 ev;go_wp2_with fail;refine HC.out.mono ?_;rintro e wy ⟨u1, u2, rfl, ho1, ho2, hbw⟩;have HQ := Lib.hid (And.intro ho1 (And.intro ho2 hbw));clear ho1 ho2 hbw;go_wp2_with fail;refine hK.out _ _ (fun j z hj h => ?_) ⟨(HP.out.2.1.trans (KeepF.of_below HQ.out.2.2)).weak, fun h => by cases h⟩ (fun _ => ⟨b', y, fp', u1, u2, by rw [← HEO.out]; rfl, HP.out.1.later HQ.out.2.2, HP.out.2.1.trans (KeepF.of_below HQ.out.2.2), ⟨IL.of_own HQ.out.1 fun _ h => HP.out.2.2.2.2.1.1 (List.append_eq_nil_iff.1 h).2, fun g hg hm => by have := (HQ.out.1.lt g hg).1; have := (HP.out.1.lt g hm).2; omega⟩, ⟨IL.of_own HQ.out.2.1 fun _ h => HP.out.2.2.2.2.1.2 (List.append_eq_nil_iff.1 h).2, fun g hg hm => by have := (HQ.out.2.1.lt g hg).1; have := (HP.out.1.lt g hm).2; omega⟩, HP.out.2.2.1, HP.out.2.2.2.1, HP.out.2.2.2.2.1, HP.out.2.2.2.2.2.1, HP.out.2.2.2.2.2.2⟩)
     match j with
     | 0 | 1 | 2 => exact h
     | 3 => exact fun h => by cases h
     | 4 => exact absurd rfl hj
     | _ + 5 => exact trivial
   ·intro v wz hS hF;have e0 : v 0 = _ := hF 0 (by decide)
    have e1 : v 1 = _ := hF 1 (by decide)
    have e2 : v 2 = _ := hF 2 (by decide)
    have E3 := hF 3 (by decide)
    have E4 := hF 4 (by decide)
    simp only [putAll, Act.put, pq1, pq2, pq3, Nat.zero_add, Nat.reduceAdd, pq4, pq5, List.drop_succ_cons, List.drop_zero, e0, e1, e2];clear hF e0 e1 e2;obtain ⟨b', y, fp2, u1, u2, ev, hb2, hk2, hu1, hu2, hwy, hl', hne', hln', hK'⟩ := E4 rfl;rw [ev];obtain ⟨Au1, cu1, rfl, hcu1⟩ := hu1.1.form;obtain ⟨Au2, cu2, rfl, hcu2⟩ := hu2.1.form;have hM1 := HMW.out.out (x' := eitP xo y) hb2 hk2 hu1 hu2 hw00;have hI1 := HI.out.cho HKD1.out hwy hl' hln' (fun l hl => by have := hK' l hl; have := HKX.out.2; omega) hne'
    have HP2 := Lib.hid hk2;have HI1 := Lib.hid hI1;have HM1 := Lib.hid hM1;have hz2 := (HP2.out.blk _ l2 n2).trans HMW.out.n2;obtain ⟨q0, q1, q2⟩ := cells3 hz2;have f0 : wz.frozen? ⟨w.heap.size + 1 + 1, 0, none⟩ = false := by simp [World.frozen?, hz2]
    have f1 : wz.frozen? ⟨w.heap.size + 1 + 1, 1, none⟩ = false := by simp [World.frozen?, hz2]
    have f2 : wz.frozen? ⟨w.heap.size + 1 + 1, 2, none⟩ = false := by simp [World.frozen?, hz2]
    clear hS E3 E4 ev hb2 hk2 hu1 hu2 hwy hl' hne' hln' hK' hI1 hM1 hz2 o0 o1 o2 hS0;go_wp2_with fail;go_roundw
    case rel =>
     exact ⟨k + 1, _, _, _, _, _, by omega, by go_num, HM1, HI1⟩
    case measure => simp [intOf]; omega
  ·obtain rfl : k = n := by omega
   have hw00 : w0.heap.size ≤ w.heap.size := hB0;obtain ⟨Ao1, co1, rfl, -⟩ := HM.out.o1.1.form;obtain ⟨Ao2, co2, rfl, -⟩ := HM.out.o2.1.form;have hsz0 := HM.out.sz;obtain ⟨y0, y1, y2⟩ := cells3 HM.out.n1;obtain ⟨q0, q1, q2⟩ := cells3 HM.out.n2;have fy0 : wr.frozen? ⟨w.heap.size + 1, 0, none⟩ = false := by simp [World.frozen?, HM.out.n1]
   have fy1 : wr.frozen? ⟨w.heap.size + 1, 1, none⟩ = false := by simp [World.frozen?, HM.out.n1]
   have fy2 : wr.frozen? ⟨w.heap.size + 1, 2, none⟩ = false := by simp [World.frozen?, HM.out.n1]
   go_wp2_with fail;refine post_named fun Wf hWf => ?_;have hgb : wr.grownBy Wf (some (w.heap.size + 1)) := by
    rw [hWf]; repeat (first | exact gb_refl _ _ | refine gb_alloc ?_ _ | refine gb_setN ?_ _ _ | refine gb_drew ?_)
   obtain ⟨t1, t2, t3, t4⟩ := HM.out.fin hw00 hgb;have hin := HI.out;rw [List.take_of_length_le (by rw [List.length_cons, HN.out.1]; exact Nat.le_refl _), HN.out.2.1, HN.out.2.2] at hin
   refine bodyPost_ret (v := .agg #[.slice Ao1 xo.first.length co1, .slice Ao2 xo.last.length co2, .bool xo.emp]) (by rw [hWf]; simp [results, Tryz.results35, go_sem, y0, y1, y2, q0, q1, q2]; try rfl) rfl ?_
   exact ⟨bi, xo, fpi, _, _, rfl, t1, t2, t3, t4, hin.wr, hin.fl, hin.ne.resolve_left (by omega), hin.ln, hin.bd⟩
theorem right_set {rs : List (Nat × Nat)} {kids : List Nd} {mn mx : Int} (hR : rightF (.mk 1 rs kids mn mx) = true) : kids = [] ∧ rngF rs = true := by
 have h := ((rightF_iff _).1 hR).1;simp only [rightN, if_true, Bool.and_eq_true] at h;exact ⟨by simpa using h.2.2.1, h.2.1⟩
theorem write_any (w0 : World) (s : Nat) (x2 x3 x4 : Value) : ∀ (m : Nat) (nd : Nd) (vs : List Value), nodesT nd ≤ m → rightF nd = true → posF nd ≤ 600 → NdIn w0 nd vs → WrCall w0 s x2 x3 x4 nd vs := by
 intro m
 induction m with
 | zero => intro nd vs h; cases nd; rw [nodesT] at h; omega
 | succ m ih =>
  rintro ⟨op, rs, kids, mn, mx⟩ vs hm hR hp hn;obtain ⟨hop, hRs⟩ := rightF_op hR;rw [nodesT] at hm;obtain ⟨A1, c1, A2, c2, rfl, hr, hc2, hk⟩ := hn.form;simp only [Nd.op, Nd.rs, Nd.kids, Nd.mn, Nd.mx] at hr hc2 hk ⊢;have hkid : ∀ kd ∈ kids, posF kd ≤ 600 → ∀ kvs, NdIn w0 kd kvs → WrCall w0 s x2 x3 x4 kd kvs := fun kd hkd hpk kvs hn => ih kd kvs (by have := nodesT_kid hkd; omega) (rightFs_mem hRs hkd) hpk hn
  rcases hop with rfl | rfl | rfl | ⟨rfl, hk1, hm0, hm1, hm2⟩
  ·obtain ⟨rfl, hrg⟩ := right_set hR;exact write_set w0 s x2 x3 x4 rs mn mx _ hn hrg
  ·have h2 := kids_ge hR (.inl rfl);rcases hk with rfl | ⟨g, f, rfl, hg, hkd⟩
   ·simp at h2
   ·have hps := pos_seq (.inl rfl) hp;exact write_seq w0 s x2 x3 x4 rs kids mn mx A1 c1 g f c2 hR hp hg hc2 hkd fun kd h kvs hn => hkid kd h (by have := posS_mem h; omega) kvs hn
  ·have h2 := kids_ge hR (.inr rfl);rcases hk with rfl | ⟨g, f, rfl, hg, hkd⟩
   ·simp at h2
   ·have hps := pos_seq (.inr rfl) hp
    cases kids with
    | nil => simp at h2
    | cons a r => exact write_choice w0 s x2 x3 x4 rs a r mn mx A1 c1 g f c2 hR hp hg hc2 hkd fun kd h kvs hn => hkid kd h (by have := posS_mem h; omega) kvs hn
  ·rcases hk with rfl | ⟨g, f, rfl, hg, hkd⟩
   ·simp at hk1
   ·match kids, hk1 with
    | [a], _ =>
     obtain ⟨⟨kvs, hkc, hna⟩, -⟩ := hkd;have hps := pos_rep hp;have hpa : posF a ≤ 600 := by
      have h1 : 1 * posF a ≤ mx.toNat * posF a := Nat.mul_le_mul_right _ (by omega)
      have h2 : posH [a] = posF a := rfl;rw [h2] at hps;omega
     exact write_rep w0 s x2 x3 x4 rs a mn mx A1 c1 g f c2 kvs hR hp hg hc2 hna hkc (hkid a (by simp) hpa kvs hna)
end Go.Proofs.YtjhmipidmpmlmaaGreatDoor
