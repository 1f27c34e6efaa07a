/- Walks: one part behind another one; one of two parts. · Walks: the reader of patterns. · ref05's parser: peek, char, times at one text, atom. · ref05's parser at one text: times, atom. · ref05's parser at one text: item. · ref05's parser at one text: seq, choice. · ref05: Valid and Text at the node of a{1,2}. · Several blocks that are made one behind the other. -/
import Derived.Test.YtoaibhacognbjaaGreatDoorY10
import Derived.StillTailTactics
import Derived.Deep.RegionHeld3
import Derived.Test.YtoaibhacognbjaaGreatDoorY11
import Derived.Test.YtoaibhacognbjaaGreatDoorY08
import Derived.Test.YtoaibhacognbjaaGreatDoorY09
namespace Go.Proofs.YtoaibhacognbjaaGreatDoor
set_option linter.unusedVariables false
set_option linter.unusedSimpArgs false
set_option maxRecDepth 100000
open Go.RowKit
theorem cells3 {w : World} {b : Nat} {T : TypeId} {a0 a1 a2 : Value} (h : w.heap[b]? = some (.cells #[a0, a1, a2] T (0, 0))) :
    w.cell? ⟨b, 0, none⟩ = some a0 ∧ w.cell? ⟨b, 1, none⟩ = some a1 ∧ w.cell? ⟨b, 2, none⟩ = some a2 := by
  refine ⟨?_, ?_, ?_⟩ <;> (rw [cell_of_row _ _ _ _ _ _ h]; rfl)
theorem old_alloc (w : World) (o : Obj) (k : Nat) (h : k < w.heap.size) : (w.alloc o).heap[k]? = w.heap[k]? := ((Below.refl w.heap.size w).alloc (Nat.le_refl _) o).block k h
theorem addF_le (l : List Nat) : ∀ (ps : List Nat) (fol : List (List Nat)) (K : Nat), (∀ x ∈ fol, x.length ≤ K) → ∀ x ∈ addF l ps fol, x.length ≤ K + ps.length * l.length
  | [], fol, K, h => fun x hx => by have := h x hx; simp; omega
  | p :: r, fol, K, h => fun x hx => by
    rw [addF] at hx
    have := addF_le l r (fol.set p ((fol[p]?).getD [] ++ l)) (K + l.length) (fun y hy => by
      rcases List.mem_or_eq_of_mem_set hy with h1 | h1
      · have := h y h1; omega
      · rw [h1, List.length_append]
        cases hp : fol[p]? with
        | none => simp
        | some z => have := h z (List.mem_of_getElem? hp); simp; omega) x hx
    rw [List.length_cons, Nat.succ_mul]
    omega
/-- Where the followers lie. -/
theorem BuS.vf_form {w0 : World} {s : Nat} {x2 x3 x4 : Value} {b : Pb} {vs vf : Value} {rows sv : List Value} {w : World} (h : BuS w0 s x2 x3 x4 b vs vf rows sv w) (hp : 0 < b.fol.length) : ∃ gf cf, vf = .slice (some ⟨gf, 0, none⟩) b.fol.length cf ∧ gf < w.heap.size ∧ b.fol.length ≤ cf ∧ cf ≤ 9223372036854775807 := by
  rcases h.fol.2 with ⟨-, h2⟩ | ⟨g, cap, cur, h1, -, h3, h4, h5, -⟩
  · omega
  · exact ⟨g, cap, h1, (Array.getElem?_eq_some_iff.1 h3).1, h4, by unfold maxLen at h5; omega⟩
theorem own_form {w : World} {B : Nat} {e : TypeId} {k : Nat} {v : Value} {n : Nat} {xs : List Value} (h : w.ownsRow B e k v n xs) : ∃ A c, v = .slice A n c ∧ n ≤ c ∧ c ≤ 9223372036854775807 := by
  rcases h.2 with ⟨h1, h2⟩ | ⟨g, cap, cur, h1, -, h3, h4, h5, -⟩
  · exact ⟨none, 0, by rw [h1, h2], by omega, by decide⟩
  · exact ⟨_, cap, h1, h4, by unfold maxLen at h5; omega⟩
theorem outOf_nil (v : Value) : outOf [] v := fun _ _ h => by cases h
theorem BuS.row_ne {w0 : World} {s : Nat} {x2 x3 x4 : Value} {b : Pb} {vs vf : Value} {rows sv : List Value} {w : World} (h : BuS w0 s x2 x3 x4 b vs vf rows sv w) {q : Nat} {v : Value} (hv : rows[q]? = some v) {gf : Nat} (hf : vf.ownBlock = some gf) : v.ownBlock ≠ some gf := by
  have hnd := h.nd
  rw [List.nodup_cons, List.nodup_append] at hnd
  obtain ⟨-, -, n3, -⟩ := hnd
  rw [List.nodup_append] at n3
  exact fun e => n3.2.2 gf (mem_blk.2 hf) gf (List.mem_flatMap.2 ⟨v, List.mem_of_getElem? hv, mem_blk.2 e⟩) rfl
/-- The world in the region that adds followers. -/
def StBh (wr : World) (row : Option Nat) (c : Bool) (w' : World) : Prop := wr.grownBy w' row ∧ (c = false → Below wr.heap.size wr w')
def factBh (w0 wr : World) (s gf nf cf gy fy ly cy B1 q m : Nat) (Ar : Option Addr) (cr : Nat) (xs : List Value) : Nat → Value → World → Prop
  | 0, x, w => x = .pointer (some ⟨s, 0, none⟩)
  | 1, x, w => x = .pointer (some ⟨s, 0, none⟩)
  | 2, x, w => x = .pointer (some ⟨s, 1, none⟩)
  | 3, x, w => x = .slice (some ⟨gf, 0, none⟩) nf cf
  | 4, x, w => x = .int .i64 (q : Int)
  | 5, x, w => x = .pointer (some ⟨s, 0, none⟩)
  | 6, x, w => x = .pointer (some ⟨s, 0, none⟩)
  | 7, x, w => x = .pointer (some ⟨s, 1, none⟩)
  | 8, x, w => x = .slice (some ⟨gf, 0, none⟩) nf cf
  | 9, x, w => x = .int .i64 (q : Int)
  | 10, x, w => x = .pointer (some ⟨gf, q, none⟩)
  | 11, x, w => x = .slice Ar m cr
  | 12, x, w => x = .pointer (some ⟨B1, 0, none⟩)
  | 13, x, w => x = .slice (some ⟨gy, fy, none⟩) ly cy
  | 14, x, w => ∃ A' c', x = .slice A' (m + ly) c' ∧ w.ownsRow w0.heap.size 3 1 x (m + ly) xs ∧ (x.ownBlock = (Value.slice Ar m cr).ownBlock ∨ ∃ g, x.ownBlock = some g ∧ wr.heap.size ≤ g)
  | 15, x, w => x = .pointer (some ⟨gf, q, none⟩)
  | _, _, _ => True
theorem factBh_st (w0 wr : World) (s gf nf cf gy fy ly cy B1 q m : Nat) (Ar : Option Addr) (cr : Nat) (xs : List Value) : ∀ (i j : Nat) (x : Value) (u u' : World), j ≠ i → (i ≠ 14 → u' = u) → factBh w0 wr s gf nf cf gy fy ly cy B1 q m Ar cr xs j x u → factBh w0 wr s gf nf cf gy fy ly cy B1 q m Ar cr xs j x u' := by
  intro i j x u u' hji hR h
  by_cases hi : i = 14
  · subst hi
    match j with
    | 0 | 1 | 2 | 3 | 4 | 5 | 6 | 7 | 8 | 9 | 10 | 11 | 12 | 13 | 15 => exact h
    | 14 => exact absurd rfl hji
    | _ + 16 => exact trivial
  · rw [hR hi]; exact h
theorem gb_refl (w : World) (r : Option Nat) : w.grownBy w r := ⟨rfl, rfl, rfl, Nat.le_refl _, fun _ _ _ => rfl⟩
theorem gb_trans {a b c : World} {r : Option Nat} (h : a.grownBy b r) (k : b.grownBy c r) : a.grownBy c r :=
  ⟨k.os.trans h.os, k.tape.trans h.tape, k.output.trans h.output, Nat.le_trans h.size k.size, fun i hi hn => (k.block i (Nat.lt_of_lt_of_le hi h.size) hn).trans (h.block i hi hn)⟩
theorem gb_below' {a b : World} {r : Option Nat} (h : Below a.heap.size a b) : a.grownBy b r := ⟨h.os, h.tape, h.output, h.size, fun k hk _ => h.block k hk⟩
theorem gb_alloc {a b : World} {r : Option Nat} (h : a.grownBy b r) (o : Obj) : a.grownBy (b.alloc o) r := gb_trans h (World.grownBy_alloc b o r)
theorem gb_setN {a b : World} {N : Nat} (h : a.grownBy b (some N)) (o : Nat) (u : Value) : a.grownBy (b.setCell ⟨N, o, none⟩ u) (some N) :=
  gb_trans h ⟨rfl, rfl, rfl, by simp [World.setCell], fun k _ hk => Below.heap_setCell _ _ _ _ fun e => hk (by rw [e])⟩
theorem gb_setNew {a b : World} {r : Option Nat} (h : a.grownBy b r) {p : Addr} (hp : a.heap.size ≤ p.block) (u : Value) : a.grownBy (b.setCell p u) r :=
  ⟨h.os, h.tape, h.output, by simp [World.setCell]; exact h.size, fun k hk hn => (Below.heap_setCell _ _ _ _ (by omega)).trans (h.block k hk hn)⟩
theorem gb_drew {a b : World} {r : Option Nat} (h : a.grownBy b r) : a.grownBy b.drew r := ⟨h.os, h.tape, h.output, h.size, h.block⟩
theorem kf_alloc {L : List Nat} {a b : World} (h : KeepF L L a b) (o : Obj) : KeepF L L a (b.alloc o) := h.trans (KeepF.of_below ((Below.refl _ _).alloc (Nat.le_refl _) o))
theorem kf_set {L : List Nat} {a b : World} (h : KeepF L L a b) {p : Addr} (hp : p.block ∈ L) (u : Value) : KeepF L L a (b.setCell p u) :=
  h.trans ⟨rfl, rfl, rfl, by simp [World.setCell], fun k _ hn => Below.heap_setCell _ _ _ _ fun e => hn (by rw [e]; exact hp), fun _ h => .inl h⟩
theorem kf_drew {L : List Nat} {a b : World} (h : KeepF L L a b) : KeepF L L a b.drew := ⟨h.os, h.tape, h.output, h.size, h.blk, h.new⟩
/-- A new list, behind stores into two blocks of the call's own. -/
theorem new_keep {w1 W : World} {B N2 N9 : Nat} {v : Value} {l : List Nat} {fpk : List Nat} {n : Nat} (h : w1.ownsRow B 3 1 v n (ints l)) (hl : l ≠ []) (h2 : N2 < B) (h9 : N9 < B) (hf : ∀ k ∈ fpk, k < B) (hk : KeepF [N2, N9] [N2, N9] w1 W) : IL W v l ∧ outOf fpk v := by
  have ho : ∀ g, v.ownBlock = some g → B ≤ g := fun g hg => (h.lt g hg).1
  refine ⟨(IL.keep (IL.of_own h fun _ => hl) (fun g hg hm => ?_) hk).1, fun g hg hm => ?_⟩
  · have := ho g hg; simp at hm; omega
  · have := ho g hg; have := hf g hm; omega
theorem set_row3 {w : World} {G e : Nat} {cs : Array Value} {m : Nat × Nat} (h : w.heap[G]? = some (.cells cs e m)) (j : Nat) (v : Value) : (w.setCell ⟨G, j, none⟩ v).heap[G]? = some (.cells (cs.setIfInBounds j v) e m) := by
  simp [World.setCell, Array.getElem?_modify, h]
theorem post_named {P : Program} {fn : Func} {R : Ending → World → Prop} {x : Exit} {a : Act} {w : World} (h : ∀ W, W = w → bodyPost P fn R x a W) : bodyPost P fn R x a w := h w rfl
/-- The end of such a walk: but for one block of the call's own all is as it was. -/
theorem beh_end {w0 : World} {s : Nat} {x2 x3 x4 : Value} {b : Pb} {fp fpk : List Nat} {w wr W : World} {N : Nat} (hb : BuI w0 s x2 x3 x4 b fpk wr) (hk : KeepF fp fpk w wr) (hw : w0.heap.size ≤ w.heap.size) (hN : w.heap.size ≤ N) (hN2 : N < wr.heap.size) (hn : N ∉ fpk) (hg : wr.grownBy W (some N)) : BuI w0 s x2 x3 x4 b fpk W ∧ KeepF fp fpk w W := by
  have hlt := hb.lt
  have hbel := hb.bel
  refine ⟨?_, ⟨hg.os.trans hk.os, hg.tape.trans hk.tape, hg.output.trans hk.output, Nat.le_trans hk.size hg.size, fun k h1 h2 => (hg.block k (Nat.lt_of_lt_of_le h1 hk.size) (fun e => by injection e with e; omega)).trans (hk.blk k h1 h2), fun k h => hk.new k h⟩⟩
  obtain ⟨vs, vf, rows, sv, rfl, h⟩ := hb
  refine ⟨vs, vf, rows, sv, rfl, h.same (fun k hk' => hg.block k (hlt k hk').2 (fun e => by injection e with e; subst e; exact hn hk')) ?_⟩
  refine h.bel.trans ⟨hg.os, hg.tape, hg.output, hg.size, fun k hk' => hg.block k (by have := hbel.size; omega) (fun e => ?_)⟩
  injection e with e
  subst e
  omega
/-- What 'behind' leaves. -/
def BehP (w0 : World) (s : Nat) (x2 x3 x4 : Value) (b : Pb) (x : Prt) (fp : List Nat) (w : World) (e : Ending) (w' : World) : Prop := ∃ fp' v1 v2, e = .returned (.agg #[v1, v2, .bool x.emp]) ∧ BuI w0 s x2 x3 x4 b fp' w' ∧ KeepF fp fp' w w' ∧ IL w' v1 x.first ∧ outOf fp' v1 ∧ IL w' v2 x.last ∧ outOf fp' v2
set_option maxHeartbeats 4000000 in
theorem behind_any (w0 : World) (s : Nat) (x2 x3 x4 : Value) (b : Pb) (fp : List Nat) (w : World) (x y : Prt) (vx1 vx2 vy1 vy2 : Value) (K : Nat) (hbu : BuI w0 s x2 x3 x4 b fp w)
    (hx1 : IL w vx1 x.first) (ox1 : outOf fp vx1) (hx2 : IL w vx2 x.last) (ox2 : outOf fp vx2) (hy1 : IL w vy1 y.first) (oy1 : outOf fp vy1) (hy2 : IL w vy2 y.last) (oy2 : outOf fp vy2)
    (hyf : y.first ≠ []) (hyl : y.last ≠ []) (hxl : ∀ p ∈ x.last, p < b.fol.length) (h1 : x.first.length ≤ 50000) (h2 : x.last.length ≤ 50000) (h3 : y.first.length ≤ 50000) (h4 : y.last.length ≤ 50000) (hK : ∀ l ∈ b.fol, l.length ≤ K) (hKK : K ≤ 10000000000) :
    Calls Tryz.prog 168 #[.pointer (some ⟨s, 0, none⟩), .agg #[vx1, vx2, .bool x.emp], .agg #[vy1, vy2, .bool y.emp]] w (BehP w0 s x2 x3 x4 (behB b x y) (behP x y) fp w) := by
  obtain ⟨A1, c1, rfl, hc1⟩ := hx1.form
  obtain ⟨A2, c2, rfl, hc2⟩ := hx2.form
  obtain ⟨gy, fy, cy, rfl, -, hgy, hcy, hycell⟩ := hy1.resolve_left (fun h => hyf h.1)
  obtain ⟨B2, d2, rfl, hd2⟩ := hy2.form
  have hlt := hbu.lt
  have hbel0 := hbu.bel
  have hbx : Below w.heap.size w (((w.alloc (.cells #[.slice A1 x.first.length c1, .slice A2 x.last.length c2, .bool x.emp] 184)).alloc (.cells #[.slice (some ⟨gy, fy, none⟩) y.first.length cy, .slice B2 y.last.length d2, .bool y.emp] 184)).alloc (.cells #[.slice none 0 0, .slice none 0 0, .bool false] 184)) := (((Below.refl _ _).alloc (Nat.le_refl _) _).alloc (by simp) _).alloc (by simp; omega) _
  have HPRE := Lib.hid (And.intro hx1 (And.intro hx2 (And.intro hy1 hy2)))
  have HBU := Lib.hid hbu
  have HLT := Lib.hid hlt
  have HBX := Lib.hid hbx
  have HK := Lib.hid hK
  have HXL := Lib.hid hxl
  have HOX := Lib.hid (And.intro ox1 (And.intro ox2 (And.intro oy1 oy2)))
  have HY := Lib.hid hycell
  clear hx1 hx2 hy1 hy2 hbu hlt hbx hK hxl ox1 ox2 oy1 oy2 hycell hbel0
  obtain ⟨i0, hi, hz0, hz1, hz2⟩ := info_parts info_int
  go_enter Tryz.func168, Tryz.ntmps168
  go_wp2_with fail
  go_loopw [13] (fun iv wr => ∃ k folk fpk, k ≤ x.last.length ∧ iv = .int .i64 (k : Int) ∧ Hid (addF y.first (x.last.drop k) folk = addF y.first x.last b.fol ∧ folk.length = b.fol.length ∧ ∀ l ∈ folk, l.length ≤ K + k * y.first.length) ∧ Hid (BuI w0 s x2 x3 x4 ⟨b.sets, folk⟩ fpk wr ∧ KeepF fp fpk w wr ∧ ∀ q ∈ fpk, q < w.heap.size ∨ w.heap.size + 3 ≤ q) ∧ Hid (wr.heap[w.heap.size]? = some (.cells #[.slice A1 x.first.length c1, .slice A2 x.last.length c2, .bool x.emp] 184 (0, 0)) ∧ wr.heap[w.heap.size + 1]? = some (.cells #[.slice (some ⟨gy, fy, none⟩) y.first.length cy, .slice B2 y.last.length d2, .bool y.emp] 184 (0, 0)) ∧ wr.heap[w.heap.size + 1 + 1]? = some (.cells #[.slice none 0 0, .slice none 0 0, .bool false] 184 (0, 0))) ∧ w.heap.size + 3 ≤ wr.heap.size) (fun iv _ => x.last.length - (intOf iv).toNat)
  case atStart =>
    refine ⟨0, b.fol, fp, by omega, rfl, ⟨by rw [List.drop_zero], rfl, fun l hl => by have := HK.out l hl; omega⟩, ⟨?_, KeepF.of_below HBX.out, fun q hq => .inl (HLT.out q hq).2⟩, ⟨?_, ?_, ?_⟩, by simp⟩
    · exact HBU.out.later HBX.out
    · rw [old_alloc _ _ _ (by simp; omega), old_alloc _ _ _ (by simp)]; exact heap_alloc_new w _
    · rw [old_alloc _ _ _ (by simp)]; simpa using heap_alloc_new (w.alloc _) _
    · simpa using heap_alloc_new ((w.alloc _).alloc _) _
  case round =>
    obtain ⟨k, folk, fpk, hk, rfl, HF, HB, HX, hsz⟩ := hrel
    have hHx2 := HPRE.out.2.1
    obtain ⟨hx2r, hx2o⟩ := hHx2.keep HOX.out.2.1 HB.out.2.1
    by_cases hlt : k < x.last.length
    · have hd : decide ((k : Int) < (x.last.length : Int)) = true := decide_eq_true (by omega)
      have hdn : decide (k < x.last.length) = true := decide_eq_true hlt
      obtain ⟨g2, f2, c2', hv2, -, hg2, -, hcell2⟩ := hx2r.resolve_left (fun h => by rw [h.1] at hlt; simp at hlt)
      injection hv2 with e1 e2 e3
      subst e1 e3
      obtain ⟨q, hq⟩ : ∃ q, x.last[k] = q := ⟨_, rfl⟩
      have hqc := hcell2 k hlt
      have hqn := HXL.out x.last[k] (List.getElem_mem hlt)
      rw [hq] at hqc hqn
      have HQ := Lib.hid hq
      clear hq hcell2 hHx2 hx2r hx2o
      obtain ⟨vs, vf, rows, sv, hfp, hbs⟩ := HB.out.1
      have HFL := Lib.hid HF.out.2.1
      obtain ⟨gf, cf, rfl, hgf, hcf, hcf2⟩ := hbs.vf_form (by have := HFL.out; show 0 < folk.length; omega)
      obtain ⟨v, hv, hown⟩ := hbs.folv q (by have := HFL.out; show q < folk.length; omega)
      obtain ⟨Ar, cr, rfl, hcr1, hcr2⟩ := own_form hown
      have hs1 : wr.cell? ⟨s, 1, none⟩ = some (.slice (some ⟨gf, 0, none⟩) folk.length cf) := by rw [cell_of_row _ _ _ _ _ _ hbs.cs]; rfl
      have hrow := hbs.fol.cellAt q (by have := HFL.out; rw [Nat.mul_one]; show q < folk.length; omega)
      rw [hv] at hrow
      have hfz := hbs.fol.frozenAt q
      obtain ⟨y0, y1, y2⟩ := cells3 HX.out.2.1
      have hqf : q < folk.length := by have := HFL.out; omega
      have hst : addF y.first (x.last.drop (k + 1)) (folk.set q (folk[q] ++ y.first)) = addF y.first x.last b.fol := by
        rw [← HF.out.1, List.drop_eq_getElem_cons hlt, HQ.out, addF, List.getElem?_eq_getElem hqf]; rfl
      have hlen : (folk[q]).length ≤ K + k * y.first.length := HF.out.2.2 _ (List.getElem_mem hqf)
      have hkm : k * y.first.length ≤ 50000 * 50000 := Nat.mul_le_mul (by omega) h3
      have hgf1 : gf ≠ w.heap.size + 1 := fun e => by
        have := HB.out.2.2 gf (by rw [hfp]; unfold fpS; simp [blk, Value.ownBlock]); omega
      have hsn1 : s ≠ w.heap.size + 1 := fun e => by
        have := HB.out.2.2 s (by rw [hfp]; unfold fpS; simp); omega
      have hyc := IL.keep HPRE.out.2.2.1 HOX.out.2.2.1 HB.out.2.1
      have hB0 : w0.heap.size ≤ wr.heap.size := hbs.bel.size
      have hyc2 : gy < wr.heap.size ∧ ∀ i (h : i < y.first.length), wr.cell? ⟨gy, fy + i, none⟩ = some (.int .i64 (y.first[i] : Int)) := by
        obtain ⟨gy', fy', cy', hv', -, hl', -, hc'⟩ := hyc.1.resolve_left (fun h => hyf h.1)
        injection hv' with e1 e2 e3
        injection e1 with e1
        injection e1 with e1 e4
        subst e1 e4
        exact ⟨hl', hc'⟩
      have hgyl := hyc2.1
      have HYC := Lib.hid hyc2.2
      have HBS := Lib.hid hbs
      have HOW := Lib.hid hown
      have HV := Lib.hid hv
      have HST := Lib.hid hst
      have HFP := Lib.hid hfp
      obtain ⟨m, hm⟩ : ∃ m, (folk[q]).length = m := ⟨_, rfl⟩
      rw [hm] at hlen hcr1 hrow HOW HV
      have HM := Lib.hid hm
      have hq63 : (q : Int) < (folk.length : Int) := by omega
      have hn63 : folk.length ≤ 9223372036854775807 := Nat.le_trans hcf hcf2
      have hlt' := hbs.lt
      rw [← hfp] at hlt'
      have hsl : s < wr.heap.size := (Array.getElem?_eq_some_iff.1 hbs.cs).1
      have hinR : ∀ z, some z = (Value.slice Ar m cr).ownBlock → z ∈ fpk := fun z hz => by
        rw [hfp]; unfold fpS
        refine List.mem_cons_of_mem _ (List.mem_append_right _ (List.mem_append_right _ (List.mem_flatMap.2 ⟨_, List.mem_of_getElem? HV.out, mem_blk.2 hz.symm⟩)))
      have hsr : some s ≠ (Value.slice Ar m cr).ownBlock := fun e => by
        have hnd := hbs.nd
        rw [List.nodup_cons] at hnd
        exact hnd.1 (List.mem_append_right _ (List.mem_append_right _ (List.mem_flatMap.2 ⟨_, List.mem_of_getElem? HV.out, mem_blk.2 e.symm⟩)))
      have hgr : some gf ≠ (Value.slice Ar m cr).ownBlock := fun e => hbs.row_ne HV.out rfl e.symm
      have hB1l : w.heap.size + 1 < wr.heap.size := by omega
      have hB1r : some (w.heap.size + 1) ≠ (Value.slice Ar m cr).ownBlock := fun e => by have := HB.out.2.2 _ (hinR _ e); omega
      have hS0 : StBh wr (Value.slice Ar m cr).ownBlock false wr.drew := ⟨⟨rfl, rfl, rfl, Nat.le_refl _, fun _ _ _ => rfl⟩, fun _ => (Below.refl _ _).drew⟩
      have HSR := Lib.hid (And.intro hsr (And.intro hgr hB1r))
      clear hbs hown hv hst hyc hyc2 hm hfp hlt' hinR
      go_wp2_with fail
      refine wp_region_tail 16 14 (by decide) (fun i u u' => i ≠ 14 → u' = u) (fun c w' => StBh wr (Value.slice Ar m cr).ownBlock c w') (factBh w0 wr s gf folk.length cf gy fy y.first.length cy (w.heap.size + 1) q m Ar cr (ints folk[q] ++ ints y.first)) (by kernel_rfl) (by kernel_rfl) (by kernel_rfl) (by kernel_rfl) (by decide) hS0 (factBh_st w0 wr s gf folk.length cf gy fy y.first.length cy (w.heap.size + 1) q m Ar cr (ints folk[q] ++ ints y.first)) ?_ ?_
      · simp only [List.take_succ_cons, List.take_zero]
        refine GSteps.cons ?_ (GSteps.cons ?_ (GSteps.cons ?_ (GSteps.cons ?_ (GSteps.cons ?_ (GSteps.cons ?_ (GSteps.cons ?_ (GSteps.cons ?_ (GSteps.cons ?_ (GSteps.cons ?_ (GSteps.cons ?_ (GSteps.cons ?_ (GSteps.cons ?_ (GSteps.cons ?_ (GSteps.cons ?_ (GSteps.cons ?_ GSteps.nil)))))))))))))))
        all_goals (intro v wz c hc hS hE K hK; simp only [putAll, Act.put, List.setIfInBounds_toArray, List.set_cons_zero, List.set_cons_succ, Nat.zero_add, Nat.reduceAdd, List.take_succ_cons, List.take_zero] at hK ⊢)
        · have HX := Lib.hid hS
          clear hS hE hc
          go_wp2_with fail
          exact hK.out _ _ HX.out (fun _ => rfl) rfl
        · have e0 : v 0 = _ := hE.1 rfl
          rw [e0] at hK ⊢
          have HX := Lib.hid hS
          clear hS hE hc
          go_wp2_with fail
          exact hK.out _ _ HX.out (fun _ => rfl) rfl
        · have e1 : v 1 = _ := hE.1 rfl
          rw [e1] at hK ⊢
          have HX := Lib.hid hS
          clear hS hE hc
          go_wp2_with fail
          exact hK.out _ _ HX.out (fun _ => rfl) rfl
        · have e2 : v 2 = _ := hE.1 rfl
          rw [e2] at hK ⊢
          have c1 := (World.cell?_of_block (a := ⟨s, 1, none⟩) (hS.1.block s hsl hsr)).trans hs1
          have HX := Lib.hid hS
          clear hS hE hc
          go_wp2_with fail
          exact hK.out _ _ HX.out (fun _ => rfl) rfl
        · have HX := Lib.hid hS
          clear hS hE hc
          go_wp2_with fail
          exact hK.out _ _ HX.out (fun _ => rfl) rfl
        · have HX := Lib.hid hS
          clear hS hE hc
          go_wp2_with fail
          exact hK.out _ _ HX.out (fun _ => rfl) rfl
        · have e5 : v 5 = _ := hE.1 rfl
          rw [e5] at hK ⊢
          have HX := Lib.hid hS
          clear hS hE hc
          go_wp2_with fail
          exact hK.out _ _ HX.out (fun _ => rfl) rfl
        · have e6 : v 6 = _ := hE.1 rfl
          rw [e6] at hK ⊢
          have HX := Lib.hid hS
          clear hS hE hc
          go_wp2_with fail
          exact hK.out _ _ HX.out (fun _ => rfl) rfl
        · have e7 : v 7 = _ := hE.1 rfl
          rw [e7] at hK ⊢
          have c1 := (World.cell?_of_block (a := ⟨s, 1, none⟩) (hS.1.block s hsl hsr)).trans hs1
          have HX := Lib.hid hS
          clear hS hE hc
          go_wp2_with fail
          exact hK.out _ _ HX.out (fun _ => rfl) rfl
        · have HX := Lib.hid hS
          clear hS hE hc
          go_wp2_with fail
          exact hK.out _ _ HX.out (fun _ => rfl) rfl
        · have e8 : v 8 = _ := hE.1 rfl
          have e9 : v 9 = _ := hE.2.1 rfl
          rw [e8, e9] at hK ⊢
          have HX := Lib.hid hS
          clear hS hE hc
          go_wp2_with fail
          exact hK.out _ _ HX.out (fun _ => rfl) rfl
        · have e10 : v 10 = _ := hE.1 rfl
          rw [e10] at hK ⊢
          have c1 := (World.cell?_of_block (a := ⟨gf, q, none⟩) (hS.1.block gf hgf hgr)).trans hrow
          have HX := Lib.hid hS
          clear hS hE hc
          go_wp2_with fail
          exact hK.out _ _ HX.out (fun _ => rfl) rfl
        · have HX := Lib.hid hS
          clear hS hE hc
          go_wp2_with fail
          exact hK.out _ _ HX.out (fun _ => rfl) rfl
        · have e12 : v 12 = _ := hE.1 rfl
          rw [e12] at hK ⊢
          have c1 := (World.cell?_of_block (a := ⟨w.heap.size + 1, 0, none⟩) (hS.1.block (w.heap.size + 1) hB1l hB1r)).trans y0
          have HX := Lib.hid hS
          clear hS hE hc
          go_wp2_with fail
          exact hK.out _ _ HX.out (fun _ => rfl) rfl
        · have e11 : v 11 = _ := hE.1 rfl
          have e13 : v 13 = _ := hE.2.1 rfl
          rw [e11, e13] at hK ⊢
          have hcf := hc rfl
          subst hcf
          have hbz := hS.2 rfl
          have hown0 : wz.ownsRow w0.heap.size 3 1 (.slice Ar m cr) m (ints folk[q]) := own_same HOW.out fun g hg => hbz.block g (HOW.out.lt g hg).2
          have hcy := ints_cells (w := wz) (l := y.first) (g := gy) (f := fy) (fun i hi => (World.cell?_of_block (a := ⟨gy, fy + i, none⟩) (hbz.block gy hgyl)).trans (HYC.out i hi))
          have hBz : w0.heap.size ≤ wz.heap.size := Nat.le_trans hB0 hbz.size
          have HZ := Lib.hid hbz
          have HX := Lib.hid hS
          clear hS hE hc hbz
          go_wp2_with (at_builtin; refine appI_at rfl _ _ 22 rfl w0.heap.size 3 i0 (.int .i64 0) 1 8 Tryz.underlying22 hi hz0 hz1 hz2 rfl (by decide) _ m (ints folk[q]) rfl hown0 ⟨gy, fy, none⟩ y.first.length cy (ints y.first) rfl (by rw [ints_len]; omega) hcy (ints_one _) (by unfold maxLen; omega) (by omega) hBz ?_)
          intro v' w1 hown1 hg1 hfr
          have hg2 : wr.grownBy w1 (Value.slice Ar m cr).ownBlock := ⟨hg1.os.trans HX.out.1.os, hg1.tape.trans HX.out.1.tape, hg1.output.trans HX.out.1.output, Nat.le_trans HX.out.1.size hg1.size, fun k hk hn => (hg1.block k (Nat.lt_of_lt_of_le hk HX.out.1.size) hn).trans (HX.out.1.block k hk hn)⟩
          obtain ⟨A', c', rfl, -, -⟩ := own_form hown1
          exact hK.out _ _ ⟨hg2, fun h => by cases h⟩ (fun h => absurd rfl h) ⟨A', c', rfl, hown1, hfr.imp id (fun ⟨g, h1, h2⟩ => ⟨g, h1, Nat.le_trans HZ.out.size h2⟩)⟩
        · have e3 : v 3 = _ := hE.1 rfl
          have e4 : v 4 = _ := hE.2.1 rfl
          rw [e3, e4] at hK ⊢
          have HX := Lib.hid hS
          clear hS hE hc
          go_wp2_with fail
          exact hK.out _ _ HX.out (fun _ => rfl) rfl
      · intro v wz hS hF
        have e0 : v 0 = _ := hF 0 (by decide)
        have e1 : v 1 = _ := hF 1 (by decide)
        have e2 : v 2 = _ := hF 2 (by decide)
        have e3 : v 3 = _ := hF 3 (by decide)
        have e4 : v 4 = _ := hF 4 (by decide)
        have e5 : v 5 = _ := hF 5 (by decide)
        have e6 : v 6 = _ := hF 6 (by decide)
        have e7 : v 7 = _ := hF 7 (by decide)
        have e8 : v 8 = _ := hF 8 (by decide)
        have e9 : v 9 = _ := hF 9 (by decide)
        have e10 : v 10 = _ := hF 10 (by decide)
        have e11 : v 11 = _ := hF 11 (by decide)
        have e12 : v 12 = _ := hF 12 (by decide)
        have e13 : v 13 = _ := hF 13 (by decide)
        have e15 : v 15 = _ := hF 15 (by decide)
        have E14 := hF 14 (by decide)
        simp only [putAll, Act.put, List.setIfInBounds_toArray, List.set_cons_zero, List.set_cons_succ, Nat.zero_add, Nat.reduceAdd, List.take_succ_cons, List.take_zero, List.drop_succ_cons, List.drop_zero, e0, e1, e2, e3, e4, e5, e6, e7, e8, e9, e10, e11, e12, e13, e15]
        clear hF e0 e1 e2 e3 e4 e5 e6 e7 e8 e9 e10 e11 e12 e13 e15
        obtain ⟨A', c', hv', hown1, hfr⟩ := E14
        rw [hv'] at hown1 hfr ⊢
        obtain ⟨A'', c'', e', hc1', hc2'⟩ := own_form hown1
        injection e' with e1 e2 e3
        subst e3
        have hst1 : wz.cell? ⟨gf, q, none⟩ = some (.slice Ar m cr) := (World.cell?_of_block (a := ⟨gf, q, none⟩) (hS.1.block gf hgf hgr)).trans hrow
        have hfz1 : wz.frozen? ⟨gf, q, none⟩ = false := (World.frozen?_of_block (a := ⟨gf, q, none⟩) (hS.1.block gf hgf hgr)).trans hfz
        have HW1 := Lib.hid (And.intro hown1 (And.intro hS.1 hfr))
        clear hown1 hS hfr hs1 hqc y0 y1 y2 hrow hfz hv' e1 e2 hsr hgr hB1r
        go_wp2_with fail
        go_roundw
        case rel =>
          obtain ⟨hown1, hg1, hfr⟩ := HW1.out
          have hm := HM.out
          subst hm
          obtain ⟨r1, r2⟩ := HBS.out.addRow (p := q) hqf y.first HV.out hown1 hg1 hfr rfl
          have hfp := HFP.out
          have hnf : ∀ z, w.heap.size ≤ z → z < w.heap.size + 3 → z ∉ fpS s vs (.slice (some ⟨gf, 0, none⟩) folk.length cf) rows := fun z h1 h2 hm => by
            have := HB.out.2.2 z (by rw [hfp]; exact hm); omega
          refine ⟨k + 1, _, _, by omega, by go_num, ⟨HST.out, by have := HFL.out; simp; omega, fun l hl => ?_⟩, ⟨⟨_, _, _, _, rfl, r1⟩, (by rw [hfp] at HB; exact HB.out.2.1.trans r2), fun z hz => ?_⟩, ⟨?_, ?_, ?_⟩, ?_⟩
          · rw [Nat.succ_mul]
            rcases List.mem_or_eq_of_mem_set hl with h1 | h1
            · have := HF.out.2.2 l h1; omega
            · rw [h1, List.length_append]; omega
          · rcases r2.new z hz with h1 | h1
            · exact HB.out.2.2 z (by rw [hfp]; exact h1)
            · right; omega
          · exact (r2.blk _ (by omega) (hnf _ (by omega) (by omega))).trans HX.out.1
          · exact (r2.blk _ (by omega) (hnf _ (by omega) (by omega))).trans HX.out.2.1
          · exact (r2.blk _ (by omega) (hnf _ (by omega) (by omega))).trans HX.out.2.2
          · exact Nat.le_trans hsz r2.size
        case measure => simp [intOf]; omega
    · obtain rfl : k = x.last.length := by omega
      have hfe : folk = addF y.first x.last b.fol := by
        have := HF.out.1
        rw [List.drop_length] at this
        exact this
      have hbe : (⟨b.sets, folk⟩ : Pb) = behB b x y := by rw [hfe]; rfl
      have hbb := HB.out.1
      rw [hbe] at hbb
      have HBB := Lib.hid hbb
      have HKF := Lib.hid HB.out.2.1
      have HFN := Lib.hid HB.out.2.2
      have ha1 := IL.keep HPRE.out.1 HOX.out.1 HB.out.2.1
      have ha2 := IL.keep HPRE.out.2.1 HOX.out.2.1 HB.out.2.1
      have ha3 := IL.keep HPRE.out.2.2.1 HOX.out.2.2.1 HB.out.2.1
      have ha4 := IL.keep HPRE.out.2.2.2 HOX.out.2.2.2 HB.out.2.1
      have HA := Lib.hid (And.intro ha1 (And.intro ha2 (And.intro ha3 ha4)))
      obtain ⟨p0, p1, p2⟩ := cells3 HX.out.1
      obtain ⟨y0, y1, y2⟩ := cells3 HX.out.2.1
      have hr2 := HX.out.2.2
      have hHF : Hid True := trivial
      clear hfe hbe hbb ha1 ha2 ha3 ha4 hx2r hx2o hHx2 HF HB
      obtain ⟨ex, hex⟩ : ∃ ex, x.emp = ex := ⟨_, rfl⟩
      obtain ⟨ey, hey⟩ : ∃ ey, y.emp = ey := ⟨_, rfl⟩
      rw [hex] at p2 ⊢
      rw [hey] at y2 ⊢
      have HE := Lib.hid (And.intro hex hey)
      clear hex hey
      have n1 : ¬ w.heap.size = wr.heap.size := by omega
      have n2 : ¬ wr.heap.size = w.heap.size := by omega
      have n3 : ¬ w.heap.size + 1 = wr.heap.size := by omega
      have n4 : ¬ wr.heap.size = w.heap.size + 1 := by omega
      have n5 : ¬ w.heap.size + 1 + 1 = wr.heap.size := by omega
      have n6 : ¬ wr.heap.size = w.heap.size + 1 + 1 := by omega
      have l1 : w.heap.size < wr.heap.size := by omega
      have l2 : w.heap.size + 1 < wr.heap.size := by omega
      have l3 : w.heap.size + 1 + 1 < wr.heap.size := by omega
      have hr2c := cells3 hr2
      obtain ⟨r0, r1, r2⟩ := hr2c
      have hrz : wr.frozen? ⟨w.heap.size + 1 + 1, 0, none⟩ = false := by simp [World.frozen?, hr2]
      have HR2 := Lib.hid hr2
      clear hr2 hrz
      have f0 : wr.frozen? ⟨w.heap.size + 1 + 1, 0, none⟩ = false := by simp [World.frozen?, HR2.out]
      have f1 : wr.frozen? ⟨w.heap.size + 1 + 1, 1, none⟩ = false := by simp [World.frozen?, HR2.out]
      have f2 : wr.frozen? ⟨w.heap.size + 1 + 1, 2, none⟩ = false := by simp [World.frozen?, HR2.out]
      have hcat := fun (va vb : Value) (la lb : List Nat) (W : World) (g c : Nat) (hW : Below wr.heap.size wr W) (ha : IL wr va la) (hb : IL wr vb lb) (hlb : lb ≠ []) (hla : la.length ≤ 50000) (hlb2 : lb.length ≤ 50000) (hg : g < W.heap.size) (hc : 2 ≤ c ∧ c ≤ 9223372036854775807) (c0 : W.cell? ⟨g, 0, none⟩ = some va) (c1 : W.cell? ⟨g, 1, none⟩ = some vb) => concat_any va vb la lb g c W (ha.later hW) (hb.later hW) hlb (by omega) hg hc c0 c1
      have HCAT := Lib.hid hcat
      have HN2 := Lib.hid (show w.heap.size + 1 + 1 ∉ fpk from fun hm => by have := HFN.out _ hm; omega)
      have HW0 := Lib.hid (show w0.heap.size ≤ w.heap.size from HBU.out.bel.size)
      clear hcat
      cases ex
      · cases ey
        · go_wp2_with fail
          refine post_named fun W hW => ?_
          obtain ⟨q1, q2⟩ := beh_end HBB.out HKF.out HW0.out (by omega) l3 HN2.out (W := W) (by rw [hW]; repeat (first | exact gb_refl _ _ | exact HGB.out | refine gb_alloc ?_ _ | refine gb_setN ?_ _ _ | refine gb_setNew ?_ (by simp) _ | refine gb_drew ?_))
          refine bodyPost_ret (v := .agg #[.slice A1 x.first.length c1, .slice B2 y.last.length d2, .bool false]) (by rw [hW]; simp [results, Tryz.results168, go_sem, r0, r1, r2, l3]; try rfl) rfl ?_
          refine ⟨fpk, .slice A1 x.first.length c1, .slice B2 y.last.length d2, ?_, q1, q2, ?_⟩
          · unfold behP; rw [HE.out.1, HE.out.2]; rfl
          · have i1 := HPRE.out.1.keep HOX.out.1 q2
            have i2 := HPRE.out.2.2.2.keep HOX.out.2.2.2 q2
            have e1 : (behP x y).first = x.first := by unfold behP; rw [HE.out.1]; rfl
            have e2 : (behP x y).last = y.last := by unfold behP; rw [HE.out.2]; rfl
            rw [e1, e2]
            exact ⟨i1.1, i1.2, i2.1, i2.2⟩
        · go_wp2_with fail
          refine (HCAT.out _ _ x.last y.last _ _ _ (((Below.refl _ _).alloc (Nat.le_refl _) _).alloc (by simp) _) HA.out.2.1.1 HA.out.2.2.2.1 hyl h2 h4 (by simp) (by decide) (by go_simp) (by go_simp)).mono ?_
          rintro e w1 ⟨v1, rfl, hown1, hb1⟩
          have hbw : Below wr.heap.size wr w1 := (((Below.refl _ _).alloc (Nat.le_refl _) _).alloc (by simp) _).trans (hb1.mono (by simp; omega))
          have c9 : w1.heap[wr.heap.size]? = some (.cells #[.slice A1 x.first.length c1, .slice B2 y.last.length d2, .bool false] 184 (0, 0)) := (hb1.block _ (by simp; omega)).trans (by rw [old_alloc _ _ _ (by simp)]; exact heap_alloc_new wr _)
          obtain ⟨t0, t1, t2⟩ := cells3 c9
          have u0 : w1.frozen? ⟨wr.heap.size, 0, none⟩ = false := by simp [World.frozen?, c9]
          have u1 : w1.frozen? ⟨wr.heap.size, 1, none⟩ = false := by simp [World.frozen?, c9]
          have z9 : wr.heap.size < w1.heap.size := (Array.getElem?_eq_some_iff.1 c9).1
          have z1 : w.heap.size < w1.heap.size := by omega
          have z2 : w.heap.size + 1 < w1.heap.size := by omega
          have z3 : w.heap.size + 1 + 1 < w1.heap.size := by omega
          have p0' := (hbw.cell (p := ⟨w.heap.size, 0, none⟩) l1).trans p0
          have p1' := (hbw.cell (p := ⟨w.heap.size, 1, none⟩) l1).trans p1
          have p2' := (hbw.cell (p := ⟨w.heap.size, 2, none⟩) l1).trans p2
          have y0' := (hbw.cell (p := ⟨w.heap.size + 1, 0, none⟩) l2).trans y0
          have y1' := (hbw.cell (p := ⟨w.heap.size + 1, 1, none⟩) l2).trans y1
          have y2' := (hbw.cell (p := ⟨w.heap.size + 1, 2, none⟩) l2).trans y2
          have r0' := (hbw.cell (p := ⟨w.heap.size + 1 + 1, 0, none⟩) l3).trans r0
          have r1' := (hbw.cell (p := ⟨w.heap.size + 1 + 1, 1, none⟩) l3).trans r1
          have r2' := (hbw.cell (p := ⟨w.heap.size + 1 + 1, 2, none⟩) l3).trans r2
          have f0' := (hbw.frozen (p := ⟨w.heap.size + 1 + 1, 0, none⟩) l3).trans f0
          have f1' := (hbw.frozen (p := ⟨w.heap.size + 1 + 1, 1, none⟩) l3).trans f1
          have f2' := (hbw.frozen (p := ⟨w.heap.size + 1 + 1, 2, none⟩) l3).trans f2
          obtain ⟨Av, cv, rfl, -, -⟩ := own_form hown1
          have HO1 := Lib.hid hown1
          have HBW := Lib.hid hbw
          have HGB := Lib.hid (gb_below' (r := some (w.heap.size + 1 + 1)) hbw)
          have HSZ := Lib.hid (show wr.heap.size + 2 ≤ w1.heap.size by have := hb1.size; simp at this; omega)
          have hln1 : w1.heap.size = w1.heap.size := rfl
          clear hown1 hb1 hbw c9 p0 p1 p2 y0 y1 y2 r0 r1 r2 f0 f1 f2 hln1
          go_wp2_with fail
          refine post_named fun W hW => ?_
          obtain ⟨q1, q2⟩ := beh_end HBB.out HKF.out HW0.out (by omega) l3 HN2.out (W := W) (by rw [hW]; repeat (first | exact gb_refl _ _ | exact HGB.out | refine gb_alloc ?_ _ | refine gb_setN ?_ _ _ | refine gb_setNew ?_ (by simp) _ | refine gb_drew ?_))
          refine bodyPost_ret (v := .agg #[.slice A1 x.first.length c1, .slice Av (x.last ++ y.last).length cv, .bool false]) (by rw [hW]; simp [results, Tryz.results168, go_sem, r0', r1', r2', t0, t1, t2, z3, z9, n5, n6]; try rfl) rfl ?_
          refine ⟨fpk, .slice A1 x.first.length c1, .slice Av (x.last ++ y.last).length cv, ?_, q1, q2, ?_⟩
          · unfold behP; rw [HE.out.1, HE.out.2]; rfl
          · have i1 := HPRE.out.1.keep HOX.out.1 q2
            have i2 := new_keep (N2 := w.heap.size + 1 + 1) (N9 := wr.heap.size) (W := W) HO1.out (by intro h; exact hyl (List.append_eq_nil_iff.1 h).2) (by simp; omega) (by simp; omega) (fun k hk => by have := (HBB.out.lt k hk).2; simp; omega) (by rw [hW]; repeat (first | exact KeepF.refl _ _ | refine kf_alloc ?_ _ | refine kf_set ?_ (by simp) _ | refine kf_drew ?_))
            have e1 : (behP x y).first = x.first := by unfold behP; rw [HE.out.1]; rfl
            have e2 : (behP x y).last = x.last ++ y.last := by unfold behP; rw [HE.out.2]; rfl
            rw [e1, e2]
            exact ⟨i1.1, i1.2, i2.1, i2.2⟩
      · cases ey
        · go_wp2_with fail
          refine (HCAT.out _ _ x.first y.first _ _ _ (((Below.refl _ _).alloc (Nat.le_refl _) _).alloc (by simp) _) HA.out.1.1 HA.out.2.2.1.1 hyf h1 h3 (by simp) (by decide) (by go_simp) (by go_simp)).mono ?_
          rintro e w1 ⟨v1, rfl, hown1, hb1⟩
          have hbw : Below wr.heap.size wr w1 := (((Below.refl _ _).alloc (Nat.le_refl _) _).alloc (by simp) _).trans (hb1.mono (by simp; omega))
          have c9 : w1.heap[wr.heap.size]? = some (.cells #[.slice A1 x.first.length c1, .slice B2 y.last.length d2, .bool false] 184 (0, 0)) := (hb1.block _ (by simp; omega)).trans (by rw [old_alloc _ _ _ (by simp)]; exact heap_alloc_new wr _)
          obtain ⟨t0, t1, t2⟩ := cells3 c9
          have u0 : w1.frozen? ⟨wr.heap.size, 0, none⟩ = false := by simp [World.frozen?, c9]
          have u1 : w1.frozen? ⟨wr.heap.size, 1, none⟩ = false := by simp [World.frozen?, c9]
          have z9 : wr.heap.size < w1.heap.size := (Array.getElem?_eq_some_iff.1 c9).1
          have z1 : w.heap.size < w1.heap.size := by omega
          have z2 : w.heap.size + 1 < w1.heap.size := by omega
          have z3 : w.heap.size + 1 + 1 < w1.heap.size := by omega
          have p0' := (hbw.cell (p := ⟨w.heap.size, 0, none⟩) l1).trans p0
          have p1' := (hbw.cell (p := ⟨w.heap.size, 1, none⟩) l1).trans p1
          have p2' := (hbw.cell (p := ⟨w.heap.size, 2, none⟩) l1).trans p2
          have y0' := (hbw.cell (p := ⟨w.heap.size + 1, 0, none⟩) l2).trans y0
          have y1' := (hbw.cell (p := ⟨w.heap.size + 1, 1, none⟩) l2).trans y1
          have y2' := (hbw.cell (p := ⟨w.heap.size + 1, 2, none⟩) l2).trans y2
          have r0' := (hbw.cell (p := ⟨w.heap.size + 1 + 1, 0, none⟩) l3).trans r0
          have r1' := (hbw.cell (p := ⟨w.heap.size + 1 + 1, 1, none⟩) l3).trans r1
          have r2' := (hbw.cell (p := ⟨w.heap.size + 1 + 1, 2, none⟩) l3).trans r2
          have f0' := (hbw.frozen (p := ⟨w.heap.size + 1 + 1, 0, none⟩) l3).trans f0
          have f1' := (hbw.frozen (p := ⟨w.heap.size + 1 + 1, 1, none⟩) l3).trans f1
          have f2' := (hbw.frozen (p := ⟨w.heap.size + 1 + 1, 2, none⟩) l3).trans f2
          obtain ⟨Av, cv, rfl, -, -⟩ := own_form hown1
          have HO1 := Lib.hid hown1
          have HBW := Lib.hid hbw
          have HGB := Lib.hid (gb_below' (r := some (w.heap.size + 1 + 1)) hbw)
          have HSZ := Lib.hid (show wr.heap.size + 2 ≤ w1.heap.size by have := hb1.size; simp at this; omega)
          have hln1 : w1.heap.size = w1.heap.size := rfl
          clear hown1 hb1 hbw c9 p0 p1 p2 y0 y1 y2 r0 r1 r2 f0 f1 f2 hln1
          go_wp2_with fail
          refine post_named fun W hW => ?_
          obtain ⟨q1, q2⟩ := beh_end HBB.out HKF.out HW0.out (by omega) l3 HN2.out (W := W) (by rw [hW]; repeat (first | exact gb_refl _ _ | exact HGB.out | refine gb_alloc ?_ _ | refine gb_setN ?_ _ _ | refine gb_setNew ?_ (by simp) _ | refine gb_drew ?_))
          refine bodyPost_ret (v := .agg #[.slice Av (x.first ++ y.first).length cv, .slice B2 y.last.length d2, .bool false]) (by rw [hW]; simp [results, Tryz.results168, go_sem, r0', r1', r2', t0, t1, t2, z3, z9, n5, n6]; try rfl) rfl ?_
          refine ⟨fpk, .slice Av (x.first ++ y.first).length cv, .slice B2 y.last.length d2, ?_, q1, q2, ?_⟩
          · unfold behP; rw [HE.out.1, HE.out.2]; rfl
          · have i1 := new_keep (N2 := w.heap.size + 1 + 1) (N9 := wr.heap.size) (W := W) HO1.out (by intro h; exact hyf (List.append_eq_nil_iff.1 h).2) (by simp; omega) (by simp; omega) (fun k hk => by have := (HBB.out.lt k hk).2; simp; omega) (by rw [hW]; repeat (first | exact KeepF.refl _ _ | refine kf_alloc ?_ _ | refine kf_set ?_ (by simp) _ | refine kf_drew ?_))
            have i2 := HPRE.out.2.2.2.keep HOX.out.2.2.2 q2
            have e1 : (behP x y).first = x.first ++ y.first := by unfold behP; rw [HE.out.1]; rfl
            have e2 : (behP x y).last = y.last := by unfold behP; rw [HE.out.2]; rfl
            rw [e1, e2]
            exact ⟨i1.1, i1.2, i2.1, i2.2⟩
        · go_wp2_with fail
          refine (HCAT.out _ _ x.first y.first _ _ _ (((Below.refl _ _).alloc (Nat.le_refl _) _).alloc (by simp) _) HA.out.1.1 HA.out.2.2.1.1 hyf h1 h3 (by simp) (by decide) (by go_simp) (by go_simp)).mono ?_
          rintro e w1 ⟨v1, rfl, hown1, hb1⟩
          rw [List.length_append] at hown1
          have hbw : Below wr.heap.size wr w1 := (((Below.refl _ _).alloc (Nat.le_refl _) _).alloc (by simp) _).trans (hb1.mono (by simp; omega))
          have c9 : w1.heap[wr.heap.size]? = some (.cells #[.slice A1 x.first.length c1, .slice B2 y.last.length d2, .bool true] 184 (0, 0)) := (hb1.block _ (by simp; omega)).trans (by rw [old_alloc _ _ _ (by simp)]; exact heap_alloc_new wr _)
          obtain ⟨t0, t1, t2⟩ := cells3 c9
          have u0 : w1.frozen? ⟨wr.heap.size, 0, none⟩ = false := by simp [World.frozen?, c9]
          have u1 : w1.frozen? ⟨wr.heap.size, 1, none⟩ = false := by simp [World.frozen?, c9]
          have z9 : wr.heap.size < w1.heap.size := (Array.getElem?_eq_some_iff.1 c9).1
          have z1 : w.heap.size < w1.heap.size := by omega
          have z2 : w.heap.size + 1 < w1.heap.size := by omega
          have z3 : w.heap.size + 1 + 1 < w1.heap.size := by omega
          have p0' := (hbw.cell (p := ⟨w.heap.size, 0, none⟩) l1).trans p0
          have p1' := (hbw.cell (p := ⟨w.heap.size, 1, none⟩) l1).trans p1
          have p2' := (hbw.cell (p := ⟨w.heap.size, 2, none⟩) l1).trans p2
          have y0' := (hbw.cell (p := ⟨w.heap.size + 1, 0, none⟩) l2).trans y0
          have y1' := (hbw.cell (p := ⟨w.heap.size + 1, 1, none⟩) l2).trans y1
          have y2' := (hbw.cell (p := ⟨w.heap.size + 1, 2, none⟩) l2).trans y2
          have r0' := (hbw.cell (p := ⟨w.heap.size + 1 + 1, 0, none⟩) l3).trans r0
          have r1' := (hbw.cell (p := ⟨w.heap.size + 1 + 1, 1, none⟩) l3).trans r1
          have r2' := (hbw.cell (p := ⟨w.heap.size + 1 + 1, 2, none⟩) l3).trans r2
          have f0' := (hbw.frozen (p := ⟨w.heap.size + 1 + 1, 0, none⟩) l3).trans f0
          have f1' := (hbw.frozen (p := ⟨w.heap.size + 1 + 1, 1, none⟩) l3).trans f1
          have f2' := (hbw.frozen (p := ⟨w.heap.size + 1 + 1, 2, none⟩) l3).trans f2
          obtain ⟨Av, cv, rfl, -, -⟩ := own_form hown1
          have HO1 := Lib.hid hown1
          have HBW := Lib.hid hbw
          have HGB := Lib.hid (gb_below' (r := some (w.heap.size + 1 + 1)) hbw)
          have HSZ := Lib.hid (show wr.heap.size + 2 ≤ w1.heap.size by have := hb1.size; simp at this; omega)
          have hln1 : w1.heap.size = w1.heap.size := rfl
          have C9 := Lib.hid c9
          clear hown1 hb1 hbw c9 p0 p1 p2 y0 y1 y2 r0 r1 r2 f0 f1 f2 hln1
          go_wp2_with fail
          have hbS : Below wr.heap.size wr (w1.setCell ⟨wr.heap.size, 0, none⟩ (.slice Av (x.first.length + y.first.length) cv)) := HBW.out.setCell (p := ⟨wr.heap.size, 0, none⟩) (Nat.le_refl _) _
          have HBS2 := Lib.hid hbS
          have c9s := set_row3 C9.out 0 (.slice Av (x.first.length + y.first.length) cv)
          have C9S := Lib.hid c9s
          have hzS : (w1.setCell ⟨wr.heap.size, 0, none⟩ (.slice Av (x.first.length + y.first.length) cv)).heap.size = w1.heap.size := by simp [World.setCell]
          have HZS := Lib.hid hzS
          clear hbS c9s hzS
          refine (HCAT.out _ _ x.last y.last _ _ _ (HBS2.out.alloc HBS2.out.size _) HA.out.2.1.1 HA.out.2.2.2.1 hyl h2 h4 (by have := HZS.out; simp; try omega) (by decide) (by go_simp) (by go_simp)).mono ?_
          rintro e w2 ⟨v2, rfl, hown2, hb2⟩
          rw [List.length_append] at hown2
          have hbw2 : Below wr.heap.size wr w2 := (HBS2.out.alloc HBS2.out.size _).trans (hb2.mono (by have := HZS.out; simp; omega))
          have c92 : w2.heap[wr.heap.size]? = some (.cells #[.slice Av (x.first.length + y.first.length) cv, .slice B2 y.last.length d2, .bool true] 184 (0, 0)) := (hb2.block _ (by have := HZS.out; simp; omega)).trans ((old_alloc _ _ _ (by have := HZS.out; omega)).trans C9S.out)
          have k1 : IL w2 (.slice Av (x.first.length + y.first.length) cv) (x.first ++ y.first) := by
            have := (IL.of_own HO1.out fun _ => (by intro h; exact hyf (List.append_eq_nil_iff.1 h).2)).keep (fp := [wr.heap.size]) (fp' := [wr.heap.size]) (w' := w2) (fun g hg hm => ?_) ?_
            · exact this.1
            · have := (HO1.out.lt g hg).1; simp at hm this; omega
            · exact (kf_alloc (kf_set (KeepF.refl _ _) (by simp) _) _).trans (KeepF.of_below hb2)
          have O1 := Lib.hid k1
          have V1G := Lib.hid (fun g hg => (HO1.out.lt g hg).1)
          have V1L := Lib.hid (fun g hg => (HO1.out.lt g hg).2)
          clear t0 t1 t2 u0 u1 z9 z1 z2 z3 p0' p1' p2' y0' y1' y2'
          obtain ⟨t0, t1, t2⟩ := cells3 c92
          have u0 : w2.frozen? ⟨wr.heap.size, 0, none⟩ = false := by simp [World.frozen?, c92]
          have u1 : w2.frozen? ⟨wr.heap.size, 1, none⟩ = false := by simp [World.frozen?, c92]
          have z9 : wr.heap.size < w2.heap.size := (Array.getElem?_eq_some_iff.1 c92).1
          have z3 : w.heap.size + 1 + 1 < w2.heap.size := by omega
          have hr2' := (hbw2.block _ l3).trans HR2.out
          clear r0' r1' r2' f0' f1' f2'
          obtain ⟨r0', r1', r2'⟩ := cells3 hr2'
          have f0' : w2.frozen? ⟨w.heap.size + 1 + 1, 0, none⟩ = false := by simp [World.frozen?, hr2']
          have f1' : w2.frozen? ⟨w.heap.size + 1 + 1, 1, none⟩ = false := by simp [World.frozen?, hr2']
          have f2' : w2.frozen? ⟨w.heap.size + 1 + 1, 2, none⟩ = false := by simp [World.frozen?, hr2']
          obtain ⟨Av2, cv2, rfl, -, -⟩ := own_form hown2
          have HO2 := Lib.hid hown2
          have HGB2 := Lib.hid (gb_below' (r := some (w.heap.size + 1 + 1)) hbw2)
          clear hown2 hb2 hbw2 c92 hr2' k1
          go_wp2_with fail
          refine post_named fun W hW => ?_
          obtain ⟨q1, q2⟩ := beh_end HBB.out HKF.out HW0.out (by omega) l3 HN2.out (W := W) (by rw [hW]; repeat (first | exact gb_refl _ _ | exact HGB2.out | refine gb_alloc ?_ _ | refine gb_setN ?_ _ _ | refine gb_setNew ?_ (by simp) _ | refine gb_drew ?_))
          refine bodyPost_ret (v := .agg #[.slice Av (x.first.length + y.first.length) cv, .slice Av2 (x.last.length + y.last.length) cv2, .bool true]) (by rw [hW]; simp [results, Tryz.results168, go_sem, r0', r1', r2', t0, t1, t2, z3, z9, n5, n6]; try rfl) rfl ?_
          refine ⟨fpk, .slice Av (x.first.length + y.first.length) cv, .slice Av2 (x.last.length + y.last.length) cv2, ?_, q1, q2, ?_⟩
          · unfold behP; rw [HE.out.1, HE.out.2]; rfl
          · have i1 := O1.out.keep (fp := [w.heap.size + 1 + 1, wr.heap.size]) (fp' := [w.heap.size + 1 + 1, wr.heap.size]) (w' := W) (fun g hg hm => by have := V1G.out g hg; simp at hm this; omega) (by rw [hW]; repeat (first | exact KeepF.refl _ _ | refine kf_alloc ?_ _ | refine kf_set ?_ (by simp) _ | refine kf_drew ?_))
            have i1' : outOf fpk (.slice Av (x.first.length + y.first.length) cv) := fun g hg hm => by have := V1G.out g hg; have := (HBB.out.lt g hm).2; simp at *; omega
            have i2 := new_keep (N2 := w.heap.size + 1 + 1) (N9 := wr.heap.size) (W := W) HO2.out (by intro h; exact hyl (List.append_eq_nil_iff.1 h).2) (by have := HZS.out; have := HSZ.out; simp; omega) (by have := HZS.out; have := HSZ.out; simp; omega) (fun k hk => by have := (HBB.out.lt k hk).2; have := HSZ.out; simp; omega) (by rw [hW]; repeat (first | exact KeepF.refl _ _ | refine kf_alloc ?_ _ | refine kf_set ?_ (by simp) _ | refine kf_drew ?_))
            have e1 : (behP x y).first = x.first ++ y.first := by unfold behP; rw [HE.out.1]; rfl
            have e2 : (behP x y).last = x.last ++ y.last := by unfold behP; rw [HE.out.2]; rfl
            rw [e1, e2]
            exact ⟨i1.1, i1', i2.1, i2.2⟩
end Go.Proofs.YtoaibhacognbjaaGreatDoor
namespace Go.Proofs.YtoaibhacognbjaaGreatDoor
set_option linter.unusedVariables false
set_option linter.unusedSimpArgs false
set_option maxRecDepth 100000
open Go.RowKit
/-- What calls on the reader at rb keep. -/
def KfR (rb : Nat) (w w' : World) : Prop := KeepF [rb] [rb] w w'
theorem kfr_refl (rb : Nat) (w : World) : KfR rb w w := KeepF.refl _ _
theorem KfR.tr {rb : Nat} {a b c : World} (h : KfR rb a b) (k : KfR rb b c) : KfR rb a c := KeepF.trans h k
theorem kfr_below {rb : Nat} {a b : World} (h : Below a.heap.size a b) : KfR rb a b := KeepF.of_below h
theorem kfr_set {rb : Nat} {w : World} {o : Nat} {v : Value} : KfR rb w (w.setCell ⟨rb, o, none⟩ v) := kf_set (KeepF.refl _ _) (by simp) _
end Go.Proofs.YtoaibhacognbjaaGreatDoor
namespace Go.Proofs.YtoaibhacognbjaaGreatDoor
set_option linter.unusedVariables false
set_option linter.unusedSimpArgs false
set_option maxRecDepth 100000
open Go.RowKit
theorem calls_nm {P : Program} {f : FuncId} {args : Array Value} {Q : Ending → World → Prop} {w : World} (h : ∀ W, W = w → Calls P f args W Q) : Calls P f args w Q := h w rfl
/-- The reference's parser in memory. -/
def PaW (pb : Nat) (t : ByteArray) (k : Int) (bad : Bool) (w : World) : Prop := w.heap[pb]? = some (.cells #[.string t, .int .i64 k, .bool bad] 156 (0, 0))
section
variable {pb : Nat} {t : ByteArray} {k : Int} {bad : Bool} {w w' : World}
theorem PaW.later (h : PaW pb t k bad w) (hb : Below w.heap.size w w') : PaW pb t k bad w' := (hb.block pb (Array.getElem?_eq_some_iff.1 h).1).trans h
theorem PaW.cells (h : PaW pb t k bad w) : (w.cell? ⟨pb, 0, none⟩ = some (.string t) ∧ w.cell? ⟨pb, 1, none⟩ = some (.int .i64 k) ∧ w.cell? ⟨pb, 2, none⟩ = some (.bool bad)) ∧ (w.frozen? ⟨pb, 1, none⟩ = false ∧ w.frozen? ⟨pb, 2, none⟩ = false) ∧ pb < w.heap.size :=
  ⟨cells3 h, ⟨by simp [World.frozen?, show w.heap[pb]? = _ from h], by simp [World.frozen?, show w.heap[pb]? = _ from h]⟩, (Array.getElem?_eq_some_iff.1 h).1⟩
theorem PaW.at_ (h : PaW pb t k bad w) (k1 : Int) : PaW pb t k1 bad (w.setCell ⟨pb, 1, none⟩ (.int .i64 k1)) := by
  have := set_row3 h 1 (.int .i64 k1)
  simpa [PaW] using this
theorem PaW.bad_ (h : PaW pb t k bad w) (b : Bool) : PaW pb t k b (w.setCell ⟨pb, 2, none⟩ (.bool b)) := by
  have := set_row3 h 2 (.bool b)
  simpa [PaW] using this
end
set_option maxHeartbeats 4000000 in
theorem st5 {w Wf : World} {b : Nat} {a0 a1 a2 a3 a4 : Value} (h : Wf = ((((w.setCell ⟨b, 0, none⟩ a0).setCell ⟨b, 1, none⟩ a1).setCell ⟨b, 2, none⟩ a2).setCell ⟨b, 3, none⟩ a3).setCell ⟨b, 4, none⟩ a4) : (∀ k, k ≠ b → Wf.heap[k]? = w.heap[k]?) ∧ Wf.heap.size = w.heap.size ∧ (Wf.os = w.os ∧ Wf.tape = w.tape ∧ Wf.output = w.output) ∧
    ∀ {o0 o1 o2 o3 o4 : Value} {T : TypeId}, w.heap[b]? = some (.cells #[o0, o1, o2, o3, o4] T (0, 0)) → Wf.heap[b]? = some (.cells #[a0, a1, a2, a3, a4] T (0, 0)) := by
  subst h
  refine ⟨fun k hk => ?_, by simp [World.setCell], ⟨rfl, rfl, rfl⟩, fun {o0 o1 o2 o3 o4 T} hb => ?_⟩
  · exact (Below.heap_setCell _ ⟨b, 4, none⟩ _ k hk).trans ((Below.heap_setCell _ ⟨b, 3, none⟩ _ k hk).trans ((Below.heap_setCell _ ⟨b, 2, none⟩ _ k hk).trans ((Below.heap_setCell _ ⟨b, 1, none⟩ _ k hk).trans (Below.heap_setCell _ ⟨b, 0, none⟩ _ k hk))))
  · have := set_row3 (set_row3 (set_row3 (set_row3 (set_row3 hb 0 a0) 1 a1) 2 a2) 3 a3) 4 a4
    simpa using this
/-- A box above was written. -/
theorem kfr_box {pb b : Nat} {w w2 W9 : World} (h : KfR pb w w2) (hb : w.heap.size ≤ b) (h1 : ∀ k, k ≠ b → W9.heap[k]? = w2.heap[k]?) (hs : W9.heap.size = w2.heap.size) (ho : W9.os = w2.os ∧ W9.tape = w2.tape ∧ W9.output = w2.output) : KfR pb w W9 :=
  ⟨ho.1.trans h.os, ho.2.1.trans h.tape, ho.2.2.trans h.output, by rw [hs]; exact h.size, fun k hk hn => (h1 k (by omega)).trans (h.blk k hk hn), fun k hk => .inl hk⟩
theorem frz5 {w : World} {b : Nat} {cs : Array Value} {T : TypeId} (h : w.heap[b]? = some (.cells cs T (0, 0))) : w.frozen? ⟨b, 0, none⟩ = false ∧ w.frozen? ⟨b, 1, none⟩ = false ∧ w.frozen? ⟨b, 2, none⟩ = false ∧ w.frozen? ⟨b, 3, none⟩ = false ∧ w.frozen? ⟨b, 4, none⟩ = false :=
  ⟨by simp [World.frozen?, h], by simp [World.frozen?, h], by simp [World.frozen?, h], by simp [World.frozen?, h], by simp [World.frozen?, h]⟩
theorem peek_in (pb : Nat) (t : ByteArray) (k c : Int) (bad : Bool) (w : World) (h : PaW pb t k bad w) (hlt : decide ((t.size : Int) ≤ k) = false) (hidx : ∀ w, (Instr.index 9 (.string t) (.int .i64 k)).run Tryz.prog w = .ok (.int .u8 c) w) :
    Calls Tryz.prog 144 #[.pointer (some ⟨pb, 0, none⟩)] w fun e w' => e = .returned (.int .u8 c) ∧ Below w.heap.size w w' := by
  have d0 : ∀ d : BelT w.heap.size w, d.val.cell? ⟨pb, 0, none⟩ = some (.string t) := fun d => (h.later d.property).cells.1.1
  have d1 : ∀ d : BelT w.heap.size w, d.val.cell? ⟨pb, 1, none⟩ = some (.int .i64 k) := fun d => (h.later d.property).cells.1.2.1
  have d2 : ∀ d : BelT w.heap.size w, pb < d.val.heap.size := fun d => (h.later d.property).cells.2.2
  have HP := Lib.hid h
  clear h
  go_enter Tryz.func144, Tryz.ntmps144
  go_wp2_with fail
  refine wp_region_below (Below.refl w.heap.size w) (by kernel_rfl) (by kernel_rfl) ?_
  repeat (go_big_quiet_step (fail))
  refine wpQuiet_nil ?_
  intro w1 hw'
  have hw1 : Below w.heap.size w w1 := by obtain ⟨d9, rfl⟩ := hw'; exact d9.property
  have HB := Lib.hid hw1
  clear hw' hw1 d0 d1 d2
  have d0 : ∀ d : BelT w1.heap.size w1, d.val.cell? ⟨pb, 0, none⟩ = some (.string t) := fun d => ((HP.out.later HB.out).later d.property).cells.1.1
  have d1 : ∀ d : BelT w1.heap.size w1, d.val.cell? ⟨pb, 1, none⟩ = some (.int .i64 k) := fun d => ((HP.out.later HB.out).later d.property).cells.1.2.1
  have d2 : ∀ d : BelT w1.heap.size w1, pb < d.val.heap.size := fun d => ((HP.out.later HB.out).later d.property).cells.2.2
  go_wp2_with fail
  refine wp_region_below (Below.refl w1.heap.size w1) (by kernel_rfl) (by kernel_rfl) ?_
  repeat (go_big_quiet_step (fail))
  refine wpQuiet_nil ?_
  intro w2 hw'
  have hw2 : Below w1.heap.size w1 w2 := by obtain ⟨d9, rfl⟩ := hw'; exact d9.property
  have HB2 := Lib.hid (HB.out.trans (hw2.mono HB.out.size))
  clear hw' hw2 d0 d1 d2
  go_wp2_with fail
  go_ret
  exact ⟨rfl, HB2.out⟩
theorem peek_end (pb : Nat) (t : ByteArray) (k : Int) (bad : Bool) (w : World) (h : PaW pb t k bad w) (hlt : decide ((t.size : Int) ≤ k) = true) :
    Calls Tryz.prog 144 #[.pointer (some ⟨pb, 0, none⟩)] w fun e w' => e = .returned (.int .u8 0) ∧ Below w.heap.size w w' := by
  have d0 : ∀ d : BelT w.heap.size w, d.val.cell? ⟨pb, 0, none⟩ = some (.string t) := fun d => (h.later d.property).cells.1.1
  have d1 : ∀ d : BelT w.heap.size w, d.val.cell? ⟨pb, 1, none⟩ = some (.int .i64 k) := fun d => (h.later d.property).cells.1.2.1
  have d2 : ∀ d : BelT w.heap.size w, pb < d.val.heap.size := fun d => (h.later d.property).cells.2.2
  clear h
  go_enter Tryz.func144, Tryz.ntmps144
  go_wp2_with fail
  refine wp_region_below (Below.refl w.heap.size w) (by kernel_rfl) (by kernel_rfl) ?_
  repeat (go_big_quiet_step (fail))
  refine wpQuiet_nil ?_
  intro w1 hw'
  have hw1 : Below w.heap.size w w1 := by obtain ⟨d9, rfl⟩ := hw'; exact d9.property
  have HB := Lib.hid hw1
  clear hw' hw1 d0 d1 d2
  go_wp2_with fail
  go_ret
  exact ⟨rfl, HB.out⟩
theorem char_at (pb : Nat) (t : ByteArray) (k k1 c : Int) (bad : Bool) (w : World) (h : PaW pb t k bad w) (hlt : decide ((t.size : Int) ≤ k) = false) (hidx : ∀ w, (Instr.index 9 (.string t) (.int .i64 k)).run Tryz.prog w = .ok (.int .u8 c) w)
    (hk : IntKind.i64.wrap (k + 1) = k1) (hc : (c != 92) = true) :
    Calls Tryz.prog 244 #[.pointer (some ⟨pb, 0, none⟩)] w fun e w' => e = .returned (.int .u8 c) ∧ PaW pb t k1 bad w' ∧ KfR pb w w' := by
  have HC := Lib.hid (peek_in pb t k c bad w h hlt hidx)
  have HP := Lib.hid h
  clear h hidx hlt
  go_enter Tryz.func244, Tryz.ntmps244
  go_wp2_with fail
  refine HC.out.mono ?_
  rintro e w1 ⟨rfl, hb1⟩
  obtain ⟨⟨c0, c1, c2⟩, ⟨f1, f2⟩, hl⟩ := (HP.out.later hb1).cells
  have HB := Lib.hid hb1
  clear hb1
  go_wp2_with fail
  refine post_named fun Wf hWf => ?_
  subst hWf
  refine bodyPost_ret (v := .int .u8 c) (by simp [results, Tryz.results244, go_sem]; try rfl) rfl ?_
  exact ⟨rfl, (HP.out.later HB.out).at_ k1, (kfr_below HB.out).tr kfr_set⟩
end Go.Proofs.YtoaibhacognbjaaGreatDoor
namespace Go.Proofs.YtoaibhacognbjaaGreatDoor
set_option linter.unusedVariables false
set_option linter.unusedSimpArgs false
set_option maxRecDepth 100000
open Go.RowKit
def tA : ByteArray := ⟨#[97, 123, 49, 44, 50, 125]⟩
theorem tA_sz : tA.size = 6 := rfl
theorem tA_lt0 : decide ((tA.size : Int) ≤ 0) = false := by decide
theorem tA_ix0 (w : World) : (Instr.index 9 (.string tA) (.int .i64 0)).run Tryz.prog w = .ok (.int .u8 97) w := by kernel_rfl
theorem tA_lt1 : decide ((tA.size : Int) ≤ 1) = false := by decide
theorem tA_ix1 (w : World) : (Instr.index 9 (.string tA) (.int .i64 1)).run Tryz.prog w = .ok (.int .u8 123) w := by kernel_rfl
theorem tA_lt2 : decide ((tA.size : Int) ≤ 2) = false := by decide
theorem tA_ix2 (w : World) : (Instr.index 9 (.string tA) (.int .i64 2)).run Tryz.prog w = .ok (.int .u8 49) w := by kernel_rfl
theorem tA_lt3 : decide ((tA.size : Int) ≤ 3) = false := by decide
theorem tA_ix3 (w : World) : (Instr.index 9 (.string tA) (.int .i64 3)).run Tryz.prog w = .ok (.int .u8 44) w := by kernel_rfl
theorem tA_lt4 : decide ((tA.size : Int) ≤ 4) = false := by decide
theorem tA_ix4 (w : World) : (Instr.index 9 (.string tA) (.int .i64 4)).run Tryz.prog w = .ok (.int .u8 50) w := by kernel_rfl
theorem tA_lt5 : decide ((tA.size : Int) ≤ 5) = false := by decide
theorem tA_ix5 (w : World) : (Instr.index 9 (.string tA) (.int .i64 5)).run Tryz.prog w = .ok (.int .u8 125) w := by kernel_rfl
theorem tA_end : decide ((tA.size : Int) ≤ 6) = true := by decide
set_option maxHeartbeats 4000000 in
theorem times_2 (pb : Nat) (w : World) (h : PaW pb tA 2 false w) : Calls Tryz.prog 211 #[.pointer (some ⟨pb, 0, none⟩)] w fun e w' => e = .returned (.int .i64 1) ∧ PaW pb tA 3 false w' ∧ KfR pb w w' := by
  have P1 := Lib.hid fun W (h : PaW pb tA 2 false W) => peek_in pb tA 2 49 false W h tA_lt2 tA_ix2
  have P2 := Lib.hid fun W (h : PaW pb tA 3 false W) => peek_in pb tA 3 44 false W h tA_lt3 tA_ix3
  have HP := Lib.hid h
  have d0 : ∀ d : BelT w.heap.size w, d.val.cell? ⟨pb, 1, none⟩ = some (.int .i64 2) := fun d => (h.later d.property).cells.1.2.1
  have d1 : ∀ d : BelT w.heap.size w, pb < d.val.heap.size := fun d => (h.later d.property).cells.2.2
  clear h
  go_enter Tryz.func211, Tryz.ntmps211
  go_wp2_with fail
  refine wp_region_below (Below.refl w.heap.size w) (by kernel_rfl) (by kernel_rfl) ?_
  repeat (go_big_quiet_step (fail))
  refine wpQuiet_nil ?_
  intro w1 hw'
  have hw1 : Below w.heap.size w w1 := by obtain ⟨d9, rfl⟩ := hw'; exact d9.property
  have HB1 := Lib.hid hw1
  clear hw' hw1 d0 d1
  go_wp2_with fail
  refine wp_loop_rounds 2 ?_
  rw [rounds_succ]
  go_wp2_with fail
  refine (P1.out w1 (HP.out.later HB1.out)).mono ?_
  rintro e w2 ⟨rfl, hb2⟩
  have HB2 := Lib.hid (HB1.out.trans (hb2.mono HB1.out.size))
  clear hb2
  go_wp2_with fail
  refine (P1.out w2 (HP.out.later HB2.out)).mono ?_
  rintro e w3 ⟨rfl, hb3⟩
  have HB3 := Lib.hid (HB2.out.trans (hb3.mono HB2.out.size))
  obtain ⟨⟨c0, c1, c2⟩, ⟨f1, f2⟩, hl⟩ := (HP.out.later HB3.out).cells
  clear hb3
  go_wp2_with fail
  clear c0 c1 c2 f1 f2 hl
  refine (P1.out w3 (HP.out.later HB3.out)).mono ?_
  rintro e w4 ⟨rfl, hb4⟩
  have HB4 := Lib.hid (HB3.out.trans (hb4.mono HB3.out.size))
  obtain ⟨⟨c0, c1, c2⟩, ⟨f1, f2⟩, hl⟩ := (HP.out.later HB4.out).cells
  clear hb4
  go_wp2_with fail
  rw [rounds_succ]
  go_wp2_with fail
  have hP5 : PaW pb tA 3 false (w4.setCell ⟨pb, 1, none⟩ (.int .i64 3)) := (HP.out.later HB4.out).at_ 3
  have HK5 := Lib.hid ((kfr_below HB4.out).tr (kfr_set (rb := pb) (w := w4) (o := 1) (v := .int .i64 3)))
  refine (P2.out _ hP5).mono ?_
  rintro e w6 ⟨rfl, hb6⟩
  have HP6 := Lib.hid (hP5.later hb6)
  have HK6 := Lib.hid (HK5.out.tr (kfr_below hb6))
  clear hb6 hP5 c0 c1 c2 f1 f2 hl
  have HP7 := HP6
  have HK7 := HK6
  obtain ⟨⟨c0, c1, c2⟩, ⟨f1, f2⟩, hl⟩ := HP7.out.cells
  go_wp2_with fail
  refine post_named fun Wf hWf => ?_
  subst hWf
  refine bodyPost_ret (v := .int .i64 1) (by simp [results, Tryz.results211, go_sem]; try rfl) rfl ?_
  exact ⟨rfl, HP7.out.bad_ false, HK7.out.tr kfr_set⟩
set_option maxHeartbeats 4000000 in
theorem times_4 (pb : Nat) (w : World) (h : PaW pb tA 4 false w) : Calls Tryz.prog 211 #[.pointer (some ⟨pb, 0, none⟩)] w fun e w' => e = .returned (.int .i64 2) ∧ PaW pb tA 5 false w' ∧ KfR pb w w' := by
  have P1 := Lib.hid fun W (h : PaW pb tA 4 false W) => peek_in pb tA 4 50 false W h tA_lt4 tA_ix4
  have P2 := Lib.hid fun W (h : PaW pb tA 5 false W) => peek_in pb tA 5 125 false W h tA_lt5 tA_ix5
  have HP := Lib.hid h
  have d0 : ∀ d : BelT w.heap.size w, d.val.cell? ⟨pb, 1, none⟩ = some (.int .i64 4) := fun d => (h.later d.property).cells.1.2.1
  have d1 : ∀ d : BelT w.heap.size w, pb < d.val.heap.size := fun d => (h.later d.property).cells.2.2
  clear h
  go_enter Tryz.func211, Tryz.ntmps211
  go_wp2_with fail
  refine wp_region_below (Below.refl w.heap.size w) (by kernel_rfl) (by kernel_rfl) ?_
  repeat (go_big_quiet_step (fail))
  refine wpQuiet_nil ?_
  intro w1 hw'
  have hw1 : Below w.heap.size w w1 := by obtain ⟨d9, rfl⟩ := hw'; exact d9.property
  have HB1 := Lib.hid hw1
  clear hw' hw1 d0 d1
  go_wp2_with fail
  refine wp_loop_rounds 2 ?_
  rw [rounds_succ]
  go_wp2_with fail
  refine (P1.out w1 (HP.out.later HB1.out)).mono ?_
  rintro e w2 ⟨rfl, hb2⟩
  have HB2 := Lib.hid (HB1.out.trans (hb2.mono HB1.out.size))
  clear hb2
  go_wp2_with fail
  refine (P1.out w2 (HP.out.later HB2.out)).mono ?_
  rintro e w3 ⟨rfl, hb3⟩
  have HB3 := Lib.hid (HB2.out.trans (hb3.mono HB2.out.size))
  obtain ⟨⟨c0, c1, c2⟩, ⟨f1, f2⟩, hl⟩ := (HP.out.later HB3.out).cells
  clear hb3
  go_wp2_with fail
  clear c0 c1 c2 f1 f2 hl
  refine (P1.out w3 (HP.out.later HB3.out)).mono ?_
  rintro e w4 ⟨rfl, hb4⟩
  have HB4 := Lib.hid (HB3.out.trans (hb4.mono HB3.out.size))
  obtain ⟨⟨c0, c1, c2⟩, ⟨f1, f2⟩, hl⟩ := (HP.out.later HB4.out).cells
  clear hb4
  go_wp2_with fail
  rw [rounds_succ]
  go_wp2_with fail
  have hP5 : PaW pb tA 5 false (w4.setCell ⟨pb, 1, none⟩ (.int .i64 5)) := (HP.out.later HB4.out).at_ 5
  have HK5 := Lib.hid ((kfr_below HB4.out).tr (kfr_set (rb := pb) (w := w4) (o := 1) (v := .int .i64 5)))
  refine (P2.out _ hP5).mono ?_
  rintro e w6 ⟨rfl, hb6⟩
  have HP6 := Lib.hid (hP5.later hb6)
  have HK6 := Lib.hid (HK5.out.tr (kfr_below hb6))
  clear hb6 hP5 c0 c1 c2 f1 f2 hl
  go_wp2_with fail
  refine (P2.out _ HP6.out).mono ?_
  rintro e w7 ⟨rfl, hb7⟩
  have HP7 := Lib.hid (HP6.out.later hb7)
  have HK7 := Lib.hid (HK6.out.tr (kfr_below hb7))
  clear hb7
  obtain ⟨⟨c0, c1, c2⟩, ⟨f1, f2⟩, hl⟩ := HP7.out.cells
  go_wp2_with fail
  refine post_named fun Wf hWf => ?_
  subst hWf
  refine bodyPost_ret (v := .int .i64 2) (by simp [results, Tryz.results211, go_sem]; try rfl) rfl ?_
  exact ⟨rfl, HP7.out.bad_ false, HK7.out.tr kfr_set⟩
/-- A leaf of the example, as a value, where its ranges lie at q. -/
def lfA (q : Nat) : Value := .agg #[.int .i64 1, .slice (some ⟨q, 0, none⟩) 1 1, .slice none 0 0, .int .i64 0, .int .i64 0]
def RgA (q : Nat) (w : World) : Prop := w.heap[q]? = some (.cells #[.int .u8 97, .int .u8 97] 98 (0, 0))
set_option maxHeartbeats 4000000 in
theorem atom_A (pb : Nat) (w : World) (h : PaW pb tA 0 false w) : Calls Tryz.prog 210 #[.pointer (some ⟨pb, 0, none⟩)] w fun e w' => ∃ q, e = .returned (.agg #[.int .i64 1, .slice (some ⟨q, 0, none⟩) 1 1, .slice none 0 0, .int .i64 0, .int .i64 0]) ∧ w.heap.size ≤ q ∧ RgA q w' ∧ PaW pb tA 1 false w' ∧ KfR pb w w' := by
  have P1 := Lib.hid fun W (h : PaW pb tA 0 false W) => peek_in pb tA 0 97 false W h tA_lt0 tA_ix0
  have P2 := Lib.hid fun W (h : PaW pb tA 0 false W) => char_at pb tA 0 1 97 false W h tA_lt0 tA_ix0 rfl rfl
  have HP := Lib.hid h
  have hl := h.cells.2.2
  clear h
  go_enter Tryz.func210, Tryz.ntmps210
  go_wp2_with fail
  refine calls_nm fun W0 hW0 => ?_
  have hb0 : Below w.heap.size w W0 := by rw [hW0]; exact (Below.refl _ _).alloc (Nat.le_refl _) _
  have hX : W0.heap[w.heap.size]? = some (.cells #[.int .i64 0, .slice none 0 0, .slice none 0 0, .int .i64 0, .int .i64 0] 29 (0, 0)) := by rw [hW0]; exact heap_alloc_new w _
  have H0 := Lib.hid (And.intro hb0 hX)
  clear hW0 hb0 hX
  refine (P1.out W0 (HP.out.later H0.out.1)).mono ?_
  rintro e w1 ⟨rfl, hb1⟩
  have HB1 := Lib.hid (H0.out.1.trans (hb1.mono H0.out.1.size))
  have HX1 := Lib.hid ((hb1.block _ (Array.getElem?_eq_some_iff.1 H0.out.2).1).trans H0.out.2)
  clear hb1
  go_wp2_with fail
  refine (P2.out w1 (HP.out.later HB1.out)).mono ?_
  rintro e w2 ⟨rfl, hp2, hk2⟩
  have hX2 := (hk2.blk _ (Array.getElem?_eq_some_iff.1 HX1.out).1 (fun hm => by rw [List.mem_singleton] at hm; omega)).trans HX1.out
  obtain ⟨x0, x1, x2, x3, x4⟩ := cells5 hX2
  have lx : w.heap.size < w2.heap.size := (Array.getElem?_eq_some_iff.1 hX2).1
  obtain ⟨g0, g1, g2, g3, g4⟩ := frz5 hX2
  have H2 := Lib.hid (And.intro hp2 (And.intro hk2 hX2))
  clear hp2 hk2 hX2
  go_wp2_with fail
  refine post_named fun Wf hWf => ?_
  refine bodyPost_ret (v := .agg #[.int .i64 1, .slice (some ⟨w2.heap.size, 0, none⟩) 1 1, .slice none 0 0, .int .i64 0, .int .i64 0]) (by rw [hWf]; simp [results, Tryz.results210, go_sem, x0, x1, x2, x3, x4, lx]; try rfl) rfl ?_
  obtain ⟨W9, hW9⟩ : ∃ W, W = ((((w2.setCell ⟨w.heap.size, 0, none⟩ (.int .i64 1)).setCell ⟨w.heap.size, 1, none⟩ (.slice (some ⟨w2.heap.size, 0, none⟩) 1 1)).setCell ⟨w.heap.size, 2, none⟩ (.slice none 0 0)).setCell ⟨w.heap.size, 3, none⟩ (.int .i64 0)).setCell ⟨w.heap.size, 4, none⟩ (.int .i64 0) := ⟨_, rfl⟩
  rw [← hW9] at hWf
  obtain ⟨s1, s2, s3, -⟩ := st5 hW9
  have hk9 : KfR pb w W9 := kfr_box ((kfr_below HB1.out).tr H2.out.2.1) (Nat.le_refl _) s1 s2 s3
  have hb9 : Below W9.heap.size W9 Wf := by rw [hWf]; exact (Below.refl _ _).alloc (Nat.le_refl _) _
  exact ⟨_, rfl, by omega, by rw [hWf, ← s2]; exact heap_alloc_new W9 _, PaW.later ((s1 pb (by omega)).trans H2.out.1) hb9, hk9.tr (kfr_below hb9)⟩
end Go.Proofs.YtoaibhacognbjaaGreatDoor
namespace Go.Proofs.YtoaibhacognbjaaGreatDoor
set_option linter.unusedVariables false
set_option linter.unusedSimpArgs false
set_option maxRecDepth 100000
open Go.RowKit
/-- The leaf of the example in memory. -/
def LfA (g q : Nat) (w : World) : Prop := w.heap[g]? = some (.cells #[.int .i64 1, .slice (some ⟨q, 0, none⟩) 1 1, .slice none 0 0, .int .i64 0, .int .i64 0] 29 (0, 0)) ∧ RgA q w
theorem LfA.later {g q : Nat} {w w' : World} (h : LfA g q w) (hb : Below w.heap.size w w') : LfA g q w' :=
  ⟨(hb.block g (Array.getElem?_eq_some_iff.1 h.1).1).trans h.1, (hb.block q (Array.getElem?_eq_some_iff.1 h.2).1).trans h.2⟩
theorem LfA.kf {g q pb : Nat} {w w' : World} (h : LfA g q w) (hk : KfR pb w w') (hg : g ≠ pb) (hq : q ≠ pb) : LfA g q w' :=
  ⟨(hk.blk g (Array.getElem?_eq_some_iff.1 h.1).1 (by simpa using hg)).trans h.1, (hk.blk q (Array.getElem?_eq_some_iff.1 h.2).1 (by simpa using hq)).trans h.2⟩
theorem kf_at {pb b : Nat} {w w' : World} {o : Obj} (hk : KfR pb w w') (hb : b ≠ pb) (h : w.heap[b]? = some o) : w'.heap[b]? = some o := (hk.blk b (Array.getElem?_eq_some_iff.1 h).1 (by simpa using hb)).trans h
set_option maxHeartbeats 4000000 in
theorem item_A (pb : Nat) (w : World) (h : PaW pb tA 0 false w) : Calls Tryz.prog 181 #[.pointer (some ⟨pb, 0, none⟩)] w fun e w' => ∃ g q, e = .returned (.agg #[.int .i64 4, .slice none 0 0, .slice (some ⟨g, 0, none⟩) 1 1, .int .i64 1, .int .i64 2]) ∧ (w.heap.size ≤ g ∧ w.heap.size ≤ q) ∧ LfA g q w' ∧ PaW pb tA 6 false w' ∧ KfR pb w w' := by
  have hl := h.cells.2.2
  have HP := Lib.hid h
  clear h
  go_enter Tryz.func181, Tryz.ntmps181
  go_wp2_with fail
  refine calls_nm fun W0 hW0 => ?_
  have hb0 : Below w.heap.size w W0 := by rw [hW0]; exact (Below.refl _ _).alloc (Nat.le_refl _) _
  have hX : W0.heap[w.heap.size]? = some (.cells #[.int .i64 0, .slice none 0 0, .slice none 0 0, .int .i64 0, .int .i64 0] 29 (0, 0)) := by rw [hW0]; exact heap_alloc_new w _
  have H0 := Lib.hid (And.intro hb0 hX)
  clear hW0 hb0 hX
  refine (atom_A pb W0 (HP.out.later H0.out.1)).mono ?_
  rintro e w1 ⟨q, rfl, hq, hrg, hp1, hk1⟩
  have hz0 := H0.out.1.size
  have hzX := (Array.getElem?_eq_some_iff.1 H0.out.2).1
  have hk01 : KfR pb w w1 := (kfr_below H0.out.1).tr hk1
  have hX1 := kf_at hk1 (by omega) H0.out.2
  have H1 := Lib.hid (And.intro hrg (And.intro hp1 (And.intro hk01 hX1)))
  have hz1 := hk1.size
  clear hrg hp1 hk1 hk01 hX1
  go_wp2_with fail
  refine calls_nm fun W2 hW2 => ?_
  have hb2 : Below w1.heap.size w1 W2 := by rw [hW2]; exact (Below.refl _ _).alloc (Nat.le_refl _) _
  have hY : W2.heap[w1.heap.size]? = some (.cells #[.int .i64 1, .slice (some ⟨q, 0, none⟩) 1 1, .slice none 0 0, .int .i64 0, .int .i64 0] 29 (0, 0)) := by rw [hW2]; exact heap_alloc_new w1 _
  have H2 := Lib.hid (And.intro hb2 hY)
  clear hW2 hb2 hY
  refine (peek_in pb tA 1 123 false W2 (H1.out.2.1.later H2.out.1) tA_lt1 tA_ix1).mono ?_
  rintro e w3 ⟨rfl, hb3⟩
  have hb13 : Below w1.heap.size w1 w3 := H2.out.1.trans (hb3.mono H2.out.1.size)
  have hp3 := H1.out.2.1.later hb13
  have hY3 := (hb3.block _ (Array.getElem?_eq_some_iff.1 H2.out.2).1).trans H2.out.2
  obtain ⟨y0, y1, y2, y3, y4⟩ := cells5 hY3
  obtain ⟨⟨c0, c1, c2⟩, ⟨f1, f2⟩, lp⟩ := hp3.cells
  have ly : w1.heap.size < w3.heap.size := (Array.getElem?_eq_some_iff.1 hY3).1
  have ne1 : w1.heap.size ≠ pb := by omega
  have ne2 : pb ≠ w1.heap.size := by omega
  have H3 := Lib.hid (And.intro hb13 hp3)
  clear hb3 hb13 hp3 hY3
  go_wp2_with fail
  refine calls_nm fun W4 hW4 => ?_
  have hs3 : (w3.setCell ⟨pb, 1, none⟩ (.int .i64 2)).heap.size = w3.heap.size := by simp [World.setCell]
  have hb4 : Below w3.heap.size (w3.setCell ⟨pb, 1, none⟩ (.int .i64 2)) W4 := by rw [hW4]; exact ((Below.refl _ _).alloc (by rw [hs3]; exact Nat.le_refl _) _).alloc (by simp [World.setCell]) _
  have hG : W4.heap[w3.heap.size]? = some (.cells #[.int .i64 1, .slice (some ⟨q, 0, none⟩) 1 1, .slice none 0 0, .int .i64 0, .int .i64 0] 29 (0, 0)) := by
    rw [hW4, old_alloc _ _ _ (by simp [World.setCell])]
    have h9 := heap_alloc_new (w3.setCell ⟨pb, 1, none⟩ (.int .i64 2)) (.cells #[.int .i64 1, .slice (some ⟨q, 0, none⟩) 1 1, .slice none 0 0, .int .i64 0, .int .i64 0] 29)
    rw [hs3] at h9; exact h9
  have hR : W4.heap[w3.heap.size + 1]? = some (.cells #[.int .i64 4, .slice none 0 0, .slice (some ⟨w3.heap.size, 0, none⟩) 1 1, .int .i64 0, .int .i64 0] 29 (0, 0)) := by
    rw [hW4]
    have h9 := heap_alloc_new ((w3.setCell ⟨pb, 1, none⟩ (.int .i64 2)).alloc (.cells #[.int .i64 1, .slice (some ⟨q, 0, none⟩) 1 1, .slice none 0 0, .int .i64 0, .int .i64 0] 29)) (.cells #[.int .i64 4, .slice none 0 0, .slice (some ⟨w3.heap.size, 0, none⟩) 1 1, .int .i64 0, .int .i64 0] 29)
    simpa [World.setCell] using h9
  have hp4 : PaW pb tA 2 false W4 := ((H3.out.2.at_ 2).later (hb4.mono (by rw [hs3]; exact Nat.le_refl _)))
  have hk4 : KfR pb w W4 := ((H1.out.2.2.1.tr (kfr_below H3.out.1)).tr kfr_set).tr (kfr_below (hb4.mono (by rw [hs3]; exact Nat.le_refl _)))
  have hX4 : W4.heap[w.heap.size]? = _ := (hb4.block _ (by omega)).trans ((Below.heap_setCell w3 ⟨pb, 1, none⟩ (.int .i64 2) w.heap.size (by show w.heap.size ≠ pb; omega)).trans ((H3.out.1.block _ (by omega)).trans H1.out.2.2.2))
  have hq4 : RgA q W4 := (hb4.block _ (by have := (Array.getElem?_eq_some_iff.1 H1.out.1).1; omega)).trans ((Below.heap_setCell w3 ⟨pb, 1, none⟩ (.int .i64 2) q (by show q ≠ pb; omega)).trans ((H3.out.1.block _ (Array.getElem?_eq_some_iff.1 H1.out.1).1).trans H1.out.1))
  obtain ⟨g, hg⟩ : ∃ g, w3.heap.size = g := ⟨_, rfl⟩
  have hgw : w.heap.size < g := by omega
  have hqg : q < g := by have := (Array.getElem?_eq_some_iff.1 H1.out.1).1; have := H3.out.1.size; omega
  rw [hg] at hG hR ⊢
  have H4 := Lib.hid (And.intro hp4 (And.intro hk4 (And.intro hX4 (And.intro (show LfA g q W4 from ⟨hG, hq4⟩) hR))))
  have hqw : w.heap.size ≤ q := by omega
  clear hW4 hb4 hG hR hp4 hk4 hX4 hq4 y0 y1 y2 y3 y4 c0 c1 c2 f1 f2 lp ly ne1 ne2 hs3
  refine (times_2 pb W4 H4.out.1).mono ?_
  rintro e w5 ⟨rfl, hp5, hk5⟩
  have hR5 := kf_at hk5 (by omega) H4.out.2.2.2.2
  have H5 := Lib.hid (And.intro hp5 (And.intro (H4.out.2.1.tr hk5) (And.intro (kf_at hk5 (by omega) H4.out.2.2.1) (And.intro (H4.out.2.2.2.1.kf hk5 (by omega) (by omega)) hR5))))
  obtain ⟨r0, r1, r2, r3, r4⟩ := cells5 hR5
  obtain ⟨z0, z1, z2, z3, z4⟩ := frz5 hR5
  have lr : g + 1 < w5.heap.size := (Array.getElem?_eq_some_iff.1 hR5).1
  clear hp5 hk5 hR5
  go_wp2_with fail
  refine calls_nm fun W6 hW6 => ?_
  have hR6 : W6.heap[g + 1]? = some (.cells #[.int .i64 4, .slice none 0 0, .slice (some ⟨g, 0, none⟩) 1 1, .int .i64 1, .int .i64 1] 29 (0, 0)) := by
    rw [hW6]
    have := set_row3 (set_row3 H5.out.2.2.2.2 3 (.int .i64 1)) 4 (.int .i64 1)
    simpa using this
  have hs6 : ∀ k, k ≠ g + 1 → W6.heap[k]? = w5.heap[k]? := fun k hk => by rw [hW6]; exact (Below.heap_setCell _ ⟨g + 1, 4, none⟩ _ k hk).trans (Below.heap_setCell _ ⟨g + 1, 3, none⟩ _ k hk)
  have hz6 : W6.heap.size = w5.heap.size := by rw [hW6]; simp [World.setCell]
  have ho6 : W6.os = w5.os ∧ W6.tape = w5.tape ∧ W6.output = w5.output := by rw [hW6]; exact ⟨rfl, rfl, rfl⟩
  have hp6 : PaW pb tA 3 false W6 := (hs6 pb (by omega)).trans H5.out.1
  have H6 := Lib.hid (And.intro hp6 (And.intro (kfr_box H5.out.2.1 (by omega) hs6 hz6 ho6) (And.intro ((hs6 _ (by omega)).trans H5.out.2.2.1) (And.intro (show LfA g q W6 from ⟨(hs6 g (by omega)).trans H5.out.2.2.2.1.1, (hs6 q (by omega)).trans H5.out.2.2.2.1.2⟩) hR6))))
  clear hW6 hR6 hs6 hz6 ho6 hp6 r0 r1 r2 r3 r4 z0 z1 z2 z3 z4 lr
  refine (peek_in pb tA 3 44 false W6 H6.out.1 tA_lt3 tA_ix3).mono ?_
  rintro e w7 ⟨rfl, hb7⟩
  have hp7 := H6.out.1.later hb7
  obtain ⟨⟨c0, c1, c2⟩, ⟨f1, f2⟩, lp⟩ := hp7.cells
  have hR7 := (hb7.block _ (Array.getElem?_eq_some_iff.1 H6.out.2.2.2.2).1).trans H6.out.2.2.2.2
  have H7 := Lib.hid (And.intro hp7 (And.intro (H6.out.2.1.tr (kfr_below hb7)) (And.intro ((hb7.block _ (Array.getElem?_eq_some_iff.1 H6.out.2.2.1).1).trans H6.out.2.2.1) (And.intro (H6.out.2.2.2.1.later hb7) hR7))))
  clear hb7 hp7 hR7
  go_wp2_with fail
  refine calls_nm fun W8 hW8 => ?_
  have hk78 : KfR pb w7 W8 := by rw [hW8]; exact kfr_set
  have hp8 : PaW pb tA 4 false W8 := by rw [hW8]; exact H7.out.1.at_ 4
  have H8 := Lib.hid (And.intro hp8 (And.intro (H7.out.2.1.tr hk78) (And.intro (kf_at hk78 (by omega) H7.out.2.2.1) (And.intro (H7.out.2.2.2.1.kf hk78 (by omega) (by omega)) (kf_at hk78 (by omega) H7.out.2.2.2.2)))))
  clear hW8 hk78 hp8 c0 c1 c2 f1 f2 lp
  refine (times_4 pb W8 H8.out.1).mono ?_
  rintro e w9 ⟨rfl, hp9, hk9⟩
  have hR9 := kf_at hk9 (by omega) H8.out.2.2.2.2
  have H9 := Lib.hid (And.intro hp9 (And.intro (H8.out.2.1.tr hk9) (And.intro (kf_at hk9 (by omega) H8.out.2.2.1) (And.intro (H8.out.2.2.2.1.kf hk9 (by omega) (by omega)) hR9))))
  obtain ⟨r0, r1, r2, r3, r4⟩ := cells5 hR9
  obtain ⟨z0, z1, z2, z3, z4⟩ := frz5 hR9
  have lr : g + 1 < w9.heap.size := (Array.getElem?_eq_some_iff.1 hR9).1
  obtain ⟨⟨c0, c1, c2⟩, ⟨f1, f2⟩, lp⟩ := hp9.cells
  have ne1 : g + 1 ≠ pb := by omega
  have ne2 : pb ≠ g + 1 := by omega
  clear hp9 hk9 hR9
  go_wp2_with fail
  refine calls_nm fun W10 hW10 => ?_
  have hR10 : W10.heap[g + 1]? = some (.cells #[.int .i64 4, .slice none 0 0, .slice (some ⟨g, 0, none⟩) 1 1, .int .i64 1, .int .i64 2] 29 (0, 0)) := by
    rw [hW10]
    have := set_row3 H9.out.2.2.2.2 4 (.int .i64 2)
    simpa using this
  have hs10 : ∀ k, k ≠ g + 1 → W10.heap[k]? = w9.heap[k]? := fun k hk => by rw [hW10]; exact Below.heap_setCell _ ⟨g + 1, 4, none⟩ _ k hk
  have hz10 : W10.heap.size = w9.heap.size := by rw [hW10]; simp [World.setCell]
  have ho10 : W10.os = w9.os ∧ W10.tape = w9.tape ∧ W10.output = w9.output := by rw [hW10]; exact ⟨rfl, rfl, rfl⟩
  have hp10 : PaW pb tA 5 false W10 := (hs10 pb (by omega)).trans H9.out.1
  have H10 := Lib.hid (And.intro hp10 (And.intro (kfr_box H9.out.2.1 (by omega) hs10 hz10 ho10) (And.intro ((hs10 _ (by omega)).trans H9.out.2.2.1) (And.intro (show LfA g q W10 from ⟨(hs10 g (by omega)).trans H9.out.2.2.2.1.1, (hs10 q (by omega)).trans H9.out.2.2.2.1.2⟩) hR10))))
  clear hW10 hR10 hs10 hz10 ho10 hp10 r0 r1 r2 r3 r4 z0 z1 z2 z3 z4 lr c0 c1 c2 f1 f2 lp
  refine (peek_in pb tA 5 125 false W10 H10.out.1 tA_lt5 tA_ix5).mono ?_
  rintro e w11 ⟨rfl, hb11⟩
  have hp11 := H10.out.1.later hb11
  obtain ⟨⟨c0, c1, c2⟩, ⟨f1, f2⟩, lp⟩ := hp11.cells
  have hR11 := (hb11.block _ (Array.getElem?_eq_some_iff.1 H10.out.2.2.2.2).1).trans H10.out.2.2.2.2
  have hX11 := (hb11.block _ (Array.getElem?_eq_some_iff.1 H10.out.2.2.1).1).trans H10.out.2.2.1
  obtain ⟨r0, r1, r2, r3, r4⟩ := cells5 hR11
  obtain ⟨x0, x1, x2, x3, x4⟩ := cells5 hX11
  obtain ⟨z0, z1, z2, z3, z4⟩ := frz5 hX11
  have lr : g + 1 < w11.heap.size := (Array.getElem?_eq_some_iff.1 hR11).1
  have lx : w.heap.size < w11.heap.size := (Array.getElem?_eq_some_iff.1 hX11).1
  have ne3 : w.heap.size ≠ pb := by omega
  have ne4 : pb ≠ w.heap.size := by omega
  have H11 := Lib.hid (And.intro hp11 (And.intro (H10.out.2.1.tr (kfr_below hb11)) (And.intro hX11 (And.intro (H10.out.2.2.2.1.later hb11) hR11))))
  clear hb11 hp11 hR11 hX11
  go_wp2_with fail
  refine post_named fun Wf hWf => ?_
  refine bodyPost_ret (v := .agg #[.int .i64 4, .slice none 0 0, .slice (some ⟨g, 0, none⟩) 1 1, .int .i64 1, .int .i64 2]) (by rw [hWf]; simp [results, Tryz.results181, go_sem, x0, x1, x2, x3, x4, lx, ne3, ne4]; try rfl) rfl ?_
  obtain ⟨V, hV⟩ : ∃ V, V = (w11.setCell ⟨pb, 2, none⟩ (.bool false)).setCell ⟨pb, 1, none⟩ (.int .i64 6) := ⟨_, rfl⟩
  rw [← hV] at hWf
  obtain ⟨s1, s2, s3, -⟩ := st5 hWf
  have hkV : KfR pb w11 V := by rw [hV]; exact kfr_set.tr kfr_set
  have hpV : PaW pb tA 6 false V := by rw [hV]; exact (H11.out.1.bad_ false).at_ 6
  have hk9 : KfR pb w Wf := kfr_box (H11.out.2.1.tr hkV) (Nat.le_refl _) s1 s2 s3
  have hLV := H11.out.2.2.2.1.kf hkV (by omega) (by omega)
  exact ⟨g, q, rfl, ⟨by omega, by omega⟩, ⟨(s1 g (by omega)).trans hLV.1, (s1 q (by omega)).trans hLV.2⟩, (s1 pb (by omega)).trans hpV, hk9⟩
end Go.Proofs.YtoaibhacognbjaaGreatDoor
namespace Go.Proofs.YtoaibhacognbjaaGreatDoor
set_option linter.unusedVariables false
set_option linter.unusedSimpArgs false
set_option maxRecDepth 100000
open Go.RowKit
theorem info_nd5 : (Tryz.prog.info? 29).map (fun i => (i.zero, i.size, i.bytes)) = some (some (.agg #[.int .i64 0, .slice none 0 0, .slice none 0 0, .int .i64 0, .int .i64 0]), 5, 72) := by kernel_rfl
theorem wp_nm {P : Program} {c : Code} {Q : Exit → Act → World → Prop} {a : Act} {w : World} (h : ∀ W, W = w → c.wp P Q a W) : c.wp P Q a w := h w rfl
theorem own5_at {w : World} {B n c : Nat} {e : TypeId} {xs : List Value} {A : Option Addr} (h : w.ownsRow B e 5 (.slice A n c) n xs) (hn : 0 < n) : ∃ g, A = some ⟨g, 0, none⟩ ∧ B ≤ g ∧ g < w.heap.size ∧ ∀ j, j < 5 → w.cell? ⟨g, j, none⟩ = xs[j]? := by
  rcases h.2 with ⟨h1, h2⟩ | ⟨g, cap, cur, h1, hB, hg, -⟩
  · exfalso; injection h1 with h1 h1'; omega
  · injection h1 with h1 _ h3
    subst h1
    exact ⟨g, rfl, hB, (Array.getElem?_eq_some_iff.1 hg).1, fun j hj => World.ownsRow.cellAt h j (by omega)⟩
set_option maxHeartbeats 4000000 in
theorem seq_A (pb : Nat) (w : World) (h : PaW pb tA 0 false w) : Calls Tryz.prog 143 #[.pointer (some ⟨pb, 0, none⟩)] w fun e w' => ∃ g q, e = .returned (.agg #[.int .i64 4, .slice none 0 0, .slice (some ⟨g, 0, none⟩) 1 1, .int .i64 1, .int .i64 2]) ∧ (w.heap.size ≤ g ∧ w.heap.size ≤ q) ∧ LfA g q w' ∧ PaW pb tA 6 false w' ∧ KfR pb w w' := by
  have hl := h.cells.2.2
  have HP := Lib.hid h
  obtain ⟨ie, hie, hk0, hk1, hk2⟩ := info_parts info_nd5
  clear h
  go_enter Tryz.func143, Tryz.ntmps143
  go_wp2_with fail
  refine wp_nm fun W0 hW0 => ?_
  have hb0 : Below w.heap.size w W0 := by rw [hW0]; exact (Below.refl _ _).alloc (Nat.le_refl _) _
  have hX : W0.heap[w.heap.size]? = some (.cells #[.int .i64 0, .slice none 0 0, .slice none 0 0, .int .i64 0, .int .i64 0] 29 (0, 0)) := by rw [hW0]; exact heap_alloc_new w _
  have hp0 := HP.out.later hb0
  have d0 : ∀ d : BelT W0.heap.size W0, d.val.cell? ⟨pb, 0, none⟩ = some (.string tA) := fun d => (hp0.later d.property).cells.1.1
  have d1 : ∀ d : BelT W0.heap.size W0, d.val.cell? ⟨pb, 1, none⟩ = some (.int .i64 0) := fun d => (hp0.later d.property).cells.1.2.1
  have d2 : ∀ d : BelT W0.heap.size W0, d.val.cell? ⟨pb, 2, none⟩ = some (.bool false) := fun d => (hp0.later d.property).cells.1.2.2
  have d3 : ∀ d : BelT W0.heap.size W0, pb < d.val.heap.size := fun d => (hp0.later d.property).cells.2.2
  have K1 := Lib.hid fun d : BelT W0.heap.size W0 => peek_in pb tA 0 97 false d.val (hp0.later d.property) tA_lt0 tA_ix0
  have t0 : decide ((0 : Int) < (tA.size : Int)) = true := by decide
  have t0n : decide (0 < tA.size) = true := by decide
  have H0 := Lib.hid (And.intro hb0 (And.intro hX hp0))
  clear hW0 hb0 hX hp0
  refine wp_loop_rounds 2 ?_
  rw [rounds_succ]
  go_wp2_with fail
  refine wp_region_below (Below.refl W0.heap.size W0) (by kernel_rfl) (by kernel_rfl) ?_
  repeat (go_big_quiet_step (fail))
  go_big_quiet_step ((go_at_call 144; exact Calls.below_of (Nat.le_refl _) (K1.out _)))
  repeat (go_big_quiet_step (fail))
  go_big_quiet_step ((go_at_call 144; exact Calls.below_of (Nat.le_refl _) (K1.out _)))
  repeat (go_big_quiet_step (fail))
  refine wpQuiet_nil ?_
  intro w1 hw'
  have hw1 : Below W0.heap.size W0 w1 := by obtain ⟨d9, rfl⟩ := hw'; exact d9.property
  have hX1 := (hw1.block _ (Array.getElem?_eq_some_iff.1 H0.out.2.1).1).trans H0.out.2.1
  have H1 := Lib.hid (And.intro (kfr_below (H0.out.1.trans (hw1.mono H0.out.1.size)) : KfR pb w w1) (And.intro hX1 (H0.out.2.2.later hw1)))
  clear hw' hw1 d0 d1 d2 d3 t0 t0n K1 hX1
  go_wp2_with fail
  refine (item_A pb w1 H1.out.2.2).mono ?_
  rintro e w2 ⟨g, q, rfl, ⟨hg, hq⟩, hlf, hp2, hk2'⟩
  have hzw := H1.out.1.size
  have hz1 := (Array.getElem?_eq_some_iff.1 H1.out.2.1).1
  have H2 := Lib.hid (And.intro (H1.out.1.tr hk2') (And.intro (kf_at hk2' (by omega) H1.out.2.1) (And.intro hlf hp2)))
  have hz2 := hk2'.size
  clear hlf hp2 hk2'
  have hown : (w2.alloc (.cells #[.int .i64 4, .slice none 0 0, .slice (some ⟨g, 0, none⟩) 1 1, .int .i64 1, .int .i64 2] 29)).ownsRow w2.heap.size 29 5 (.slice none 0 0) 0 [] := World.ownsRow_nil _ _ _ _
  have hcx : ∀ j u, [Value.int .i64 4, .slice none 0 0, .slice (some ⟨g, 0, none⟩) 1 1, .int .i64 1, .int .i64 2][j]? = some u → (w2.alloc (.cells #[.int .i64 4, .slice none 0 0, .slice (some ⟨g, 0, none⟩) 1 1, .int .i64 1, .int .i64 2] 29)).cell? ((⟨w2.heap.size, 0, none⟩ : Addr).add j) = some u := by
    intro j u hj
    rw [Addr.add_lit, Nat.zero_add, World.cell?_alloc_mark]
    simpa using hj
  have hbz : w2.heap.size ≤ (w2.alloc (.cells #[.int .i64 4, .slice none 0 0, .slice (some ⟨g, 0, none⟩) 1 1, .int .i64 1, .int .i64 2] 29)).heap.size := by simp
  go_wp2_with (at_builtin; refine appI_at rfl _ _ 27 rfl w2.heap.size 29 ie _ 5 72 Tryz.underlying27 hie hk0 hk1 hk2 rfl (by decide) _ 0 [] rfl hown ⟨w2.heap.size, 0, none⟩ 1 1 [.int .i64 4, .slice none 0 0, .slice (some ⟨g, 0, none⟩) 1 1, .int .i64 1, .int .i64 2] rfl rfl hcx (by intro u hu; simp only [List.mem_cons, List.not_mem_nil, or_false] at hu; rcases hu with rfl | rfl | rfl | rfl | rfl <;> rfl) (by unfold maxLen; omega) (by omega) hbz ?_)
  intro v9 w9 hown9 hg9 hf9
  obtain ⟨A9, c9, rfl, -, -⟩ := own_form hown9
  obtain ⟨g9, rfl, hB9, hl9, hc9⟩ := own5_at hown9 (by omega)
  have hb9 : Below w2.heap.size w2 w9 := ((Below.refl _ _).alloc (Nat.le_refl _) _).grown hg9 (by simp) (fun k hk => by simp [Value.ownBlock] at hk)
  have hp9 := H2.out.2.2.2.later hb9
  have hX9 := (hb9.block _ (Array.getElem?_eq_some_iff.1 H2.out.2.1).1).trans H2.out.2.1
  have d0 : ∀ d : BelT w9.heap.size w9, d.val.cell? ⟨pb, 0, none⟩ = some (.string tA) := fun d => (hp9.later d.property).cells.1.1
  have d1 : ∀ d : BelT w9.heap.size w9, d.val.cell? ⟨pb, 1, none⟩ = some (.int .i64 6) := fun d => (hp9.later d.property).cells.1.2.1
  have d2 : ∀ d : BelT w9.heap.size w9, pb < d.val.heap.size := fun d => (hp9.later d.property).cells.2.2
  have t0 : decide ((6 : Int) < (tA.size : Int)) = false := by decide
  have t0n : decide (6 < tA.size) = false := by decide
  have HC := Lib.hid hc9
  have H9 := Lib.hid (And.intro (H2.out.1.tr (kfr_below hb9)) (And.intro hX9 (And.intro (H2.out.2.2.1.later hb9) hp9)))
  clear hown9 hg9 hf9 hb9 hp9 hX9 hc9 hown hcx hbz
  go_wp2_with fail
  rw [rounds_succ]
  go_wp2_with fail
  refine wp_region_below (Below.refl w9.heap.size w9) (by kernel_rfl) (by kernel_rfl) ?_
  repeat (go_big_quiet_step (fail))
  refine wpQuiet_nil ?_
  intro w10 hw'
  have hw10 : Below w9.heap.size w9 w10 := by obtain ⟨d9, rfl⟩ := hw'; exact d9.property
  have hX10 := (hw10.block _ (Array.getElem?_eq_some_iff.1 H9.out.2.1).1).trans H9.out.2.1
  have hy := fun j hj => (hw10.cell (p := ⟨g9, j, none⟩) hl9).trans (HC.out j hj)
  have y0 : w10.cell? ⟨g9, 0, none⟩ = some (.int .i64 4) := hy 0 (by decide)
  have y1 : w10.cell? ⟨g9, 1, none⟩ = some (.slice none 0 0) := hy 1 (by decide)
  have y2 : w10.cell? ⟨g9, 2, none⟩ = some (.slice (some ⟨g, 0, none⟩) 1 1) := hy 2 (by decide)
  have y3 : w10.cell? ⟨g9, 3, none⟩ = some (.int .i64 1) := hy 3 (by decide)
  have y4 : w10.cell? ⟨g9, 4, none⟩ = some (.int .i64 2) := hy 4 (by decide)
  have ly : g9 < w10.heap.size := by have := hw10.size; omega
  obtain ⟨x0, x1, x2, x3, x4⟩ := cells5 hX10
  obtain ⟨z0, z1, z2, z3, z4⟩ := frz5 hX10
  have lx : w.heap.size < w10.heap.size := (Array.getElem?_eq_some_iff.1 hX10).1
  have H10 := Lib.hid (And.intro (H9.out.1.tr (kfr_below hw10)) (And.intro hX10 (And.intro (H9.out.2.2.1.later hw10) (H9.out.2.2.2.later hw10))))
  clear hw' hw10 d0 d1 d2 t0 t0n hX10 hy
  go_wp2_with fail
  refine post_named fun Wf hWf => ?_
  refine bodyPost_ret (v := .agg #[.int .i64 4, .slice none 0 0, .slice (some ⟨g, 0, none⟩) 1 1, .int .i64 1, .int .i64 2]) (by rw [hWf]; simp [results, Tryz.results143, go_sem, x0, x1, x2, x3, x4, lx]; try rfl) rfl ?_
  obtain ⟨s1, s2, s3, -⟩ := st5 hWf
  have hk9 : KfR pb w Wf := kfr_box H10.out.1 (Nat.le_refl _) s1 s2 s3
  exact ⟨g, q, rfl, ⟨by omega, by omega⟩, ⟨(s1 g (by omega)).trans H10.out.2.2.1.1, (s1 q (by omega)).trans H10.out.2.2.1.2⟩, (s1 pb (by omega)).trans H10.out.2.2.2, hk9⟩
set_option maxHeartbeats 4000000 in
theorem choice_A (pb : Nat) (w : World) (h : PaW pb tA 0 false w) : Calls Tryz.prog 112 #[.pointer (some ⟨pb, 0, none⟩)] w fun e w' => ∃ g q, e = .returned (.agg #[.int .i64 4, .slice none 0 0, .slice (some ⟨g, 0, none⟩) 1 1, .int .i64 1, .int .i64 2]) ∧ (w.heap.size ≤ g ∧ w.heap.size ≤ q) ∧ LfA g q w' ∧ PaW pb tA 6 false w' ∧ KfR pb w w' := by
  have hl := h.cells.2.2
  have HP := Lib.hid h
  clear h
  go_enter Tryz.func112, Tryz.ntmps112
  go_wp2_with fail
  refine calls_nm fun W0 hW0 => ?_
  have hb0 : Below w.heap.size w W0 := by rw [hW0]; exact (Below.refl _ _).alloc (Nat.le_refl _) _
  have hX : W0.heap[w.heap.size]? = some (.cells #[.int .i64 0, .slice none 0 0, .slice none 0 0, .int .i64 0, .int .i64 0] 29 (0, 0)) := by rw [hW0]; exact heap_alloc_new w _
  have H0 := Lib.hid (And.intro hb0 (And.intro hX (HP.out.later hb0)))
  clear hW0 hb0 hX
  refine (seq_A pb W0 H0.out.2.2).mono ?_
  rintro e w2 ⟨g, q, rfl, ⟨hg, hq⟩, hlf, hp2, hk2'⟩
  have hzw := H0.out.1.size
  have hz1 := (Array.getElem?_eq_some_iff.1 H0.out.2.1).1
  have H2 := Lib.hid (And.intro ((kfr_below H0.out.1).tr hk2') (And.intro (kf_at hk2' (by omega) H0.out.2.1) (And.intro hlf hp2)))
  have hz2 := hk2'.size
  clear hlf hp2 hk2'
  go_wp2_with fail
  refine wp_nm fun W3 hW3 => ?_
  have hb3 : Below w2.heap.size w2 W3 := by rw [hW3]; exact (Below.refl _ _).alloc (Nat.le_refl _) _
  have hY3 : W3.heap[w2.heap.size]? = some (.cells #[.int .i64 4, .slice none 0 0, .slice (some ⟨g, 0, none⟩) 1 1, .int .i64 1, .int .i64 2] 29 (0, 0)) := by rw [hW3]; exact heap_alloc_new w2 _
  have H3 := Lib.hid (And.intro (H2.out.1.tr (kfr_below hb3)) (And.intro ((hb3.block _ (Array.getElem?_eq_some_iff.1 H2.out.2.1).1).trans H2.out.2.1) (And.intro (H2.out.2.2.1.later hb3) (And.intro (H2.out.2.2.2.later hb3) hY3))))
  clear hW3 hb3 hY3
  refine wp_loop_rounds 1 ?_
  rw [rounds_succ]
  go_wp2_with fail
  refine (peek_end pb tA 6 false W3 H3.out.2.2.2.1 tA_end).mono ?_
  rintro e w10 ⟨rfl, hw10⟩
  have hX10 := (hw10.block _ (Array.getElem?_eq_some_iff.1 H3.out.2.1).1).trans H3.out.2.1
  have hY10 := (hw10.block _ (Array.getElem?_eq_some_iff.1 H3.out.2.2.2.2).1).trans H3.out.2.2.2.2
  obtain ⟨y0, y1, y2, y3, y4⟩ := cells5 hY10
  have ly : w2.heap.size < w10.heap.size := (Array.getElem?_eq_some_iff.1 hY10).1
  obtain ⟨x0, x1, x2, x3, x4⟩ := cells5 hX10
  obtain ⟨z0, z1, z2, z3, z4⟩ := frz5 hX10
  have lx : w.heap.size < w10.heap.size := (Array.getElem?_eq_some_iff.1 hX10).1
  have H10 := Lib.hid (And.intro (H3.out.1.tr (kfr_below hw10)) (And.intro hX10 (And.intro (H3.out.2.2.1.later hw10) (H3.out.2.2.2.1.later hw10))))
  clear hw10 hX10 hY10
  go_wp2_with fail
  refine post_named fun Wf hWf => ?_
  refine bodyPost_ret (v := .agg #[.int .i64 4, .slice none 0 0, .slice (some ⟨g, 0, none⟩) 1 1, .int .i64 1, .int .i64 2]) (by rw [hWf]; simp [results, Tryz.results112, go_sem, x0, x1, x2, x3, x4, lx]; try rfl) rfl ?_
  obtain ⟨s1, s2, s3, -⟩ := st5 hWf
  have hk9 : KfR pb w Wf := kfr_box H10.out.1 (Nat.le_refl _) s1 s2 s3
  exact ⟨g, q, rfl, ⟨by omega, by omega⟩, ⟨(s1 g (by omega)).trans H10.out.2.2.1.1, (s1 q (by omega)).trans H10.out.2.2.1.2⟩, (s1 pb (by omega)).trans H10.out.2.2.2, hk9⟩
end Go.Proofs.YtoaibhacognbjaaGreatDoor
namespace Go.Proofs.YtoaibhacognbjaaGreatDoor
set_option linter.unusedVariables false
set_option linter.unusedSimpArgs false
set_option maxRecDepth 100000
open Go.RowKit
/-- The box of the leaf, of the root. -/
def bxL (q b : Nat) (w : World) : Prop := w.heap[b]? = some (.cells #[.int .i64 1, .slice (some ⟨q, 0, none⟩) 1 1, .slice none 0 0, .int .i64 0, .int .i64 0] 29 (0, 0))
def bxR (g b : Nat) (w : World) : Prop := w.heap[b]? = some (.cells #[.int .i64 4, .slice none 0 0, .slice (some ⟨g, 0, none⟩) 1 1, .int .i64 1, .int .i64 2] 29 (0, 0))
set_option maxHeartbeats 4000000 in
theorem count_lf (q : Nat) (n n1 : Int) (w : World) (hn : IntKind.i64.wrap (n + 1) = n1) : Calls Tryz.prog 102 #[(.agg #[.int .i64 1, .slice (some ⟨q, 0, none⟩) 1 1, .slice none 0 0, .int .i64 0, .int .i64 0]), .int .i64 n] w fun e w' => e = .returned (.int .i64 n1) ∧ Below w.heap.size w w' := by
  go_enter Tryz.func102, Tryz.ntmps102
  go_wp2_with fail
  refine wp_nm fun W0 hW0 => ?_
  have hb0 : Below w.heap.size w W0 := by rw [hW0]; exact (Below.refl _ _).alloc (Nat.le_refl _) _
  have hX : bxL q w.heap.size W0 := by rw [hW0]; exact heap_alloc_new w _
  have HB := Lib.hid hb0
  obtain ⟨b0, b1, b2, b3, b4⟩ := cells5 hX
  have lb : w.heap.size < W0.heap.size := (Array.getElem?_eq_some_iff.1 hX).1
  have HX := Lib.hid hX
  clear hW0 hb0 hX
  refine wp_loop_rounds 1 ?_
  rw [rounds_succ]
  go_wp2_with fail
  go_ret
  exact ⟨rfl, HB.out⟩
set_option maxHeartbeats 4000000 in
theorem count_rt (g q : Nat) (w : World) (h : LfA g q w) : Calls Tryz.prog 102 #[(.agg #[.int .i64 4, .slice none 0 0, .slice (some ⟨g, 0, none⟩) 1 1, .int .i64 1, .int .i64 2]), .int .i64 0] w fun e w' => e = .returned (.int .i64 2) ∧ Below w.heap.size w w' := by
  have HLF := Lib.hid h
  clear h
  go_enter Tryz.func102, Tryz.ntmps102
  go_wp2_with fail
  refine wp_nm fun W0 hW0 => ?_
  have hb0 : Below w.heap.size w W0 := by rw [hW0]; exact (Below.refl _ _).alloc (Nat.le_refl _) _
  have hX : bxR g w.heap.size W0 := by rw [hW0]; exact heap_alloc_new w _
  have HB := Lib.hid hb0
  obtain ⟨b0, b1, b2, b3, b4⟩ := cells5 hX
  have lb : w.heap.size < W0.heap.size := (Array.getElem?_eq_some_iff.1 hX).1
  have HX := Lib.hid hX
  clear hW0 hb0 hX
  have hlf := HLF.out.later HB.out
  obtain ⟨k0, k1, k2, k3, k4⟩ := cells5 hlf.1
  have lg : g < W0.heap.size := (Array.getElem?_eq_some_iff.1 hlf.1).1
  clear hlf
  refine wp_loop_rounds 2 ?_
  rw [rounds_succ]
  go_wp2_with fail
  refine (count_lf q 1 2 W0 rfl).mono ?_
  rintro e w1 ⟨rfl, hb1⟩
  have HB1 := Lib.hid (HB.out.trans (hb1.mono HB.out.size))
  obtain ⟨c0, c1, c2, c3, c4⟩ := cells5 ((hb1.block w.heap.size lb).trans HX.out)
  have lb1 : w.heap.size < w1.heap.size := Nat.lt_of_lt_of_le lb hb1.size
  clear hb1 b0 b1 b2 b3 b4 k0 k1 k2 k3 k4
  go_wp2_with fail
  rw [rounds_succ]
  go_wp2_with fail
  go_ret
  exact ⟨rfl, HB1.out⟩
set_option maxHeartbeats 4000000 in
theorem nodes_rt (g q : Nat) (w : World) (h : LfA g q w) : Calls Tryz.prog 66 #[(.agg #[.int .i64 4, .slice none 0 0, .slice (some ⟨g, 0, none⟩) 1 1, .int .i64 1, .int .i64 2])] w fun e w' => e = .returned (.int .i64 2) ∧ Below w.heap.size w w' := by
  have HLF := Lib.hid h
  clear h
  go_enter Tryz.func66, Tryz.ntmps66
  go_wp2_with fail
  refine calls_nm fun W0 hW0 => ?_
  have hb0 : Below w.heap.size w W0 := by rw [hW0]; exact (Below.refl _ _).alloc (Nat.le_refl _) _
  have HB := Lib.hid hb0
  clear hW0 hb0
  refine (count_rt g q W0 (HLF.out.later HB.out)).mono ?_
  rintro e w1 ⟨rfl, hb1⟩
  have HB1 := Lib.hid (HB.out.trans (hb1.mono HB.out.size))
  clear hb1
  go_wp2_with fail
  go_ret
  exact ⟨rfl, HB1.out⟩
set_option maxHeartbeats 4000000 in
theorem depth_lf (q : Nat) (w : World) : Calls Tryz.prog 67 #[(.agg #[.int .i64 1, .slice (some ⟨q, 0, none⟩) 1 1, .slice none 0 0, .int .i64 0, .int .i64 0])] w fun e w' => e = .returned (.int .i64 1) ∧ Below w.heap.size w w' := by
  go_enter Tryz.func67, Tryz.ntmps67
  go_wp2_with fail
  refine wp_nm fun W0 hW0 => ?_
  have hb0 : Below w.heap.size w W0 := by rw [hW0]; exact (Below.refl _ _).alloc (Nat.le_refl _) _
  have hX : bxL q w.heap.size W0 := by rw [hW0]; exact heap_alloc_new w _
  have HB := Lib.hid hb0
  obtain ⟨b0, b1, b2, b3, b4⟩ := cells5 hX
  have lb : w.heap.size < W0.heap.size := (Array.getElem?_eq_some_iff.1 hX).1
  have HX := Lib.hid hX
  clear hW0 hb0 hX
  refine wp_loop_rounds 1 ?_
  rw [rounds_succ]
  go_wp2_with fail
  go_ret
  exact ⟨rfl, HB.out⟩
set_option maxHeartbeats 4000000 in
theorem depth_rt (g q : Nat) (w : World) (h : LfA g q w) : Calls Tryz.prog 67 #[(.agg #[.int .i64 4, .slice none 0 0, .slice (some ⟨g, 0, none⟩) 1 1, .int .i64 1, .int .i64 2])] w fun e w' => e = .returned (.int .i64 2) ∧ Below w.heap.size w w' := by
  have HLF := Lib.hid h
  clear h
  go_enter Tryz.func67, Tryz.ntmps67
  go_wp2_with fail
  refine wp_nm fun W0 hW0 => ?_
  have hb0 : Below w.heap.size w W0 := by rw [hW0]; exact (Below.refl _ _).alloc (Nat.le_refl _) _
  have hX : bxR g w.heap.size W0 := by rw [hW0]; exact heap_alloc_new w _
  have HB := Lib.hid hb0
  obtain ⟨b0, b1, b2, b3, b4⟩ := cells5 hX
  have lb : w.heap.size < W0.heap.size := (Array.getElem?_eq_some_iff.1 hX).1
  have HX := Lib.hid hX
  clear hW0 hb0 hX
  have hlf := HLF.out.later HB.out
  obtain ⟨k0, k1, k2, k3, k4⟩ := cells5 hlf.1
  have lg : g < W0.heap.size := (Array.getElem?_eq_some_iff.1 hlf.1).1
  clear hlf
  refine wp_loop_rounds 2 ?_
  rw [rounds_succ]
  go_wp2_with fail
  refine (depth_lf q W0).mono ?_
  rintro e w1 ⟨rfl, hb1⟩
  have HB1 := Lib.hid (HB.out.trans (hb1.mono HB.out.size))
  obtain ⟨c0, c1, c2, c3, c4⟩ := cells5 ((hb1.block w.heap.size lb).trans HX.out)
  have lb1 : w.heap.size < w1.heap.size := Nat.lt_of_lt_of_le lb hb1.size
  clear hb1 b0 b1 b2 b3 b4 k0 k1 k2 k3 k4
  go_wp2_with fail
  rw [rounds_succ]
  go_wp2_with fail
  go_ret
  exact ⟨rfl, HB1.out⟩
set_option maxHeartbeats 4000000 in
theorem ranges_lf (q : Nat) (w : World) (h : RgA q w) : Calls Tryz.prog 103 #[.slice (some ⟨q, 0, none⟩) 1 1] w fun e w' => e = .returned (.bool true) ∧ Below w.heap.size w w' := by
  have d0 : ∀ d : BelT w.heap.size w, d.val.cell? ⟨q, 0, none⟩ = some (.int .u8 97) := fun d => by rw [cell_of_row _ _ _ _ _ _ ((d.property.block q (Array.getElem?_eq_some_iff.1 h).1).trans h)]; rfl
  have d1 : ∀ d : BelT w.heap.size w, d.val.cell? ⟨q, 1, none⟩ = some (.int .u8 97) := fun d => by rw [cell_of_row _ _ _ _ _ _ ((d.property.block q (Array.getElem?_eq_some_iff.1 h).1).trans h)]; rfl
  have d2 : ∀ d : BelT w.heap.size w, q < d.val.heap.size := fun d => Nat.lt_of_lt_of_le (Array.getElem?_eq_some_iff.1 h).1 d.property.size
  clear h
  go_enter Tryz.func103, Tryz.ntmps103
  go_wp2_with fail
  refine wp_loop_rounds 2 ?_
  rw [rounds_succ]
  go_wp2_with fail
  refine wp_region_below (Below.refl w.heap.size w) (by kernel_rfl) (by kernel_rfl) ?_
  repeat (go_big_quiet_step (fail))
  refine wpQuiet_nil ?_
  intro w1 hw'
  have hw1 : Below w.heap.size w w1 := by obtain ⟨d9, rfl⟩ := hw'; exact d9.property
  have HB1 := Lib.hid hw1
  clear hw' hw1 d0 d1 d2
  go_wp2_with fail
  rw [rounds_succ]
  go_wp2_with fail
  go_ret
  exact ⟨rfl, HB1.out⟩
set_option maxHeartbeats 4000000 in
theorem right_lf (q : Nat) (w : World) (h : RgA q w) : Calls Tryz.prog 68 #[(.agg #[.int .i64 1, .slice (some ⟨q, 0, none⟩) 1 1, .slice none 0 0, .int .i64 0, .int .i64 0])] w fun e w' => e = .returned (.bool true) ∧ Below w.heap.size w w' := by
  have HR := Lib.hid h
  clear h
  go_enter Tryz.func68, Tryz.ntmps68
  go_wp2_with fail
  refine calls_nm fun W0 hW0 => ?_
  have hb0 : Below w.heap.size w W0 := by rw [hW0]; exact (Below.refl _ _).alloc (Nat.le_refl _) _
  have hX : bxL q w.heap.size W0 := by rw [hW0]; exact heap_alloc_new w _
  have HB := Lib.hid hb0
  have HX := Lib.hid hX
  have lb : w.heap.size < W0.heap.size := (Array.getElem?_eq_some_iff.1 hX).1
  clear hW0 hb0 hX
  refine (ranges_lf q W0 ((HB.out.block q (Array.getElem?_eq_some_iff.1 HR.out).1).trans HR.out)).mono ?_
  rintro e w1 ⟨rfl, hb1⟩
  have HB1 := Lib.hid (HB.out.trans (hb1.mono HB.out.size))
  obtain ⟨c0, c1, c2, c3, c4⟩ := cells5 ((hb1.block w.heap.size lb).trans HX.out)
  have lb1 : w.heap.size < w1.heap.size := Nat.lt_of_lt_of_le lb hb1.size
  clear hb1
  go_wp2_with fail
  refine wp_loop_rounds 1 ?_
  rw [rounds_succ]
  go_wp2_with fail
  go_ret
  exact ⟨rfl, HB1.out⟩
set_option maxHeartbeats 4000000 in
theorem right_rt (g q : Nat) (w : World) (h : LfA g q w) : Calls Tryz.prog 68 #[(.agg #[.int .i64 4, .slice none 0 0, .slice (some ⟨g, 0, none⟩) 1 1, .int .i64 1, .int .i64 2])] w fun e w' => e = .returned (.bool true) ∧ Below w.heap.size w w' := by
  have HLF := Lib.hid h
  clear h
  go_enter Tryz.func68, Tryz.ntmps68
  go_wp2_with fail
  refine wp_nm fun W0 hW0 => ?_
  have hb0 : Below w.heap.size w W0 := by rw [hW0]; exact (Below.refl _ _).alloc (Nat.le_refl _) _
  have hX : bxR g w.heap.size W0 := by rw [hW0]; exact heap_alloc_new w _
  have HB := Lib.hid hb0
  obtain ⟨b0, b1, b2, b3, b4⟩ := cells5 hX
  have lb : w.heap.size < W0.heap.size := (Array.getElem?_eq_some_iff.1 hX).1
  have HX := Lib.hid hX
  clear hW0 hb0 hX
  have hlf := HLF.out.later HB.out
  obtain ⟨k0, k1, k2, k3, k4⟩ := cells5 hlf.1
  have lg : g < W0.heap.size := (Array.getElem?_eq_some_iff.1 hlf.1).1
  clear hlf
  refine wp_loop_rounds 2 ?_
  rw [rounds_succ]
  go_wp2_with fail
  refine (right_lf q W0 (HLF.out.later HB.out).2).mono ?_
  rintro e w1 ⟨rfl, hb1⟩
  have HB1 := Lib.hid (HB.out.trans (hb1.mono HB.out.size))
  obtain ⟨c0, c1, c2, c3, c4⟩ := cells5 ((hb1.block w.heap.size lb).trans HX.out)
  have lb1 : w.heap.size < w1.heap.size := Nat.lt_of_lt_of_le lb hb1.size
  clear hb1 b0 b1 b2 b3 b4 k0 k1 k2 k3 k4
  go_wp2_with fail
  rw [rounds_succ]
  go_wp2_with fail
  go_ret
  exact ⟨rfl, HB1.out⟩
set_option maxHeartbeats 4000000 in
theorem size_lf (q : Nat) (b : Bool) (w : World) : Calls Tryz.prog 40 #[(.agg #[.int .i64 1, .slice (some ⟨q, 0, none⟩) 1 1, .slice none 0 0, .int .i64 0, .int .i64 0]), .bool b] w fun e w' => e = .returned (.int .i64 1) ∧ Below w.heap.size w w' := by
  go_enter Tryz.func40, Tryz.ntmps40
  go_wp2_with fail
  go_ret
  exact ⟨rfl, (Below.refl _ _).alloc (Nat.le_refl _) _⟩
set_option maxHeartbeats 4000000 in
theorem size_rt (g q : Nat) (w : World) (h : LfA g q w) : Calls Tryz.prog 40 #[(.agg #[.int .i64 4, .slice none 0 0, .slice (some ⟨g, 0, none⟩) 1 1, .int .i64 1, .int .i64 2]), .bool true] w fun e w' => e = .returned (.int .i64 2) ∧ Below w.heap.size w w' := by
  have k := cells5 h.1
  obtain ⟨k0, k1, k2, k3, k4⟩ := k
  have lg : g < w.heap.size := (Array.getElem?_eq_some_iff.1 h.1).1
  have lg2 : g < w.heap.size + 1 := by omega
  have ng : g ≠ w.heap.size := by omega
  clear h
  go_enter Tryz.func40, Tryz.ntmps40
  go_wp2_with fail
  refine calls_nm fun W0 hW0 => ?_
  have hb0 : Below w.heap.size w W0 := by rw [hW0]; exact (Below.refl _ _).alloc (Nat.le_refl _) _
  have HB := Lib.hid hb0
  clear hW0 hb0
  refine (size_lf q true W0).mono ?_
  rintro e w1 ⟨rfl, hb1⟩
  have HB1 := Lib.hid (HB.out.trans (hb1.mono HB.out.size))
  clear hb1
  go_wp2_with fail
  go_ret
  exact ⟨rfl, HB1.out⟩
end Go.Proofs.YtoaibhacognbjaaGreatDoor
namespace Go.Proofs.YtoaibhacognbjaaGreatDoor
set_option linter.unusedVariables false
set_option linter.unusedSimpArgs false
set_option maxRecDepth 100000
open Go.RowKit
def allocs (w : World) : List (Array Value × TypeId) → World
  | [] => w
  | o :: r => allocs (w.alloc (.cells o.1 o.2)) r
theorem allocs_size : ∀ (os : List (Array Value × TypeId)) (w : World), (allocs w os).heap.size = w.heap.size + os.length
  | [], w => rfl
  | o :: r, w => by rw [allocs, allocs_size r]; simp; omega
theorem allocs_below : ∀ (os : List (Array Value × TypeId)) (w : World), Below w.heap.size w (allocs w os)
  | [], w => Below.refl _ _
  | o :: r, w => by
    rw [allocs]
    have h1 : Below w.heap.size w (w.alloc (.cells o.1 o.2)) := (Below.refl _ _).alloc (Nat.le_refl _) _
    exact h1.trans ((allocs_below r _).mono (by simp))
theorem allocs_get : ∀ (os : List (Array Value × TypeId)) (w : World) (i : Nat) (h : i < os.length), (allocs w os).heap[w.heap.size + i]? = some (.cells os[i].1 os[i].2 (0, 0))
  | o :: r, w, 0, h => by
    rw [allocs, (allocs_below r _).block _ (by simp)]
    exact heap_alloc_new w (.cells o.1 o.2)
  | o :: r, w, i + 1, h => by
    have := allocs_get r (w.alloc (.cells o.1 o.2)) i (by simpa using h)
    rw [allocs]
    have e : (w.alloc (.cells o.1 o.2)).heap.size + i = w.heap.size + (i + 1) := by simp; omega
    rw [e] at this
    exact this
theorem allocs_at {os : List (Array Value × TypeId)} {w : World} (i : Nat) {cs : Array Value} {T : TypeId} (h : os[i]? = some (cs, T)) : (allocs w os).heap[w.heap.size + i]? = some (.cells cs T (0, 0)) := by
  obtain ⟨hi, e⟩ := List.getElem?_eq_some_iff.1 h
  rw [allocs_get os w i hi, e]
end Go.Proofs.YtoaibhacognbjaaGreatDoor
