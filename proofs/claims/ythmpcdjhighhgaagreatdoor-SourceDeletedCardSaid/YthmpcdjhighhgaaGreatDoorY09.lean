/- A strings.Builder that a call has made itself: what WriteByte, WriteString and String do, for all bytes, up to 1000000000 bytes. String's contract is the shelf's, laid at this program. · Walks of the code's encoders. · A strings.Builder: WriteString. -/
import Derived.Shelf.Strings.Builder1
import Derived.Lib.FrozenHead
import Derived.Test.YthmpcdjhighhgaaGreatDoorProg
import Derived.Test.YthmpcdjhighhgaaGreatDoorY02
import Derived.Test.YthmpcdjhighhgaaGreatDoorY05
import Derived.Lib.AppendStr
namespace Go.Proofs.YthmpcdjhighhgaaGreatDoor
set_option linter.unusedVariables false
set_option linter.unusedSimpArgs false
set_option maxRecDepth 100000
open Go.Shelf
def lays169_ren : Go.Shelf.Ren := ⟨fun | 169 => 135 | n => n, fun | 70 => 206 | 9 => 9 | 0 => 0 | 72 => 208 | 37 => 30 | 127 => 245 | 3 => 3 | 5 => 5 | n => n, fun | n => n⟩
theorem lays169 : Go.Proofs.Lays.n169 Tryz.prog lays169_ren := {
  mixed := by kernel_rfl
  f169 := Tryz.func135.trans (congrArg some (by kernel_rfl))
  t0 := Tryz.underlying0
  a0 := Tryz.isAgg0
  z0 := Tryz.sizeOf0
  v0 := Tryz.zeroValue0
  t3 := Tryz.underlying3
  a3 := Tryz.isAgg3
  z3 := Tryz.sizeOf3
  v3 := Tryz.zeroValue3
  t9 := Tryz.underlying9
  a9 := Tryz.isAgg9
  z9 := Tryz.sizeOf9
  v9 := Tryz.zeroValue9
  t37 := Tryz.underlying30
  a37 := Tryz.isAgg30
  z37 := Tryz.sizeOf30
  v37 := Tryz.zeroValue30
  t70 := Tryz.underlying206
  a70 := Tryz.isAgg206
  z70 := Tryz.sizeOf206
  v70 := Tryz.zeroValue206
  t72 := Tryz.underlying208
  a72 := Tryz.isAgg208
  z72 := Tryz.sizeOf208
  v72 := Tryz.zeroValue208
  t127 := Tryz.underlying245
  a127 := Tryz.isAgg245
  z127 := Tryz.sizeOf245
  v127 := Tryz.zeroValue245 }
theorem Builder_Extra_169 : Builder.Extra Tryz.prog lays169_ren := {
  sizeBuilder := by kernel_rfl
  liesBuilder := by kernel_rfl
  t5 := Tryz.underlying5
  a5 := Tryz.isAgg5
  z5 := Tryz.sizeOf5
  v5 := Tryz.zeroValue5
  infoByte := by kernel_rfl
  cellsByte := by kernel_rfl
  sizeByte := by kernel_rfl
  neB5 := by decide }
open Go.RowKit in
theorem builder_string (B b : Nat) (l : List UInt8) (w : World) (h : Lib.IsBuilder 208 5 B b (Lib.byteCells l) w) (hBw : B ≤ w.heap.size) :
    Calls Tryz.prog 135 #[.pointer (some ⟨b, 0, none⟩)] w fun e w' => e = .returned (.string (bs l)) ∧ Below B w w' := Any.Builder_String_any lays169 Builder_Extra_169 B b l w h hBw

open Go.RowKit
theorem info_builder : ∃ j, Tryz.prog.info? 208 = some j ∧ j.size = 2 := by
  have h : (Tryz.prog.info? 208).map (·.size) = some 2 := by kernel_rfl
  obtain ⟨j, h1, h2⟩ := Option.map_eq_some_iff.1 h
  exact ⟨j, h1, h2⟩
theorem lies_builder : liesAt Tryz.prog Tryz.prog.depth 208 (2 / Tryz.prog.cellsOf 208) 0 208 1 = true := by kernel_rfl
theorem copy_used (b : Nat) (w : World) (h0 : w.cell? ⟨b, 0, none⟩ = some (.pointer (some ⟨b, 0, none⟩))) :
    Calls Tryz.prog 180 #[.pointer (some ⟨b, 0, none⟩)] w fun e w' => e = .returned (.tuple #[]) ∧ w = w' := by
  obtain ⟨j, hj, -⟩ := info_builder
  go_enter Tryz.func180, Tryz.ntmps180
  go_wp2
  rw [Lib.run_neq_ptr_same w _ Tryz.underlying206 hj]
  go_wp2
  go_end0
  exact ⟨rfl, rfl⟩
theorem copy_fresh (b : Nat) (w : World) (h0 : w.cell? ⟨b, 0, none⟩ = some (.pointer none)) (hsh : w.shape? b = some (208, 2)) (hfz : w.frozen? ⟨b, 0, none⟩ = false) :
    Calls Tryz.prog 180 #[.pointer (some ⟨b, 0, none⟩)] w fun e w' => e = .returned (.tuple #[]) ∧ w' = w.setCell ⟨b, 0, none⟩ (.pointer (some ⟨b, 0, none⟩)) := by
  obtain ⟨j, hj, hjs⟩ := info_builder
  go_enter Tryz.func180, Tryz.ntmps180
  go_wp2
  rw [Lib.run_to_unsafe w ⟨b, 0, none⟩ Tryz.underlying206 Tryz.underlying277 hj (by rw [hjs]; decide) hsh (Nat.zero_lt_succ 1)]
  simp only [Result.andThen]
  rw [Oper.upon_value]
  go_wp2
  rw [run_callFunc_extern Tryz.func222 (by kernel_rfl) (by kernel_rfl) (by kernel_rfl) (e := Extern.AbiNoEscape.same) (by kernel_rfl)]
  rw [Lib.run_noEscape]
  simp only [Result.andThen]
  rw [Oper.upon_value]
  go_wp2
  rw [Lib.run_from_unsafe w ⟨b, 0, none⟩ Tryz.underlying277 Tryz.underlying206 hj hsh lies_builder]
  simp only [Result.andThen]
  rw [Oper.upon_value]
  go_wp2
  go_end0
  exact ⟨rfl, rfl⟩
theorem copy_any (B b : Nat) (bs : List Value) (w : World) (h : Lib.IsBuilder 208 5 B b bs w) :
    Calls Tryz.prog 180 #[.pointer (some ⟨b, 0, none⟩)] w fun e w' => e = .returned (.tuple #[]) ∧ Lib.BuilderAt 208 5 B b (.pointer (some ⟨b, 0, none⟩)) bs w' ∧ Below B w w' := by
  rcases h with h | h
  · refine (copy_fresh b w h.cell0 h.shape h.frozen0).mono ?_
    rintro e w' ⟨rfl, rfl⟩
    exact ⟨rfl, h.used _, (Below.refl B w).setCell (p := ⟨b, 0, none⟩) h.1 _⟩
  · refine (copy_used b w h.cell0).mono ?_
    rintro e w' ⟨rfl, rfl⟩
    exact ⟨rfl, h, Below.refl B _⟩
def IsB (b : Nat) (l : List UInt8) (w : World) : Prop := Lib.IsBuilder 208 5 b b (Lib.byteCells l) w ∧ b ≤ w.heap.size
set_option maxHeartbeats 1000000 in
set_option maxRecDepth 100000 in
theorem builder_byte (b : Nat) (l : List UInt8) (c : Int) (u : UInt8) (hu : c = u.toNat) (w : World) (h : IsB b l w) (hlen : l.length ≤ 1000000000) :
    Calls Tryz.prog 194 #[.pointer (some ⟨b, 0, none⟩), .int .u8 c] w fun e w' => e = .returned .nilIface ∧ IsB b (l ++ [u]) w' ∧ Below b w w' := by
  obtain ⟨i0, hi, hz0, hz1, hz2⟩ := info_parts info_u8
  obtain ⟨h, hBw⟩ := h
  have hbl : (Lib.byteCells l).length = l.length := Lib.byteCells_length l
  have Hbl := Lib.hid hbl; clear hbl
  have hx := Lib.hid (show Lib.byteCells l ++ [Value.int .u8 c] = Lib.byteCells (l ++ [u]) by subst hu; simp [Lib.byteCells])
  clear hu
  go_enter Tryz.func194, Tryz.ntmps194
  go_wp2_with (go_at_call 180; refine (copy_any b b _ _ h).mono ?_)
  rintro e w1 ⟨rfl, h1, hb1⟩
  obtain ⟨hB, v, hbk, hown, hne⟩ := h1
  have c0 : w1.cell? ⟨b, 0, none⟩ = some (.pointer (some ⟨b, 0, none⟩)) := by rw [Lib.cell_of_heap hbk]; rfl
  have c1 : w1.cell? ⟨b, 1, none⟩ = some v := by rw [Lib.cell_of_heap hbk]; rfl
  go_wp2_with (at_builtin; refine wpList_append_own _ rfl _ _ 30 rfl b 5 i0 (.int .u8 0) 1 1 Tryz.underlying30 hi hz0 hz1 hz2 rfl (by decide) _ _ _ rfl (hown.alloc _) ⟨w1.heap.size, 0, none⟩ 1 1 [.int .u8 c] rfl rfl ?c1 ?c2 ?c3 ?c4 ?c5 ?_)
  case c1 =>
    intro j x hj
    match j, hj with
    | 0, hj => simp at hj; subst hj; simp [Addr.add]
  case c2 => intro x hx; simp at hx; subst hx; rfl
  case c3 => have := Hbl.out; unfold maxLen; omega
  case c4 => have := Hbl.out; omega
  case c5 => exact Nat.le_trans (Nat.le_trans hBw hb1.size) ((Below.refl 0 w1).alloc (Nat.zero_le _) _).size
  intro v' w2 hown' hgrow _
  have hlt : b < w1.heap.size := by
    rcases Nat.lt_or_ge b w1.heap.size with h' | h'
    · exact h'
    · simp [Array.getElem?_eq_none h'] at hbk
  have hb2 : w2.heap[b]? = some (.cells #[.pointer (some ⟨b, 0, none⟩), v] 208 (0, 0)) := by
    rw [hgrow.block b (by simp; omega) (fun e => hne e.symm), Lib.alloc_old w1 _ b hlt]
    exact hbk
  have d0 : w2.cell? ⟨b, 0, none⟩ = some (.pointer (some ⟨b, 0, none⟩)) := by rw [Lib.cell_of_heap hb2]; rfl
  have d1 : w2.cell? ⟨b, 1, none⟩ = some v := by rw [Lib.cell_of_heap hb2]; rfl
  have f1 : w2.frozen? ⟨b, 1, none⟩ = false := Lib.frozen_of_heap hb2 1
  obtain ⟨g, cap, rfl⟩ : ∃ g cap, v' = .slice (some ⟨g, 0, none⟩) ((Lib.byteCells l).length + 1) cap := by
    rcases hown'.2 with ⟨_, h0⟩ | ⟨g, cap, cur, hv, _⟩
    · omega
    · exact ⟨g, cap, hv⟩
  go_wp2
  go_ret
  have hbelow : Below b w (w2.setCell ⟨b, 1, none⟩ (.slice (some ⟨g, 0, none⟩) ((Lib.byteCells l).length + 1) cap)) :=
    ((hb1.alloc (by have := hb1.size; omega) _).grown hgrow (by have := hb1.size; simp; omega) (fun k hk => (hown.lt k hk).1)).setCell (p := ⟨b, 1, none⟩) hB _
  refine ⟨rfl, ⟨Or.inr ?_, Nat.le_trans hBw hbelow.size⟩, hbelow⟩
  exact Lib.BuilderAt.put (T := 208) (e := 5) hB hb2 (bs' := Lib.byteCells (l ++ [u])) (by rw [← hx.out, List.length_append]; exact hown') (by decide)
end Go.Proofs.YthmpcdjhighhgaaGreatDoor
namespace Go.Proofs.YthmpcdjhighhgaaGreatDoor
set_option linter.unusedVariables false
set_option linter.unusedSimpArgs false
set_option maxRecDepth 100000
open Go.RowKit
/-- A slice of bytes that lies below B, or is empty. -/
def BIn (B : Nat) (w : World) (v : Value) (l : List UInt8) : Prop := ∃ A n c, v = .slice A n c ∧ n = l.length ∧ n ≤ c ∧ (n = 0 ∨ ∃ ad, A = some ad ∧ ad.block < B ∧ ∀ j (h : j < l.length), w.cell? (ad.add j) = some (.int .u8 l[j].toNat))
theorem and15_u8_fin : ∀ n : Fin 256, bits .and .u8 (n.val : Int) 15 = (n.val : Int) % 16 := by decide +kernel
theorem and15_u8 (c : Int) (h0 : 0 ≤ c) (h1 : c < 256) : bits .and .u8 c 15 = c % 16 := by
  have h := and15_u8_fin ⟨c.toNat, by omega⟩
  simp only [Int.toNat_of_nonneg h0] at h
  exact h
theorem encodeHex_any (v : Value) (l : List UInt8) (w : World) (hl : l.length ≤ 100000) (hv : BIn w.heap.size w v l) :
    Calls Tryz.prog 147 #[v] w fun e w' => e = .returned (.string (bs (encF hexE l))) ∧ Below w.heap.size w w' := by
  obtain ⟨A, n, c, rfl, rfl, -, hcell⟩ := hv
  go_enter Tryz.func147, Tryz.ntmps147
  go_wp2
  generalize hw0 : w.alloc (Obj.cells #[Value.pointer none, Value.slice none 0 0] 208) = w0
  have hb0 : Below w.heap.size w w0 := hw0 ▸ (Below.refl _ w).alloc (Nat.le_refl _) _
  have hi0 : IsB w.heap.size [] w0 := ⟨by rw [← hw0]; exact Lib.fresh_isBuilder _ _ w, hb0.size⟩
  clear hw0
  go_loopw [8] (fun i wr => ∃ (k : Nat) (o : List UInt8), k ≤ l.length ∧ i = .int .i64 (k : Int) ∧ IsB w.heap.size o wr ∧ o.length ≤ 2 * k ∧ Below w.heap.size w wr ∧ Hid (o ++ encF hexE (l.drop k) = encF hexE l)) (fun i _ => l.length - (intOf i).toNat)
  case atStart => exact ⟨0, [], by omega, rfl, hi0, by simp, hb0, rfl⟩
  case round =>
    obtain ⟨k, o, hk, rfl, hown, ho, hbel, HR⟩ := hrel
    by_cases hlt : k < l.length
    · have hd : decide ((k : Int) < l.length) = true := decide_eq_true (by omega)
      obtain ⟨ad, rfl, hadb, hcs⟩ := hcell.resolve_left (by omega)
      have hcl0 : wr.cell? (ad.add k) = w.cell? (ad.add k) := World.cell?_of_block (by rw [Reads_block]; exact hbel.block ad.block hadb)
      have hcl := hcl0.trans (hcs k hlt)
      clear hcl0
      obtain ⟨c', hc', hc0, hc1⟩ := (⟨_, rfl, by omega, byte_lt _⟩ : ∃ c : Int, (l[k].toNat : Int) = c ∧ 0 ≤ c ∧ c < 256)
      rw [hc'] at hcl
      obtain ⟨y, hy⟩ : ∃ y, bits .and .u8 c' 15 = y := ⟨_, rfl⟩
      have hyb : y = c' % 16 := by rw [← hy]; exact and15_u8 c' hc0 hc1
      have hy0 : 0 ≤ y := by omega
      have hy1 : y < 16 := by omega
      have HY := Lib.hid hyb; clear hyb
      have HC := Lib.hid hc'; clear hc'
      have hix := idx_hex .u8 (c' / 16) (by omega) (by omega)
      have hix2 := idx_hex .u8 y hy0 hy1
      go_wp2_with fail
      refine (builder_byte _ o _ (hexd (c' / 16)) rfl _ hown (by omega)).mono ?_
      rintro e w1 ⟨rfl, hown1, hb1⟩
      go_wp2_with fail
      refine (builder_byte _ _ _ (hexd y) rfl _ hown1 (by simp; omega)).mono ?_
      rintro e w2 ⟨rfl, hown2, hb2⟩
      go_wp2
      go_roundw
      case rel =>
        refine ⟨k + 1, _, by omega, by go_num, hown2, by simp; omega, (hbel.trans hb1).trans hb2, ?_⟩
        show _ = _
        rw [← HR.out, List.drop_eq_getElem_cons hlt, encF, hexE, HC.out, ← HY.out]
        simp
      case measure => simp [intOf]; omega
    · obtain rfl : k = l.length := by omega
      go_wp2_with (go_at_call 135; refine (builder_string _ _ o _ hown.1 hown.2).mono ?_; rintro e w1 ⟨rfl, hb1⟩)
      go_ret
      exact ⟨ret_str (by rw [← HR.out]; simp [encF]), hbel.trans hb1⟩
end Go.Proofs.YthmpcdjhighhgaaGreatDoor
namespace Go.Proofs.YthmpcdjhighhgaaGreatDoor
set_option linter.unusedVariables false
set_option linter.unusedSimpArgs false
set_option maxRecDepth 100000
open Go.RowKit
theorem builder_str (b : Nat) (l : List UInt8) (s : ByteArray) (w : World) (h : IsB b l w) (hlen : l.length ≤ 1000000000) (hs : s.size ≤ 1000000) :
    Calls Tryz.prog 134 #[.pointer (some ⟨b, 0, none⟩), .string s] w fun e w' => e = .returned (.tuple #[.int .i64 s.size, .nilIface]) ∧ IsB b (l ++ bl s) w' ∧ Below b w w' := by
  obtain ⟨i0, hi, hz0, hz1, hz2⟩ := info_parts info_u8
  obtain ⟨h, hBw⟩ := h
  go_enter Tryz.func134, Tryz.ntmps134
  go_wp2_with (go_at_call 180; refine (copy_any b b _ _ h).mono ?_)
  rintro e w1 ⟨rfl, h1, hb1⟩
  obtain ⟨hB, v, hbk, hown, hne⟩ := h1
  have c0 : w1.cell? ⟨b, 0, none⟩ = some (.pointer (some ⟨b, 0, none⟩)) := by rw [Lib.cell_of_heap hbk]; rfl
  have c1 : w1.cell? ⟨b, 1, none⟩ = some v := by rw [Lib.cell_of_heap hbk]; rfl
  have hlb : (Lib.byteCells l).length = l.length := Lib.byteCells_length l
  have HLB := Lib.hid hlb; clear hlb
  go_wp2_with (at_builtin; refine Lib.wpList_append_own_string _ rfl _ _ 30 9 rfl b 5 i0 Tryz.underlying30 Tryz.underlying9 hi hz0 hz1 hz2 _ _ _ rfl hown s rfl ?c1 ?c2 (Nat.le_trans hBw hb1.size) ?_)
  case c1 => have := HLB.out; unfold maxLen; omega
  case c2 => have := HLB.out; omega
  intro v' w2 hown' hgrow _
  have hlt : b < w1.heap.size := by
    rcases Nat.lt_or_ge b w1.heap.size with h' | h'
    · exact h'
    · simp [Array.getElem?_eq_none h'] at hbk
  have hb2 : w2.heap[b]? = some (.cells #[.pointer (some ⟨b, 0, none⟩), v] 208 (0, 0)) := by
    rw [hgrow.block b hlt (fun e => hne e.symm)]
    exact hbk
  have d0 : w2.cell? ⟨b, 0, none⟩ = some (.pointer (some ⟨b, 0, none⟩)) := by rw [Lib.cell_of_heap hb2]; rfl
  have d1 : w2.cell? ⟨b, 1, none⟩ = some v := by rw [Lib.cell_of_heap hb2]; rfl
  have f1 : w2.frozen? ⟨b, 1, none⟩ = false := Lib.frozen_of_heap hb2 1
  obtain ⟨A, n, cap, rfl⟩ : ∃ A n cap, v' = .slice A n cap := by
    rcases hown'.2 with ⟨h0, _⟩ | ⟨g, cap, cur, hv, _⟩
    · exact ⟨_, _, _, h0⟩
    · exact ⟨_, _, _, hv⟩
  go_wp2
  go_ret2
  have hbelow : Below b w (w2.setCell ⟨b, 1, none⟩ (.slice A n cap)) :=
    (hb1.grown hgrow (Nat.le_trans hBw hb1.size) (fun k hk => (hown.lt k hk).1)).setCell (p := ⟨b, 1, none⟩) hB _
  refine ⟨rfl, ⟨Or.inr ?_, Nat.le_trans hBw hbelow.size⟩, hbelow⟩
  have hx : Lib.byteCells l ++ Lib.strCells s = Lib.byteCells (l ++ bl s) := by simp [Lib.byteCells, Lib.strCells, bl]
  exact Lib.BuilderAt.put (T := 208) (e := 5) hB hb2 (bs' := Lib.byteCells (l ++ bl s)) (by rw [← hx, List.length_append, show (Lib.strCells s).length = s.size by simp [Lib.strCells]]; exact hown') (by decide)
end Go.Proofs.YthmpcdjhighhgaaGreatDoor
