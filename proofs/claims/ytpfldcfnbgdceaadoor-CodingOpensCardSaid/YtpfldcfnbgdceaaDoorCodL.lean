/- Walks of the code's encoders. -/
import Derived.Test.YtpfldcfnbgdceaaDoorCodA
import Derived.Test.YtpfldcfnbgdceaaDoorBuilder
namespace Go.Proofs.YtpfldcfnbgdceaaDoor
set_option linter.unusedVariables false
set_option linter.unusedSimpArgs false
set_option maxRecDepth 100000
open Go.RowKit
/-- A slice of bytes that lies below B, or is empty. -/
def BIn (B : Nat) (w : World) (v : Value) (l : List UInt8) : Prop := ∃ A n c, v = .slice A n c ∧ n = l.length ∧ n ≤ c ∧ (n = 0 ∨ ∃ ad, A = some ad ∧ ad.block < B ∧ ∀ j (h : j < l.length), w.cell? (ad.add j) = some (.int .u8 l[j].toNat))
theorem and15_u8_fin : ∀ n : Fin 256, bits .and .u8 (n.val : Int) 15 = (n.val : Int) % 16 := by decide +kernel
theorem and15_u8 (c : Int) (h0 : 0 ≤ c) (h1 : c < 256) : bits .and .u8 c 15 = c % 16 := by
  have h := and15_u8_fin ⟨c.toNat, by omega⟩
  simp only [Int.toNat_of_nonneg h0] at h
  exact h
theorem encodeHex_any (v : Value) (l : List UInt8) (w : World) (hl : l.length ≤ 100000) (hv : BIn w.heap.size w v l) :
    Calls Tryd.prog 22 #[v] w fun e w' => e = .returned (.string (bs (encF hexE l))) ∧ Below w.heap.size w w' := by
  obtain ⟨A, n, c, rfl, rfl, -, hcell⟩ := hv
  go_enter Tryd.func22, Tryd.ntmps22
  go_wp2
  generalize hw0 : w.alloc (Obj.cells #[Value.pointer none, Value.slice none 0 0] 71) = w0
  have hb0 : Below w.heap.size w w0 := hw0 ▸ (Below.refl _ w).alloc (Nat.le_refl _) _
  have hi0 : IsB w.heap.size [] w0 := ⟨by rw [← hw0]; exact Lib.fresh_isBuilder _ _ w, hb0.size⟩
  clear hw0
  go_loopw [8] (fun i wr => ∃ (k : Nat) (o : List UInt8), k ≤ l.length ∧ i = .int .i64 (k : Int) ∧ IsB w.heap.size o wr ∧ o.length ≤ 2 * k ∧ Below w.heap.size w wr ∧ Hid (o ++ encF hexE (l.drop k) = encF hexE l)) (fun i _ => l.length - (intOf i).toNat)
  case atStart => exact ⟨0, [], by omega, rfl, hi0, by simp, hb0, rfl⟩
  case round =>
    obtain ⟨k, o, hk, rfl, hown, ho, hbel, HR⟩ := hrel
    by_cases hlt : k < l.length
    · have hd : decide ((k : Int) < l.length) = true := decide_eq_true (by omega)
      obtain ⟨ad, rfl, hadb, hcs⟩ := hcell.resolve_left (by omega)
      have hcl0 : wr.cell? (ad.add k) = w.cell? (ad.add k) := World.cell?_of_block (by rw [Reads_block]; exact hbel.block ad.block hadb)
      have hcl := hcl0.trans (hcs k hlt)
      clear hcl0
      obtain ⟨c', hc', hc0, hc1⟩ := (⟨_, rfl, by omega, byte_lt _⟩ : ∃ c : Int, (l[k].toNat : Int) = c ∧ 0 ≤ c ∧ c < 256)
      rw [hc'] at hcl
      obtain ⟨y, hy⟩ : ∃ y, bits .and .u8 c' 15 = y := ⟨_, rfl⟩
      have hyb : y = c' % 16 := by rw [← hy]; exact and15_u8 c' hc0 hc1
      have hy0 : 0 ≤ y := by omega
      have hy1 : y < 16 := by omega
      have HY := Lib.hid hyb; clear hyb
      have HC := Lib.hid hc'; clear hc'
      have hix := idx_hex .u8 (c' / 16) (by omega) (by omega)
      have hix2 := idx_hex .u8 y hy0 hy1
      go_wp2_with fail
      refine (builder_byte _ o _ (hexd (c' / 16)) rfl _ hown (by omega)).mono ?_
      rintro e w1 ⟨rfl, hown1, hb1⟩
      go_wp2_with fail
      refine (builder_byte _ _ _ (hexd y) rfl _ hown1 (by simp; omega)).mono ?_
      rintro e w2 ⟨rfl, hown2, hb2⟩
      go_wp2
      go_roundw
      case rel =>
        refine ⟨k + 1, _, by omega, by go_num, hown2, by simp; omega, (hbel.trans hb1).trans hb2, ?_⟩
        show _ = _
        rw [← HR.out, List.drop_eq_getElem_cons hlt, encF, hexE, HC.out, ← HY.out]
        simp
      case measure => simp [intOf]; omega
    · obtain rfl : k = l.length := by omega
      go_wp2_with (go_at_call 53; refine (builder_string _ _ o _ hown.1 hown.2).mono ?_; rintro e w1 ⟨rfl, hb1⟩)
      go_ret
      exact ⟨ret_str (by rw [← HR.out]; simp [encF]), hbel.trans hb1⟩
end Go.Proofs.YtpfldcfnbgdceaaDoor
