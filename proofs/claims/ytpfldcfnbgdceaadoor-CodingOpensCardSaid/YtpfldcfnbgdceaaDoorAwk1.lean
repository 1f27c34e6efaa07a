/- The example of the chapter of codings: the call returns true. -/
import Derived.Test.YtpfldcfnbgdceaaDoorCodS
import Derived.Lib.SlBytesConst
namespace Go.Proofs.YtpfldcfnbgdceaaDoor
set_option linter.unusedVariables false
set_option linter.unusedSimpArgs false
set_option maxRecDepth 100000
open Go.RowKit
theorem BIn.row (w : World) (us : List UInt8) (n c : Nat) (m : Nat × Nat) (hn : n = us.length) (hc : n ≤ c) : BIn (w.alloc (.cells (us.map fun c => Value.int .u8 c.toNat).toArray 5 m)).heap.size (w.alloc (.cells (us.map fun c => Value.int .u8 c.toNat).toArray 5 m)) (.slice (some ⟨w.heap.size, 0, none⟩) n c) us := by
  subst hn
  refine ⟨_, _, _, rfl, rfl, hc, .inr ⟨_, rfl, by simp, fun j hj => ?_⟩⟩
  rw [Addr.add_lit, Nat.zero_add, World.cell?_alloc_mark]
  simp [hj]
def exK : ByteArray := ⟨#[107, 101, 121, 61, 37, 52, 49, 37, 52, 50, 37, 52, 51]⟩
theorem exE : encErr 2 [65, 122] = 0 := by decide +kernel
theorem exO : encOut 2 [65, 122] = [81, 88, 111, 61] := by decide +kernel
theorem exDE : decErr 3 (bl exK) = 0 := by decide +kernel
theorem exDO : decOut 3 (bl exK) = [107, 101, 121, 61, 65, 66, 67] := by decide +kernel
set_option maxHeartbeats 1000000 in
theorem awake1_any (w : World) : Calls Tryd.prog 14 #[] w fun e w' => e = .returned (.bool true) ∧ Below w.heap.size w w' := by
  have E := fun (w : World) (v : Value) (hv : BIn w.heap.size w v [65, 122]) => Encode_any 2 v [65, 122] w (by decide) hv
  have D := fun (w : World) => Decode_any 3 exK w (by decide)
  unfold EePost at E
  unfold DdPost at D
  rw [exE, exO] at E
  rw [exDE, exDO] at D
  have HE := Lib.hid E; have HD := Lib.hid D; clear E D
  have kc := fun (w : World) (C : Array Value) (n c : Nat) => Lib.run_convert_bytes_const (P := Tryd.prog) w 23 5 C n c Tryd.underlying23 Tryd.underlying5
  have t1 : ((bs [81, 88, 111, 61]).toList == [81, 88, 111, 61]) = true := by decide +kernel
  have t2 : ((bs [107, 101, 121, 61, 65, 66, 67]).toList == [107, 101, 121, 61, 65, 66, 67]) = true := by decide +kernel
  go_enter Tryd.func14, Tryd.ntmps14
  go_wp2_with fail
  refine (HE.out _ _ (BIn.row w [65, 122] 2 2 (2, 3) rfl (by decide))).mono ?_
  rintro e w1 ⟨rfl, hb1⟩
  go_wp2_with fail
  refine (HD.out _).mono ?_
  rintro e w2 ⟨v, rfl, hv, hb2⟩
  obtain ⟨A', n', c', rfl⟩ := hv.form_
  have hcv := hv.conv (P := Tryd.prog) (T := 23) (d := 9) Tryd.underlying23 Tryd.underlying5 Tryd.underlying9
  go_wp2
  go_ret
  exact ⟨rfl, (((Below.refl _ w).alloc (Nat.le_refl _) _).trans (hb1.mono (by simp))).trans (hb2.mono (Nat.le_trans (by simp) hb1.size))⟩
end Go.Proofs.YtpfldcfnbgdceaaDoor
