/- Walks: the chapter's example. Condition: the library's variables read as laid. -/
import Derived.Lib.SlBytesConst
import Derived.Test.YtklnakjmiljmhaaGreatDoorY33
import Derived.Test.YtklnakjmiljmhaaGreatDoorY23
import Derived.Test.YtklnakjmiljmhaaGreatDoorY35
namespace Go.Proofs.YtklnakjmiljmhaaGreatDoor
set_option linter.unusedVariables false
set_option linter.unusedSimpArgs false
set_option maxRecDepth 100000
open Go.RowKit
def wakeL : List UInt8 := [112, 111, 115, 116, 32, 49, 32, 53, 32, 97, 110, 110, 32, 104, 101, 108, 108, 111, 10, 101, 100, 105, 116, 32, 49, 32, 54, 32, 97, 110, 110, 32, 98, 121, 101, 10, 100, 101, 108, 101, 116, 101, 32, 49, 32, 55, 32, 97, 110, 110, 10]
theorem wakeL_eq : wakeL = wakeB := by decide +kernel
theorem BIn.row17 (w : World) (us : List UInt8) (n c : Nat) (cs : Array Value) (m : Nat × Nat) (hcs : cs = (us.map fun c => Value.int .u8 c.toNat).toArray) (hn : n = us.length) (hc : n ≤ c) : BIn (w.alloc (.cells cs 5 m)).heap.size (w.alloc (.cells cs 5 m)) (.slice (some ⟨w.heap.size, 0, none⟩) n c) us := by
  subst hcs
  refine ⟨_, _, _, rfl, hn, hc, .inr ⟨_, rfl, by simp, fun j hj => ?_⟩⟩
  rw [Addr.add_lit, Nat.zero_add, World.cell?_alloc_mark]
  simp [hj]
theorem wake_small : Small wake0 := by
  refine ⟨by decide, fun m hm => ?_⟩
  unfold wake0 at hm
  simp only [List.mem_cons, List.not_mem_nil, or_false] at hm
  rcases hm with rfl | rfl | rfl <;> exact ⟨by decide, by decide⟩
set_option maxHeartbeats 1000000 in
theorem awake_any (w : World) (hv : VrOK w) : Calls Tryz.prog 14 #[] w fun e w' => e = .returned (.bool true) ∧ Below w.heap.size w w' := by
  have hb0 : Below w.heap.size w (w.alloc (.cells #[.int .u8 112, .int .u8 111, .int .u8 115, .int .u8 116, .int .u8 32, .int .u8 49, .int .u8 32, .int .u8 53, .int .u8 32, .int .u8 97, .int .u8 110, .int .u8 110, .int .u8 32, .int .u8 104, .int .u8 101, .int .u8 108, .int .u8 108, .int .u8 111, .int .u8 10, .int .u8 101, .int .u8 100, .int .u8 105, .int .u8 116, .int .u8 32, .int .u8 49, .int .u8 32, .int .u8 54, .int .u8 32, .int .u8 97, .int .u8 110, .int .u8 110, .int .u8 32, .int .u8 98, .int .u8 121, .int .u8 101, .int .u8 10, .int .u8 100, .int .u8 101, .int .u8 108, .int .u8 101, .int .u8 116, .int .u8 101, .int .u8 32, .int .u8 49, .int .u8 32, .int .u8 55, .int .u8 32, .int .u8 97, .int .u8 110, .int .u8 110, .int .u8 10] 5 (51, 52))) := (Below.refl _ _).alloc (Nat.le_refl _) _
  have hbin := BIn.row17 w wakeL 51 51 #[.int .u8 112, .int .u8 111, .int .u8 115, .int .u8 116, .int .u8 32, .int .u8 49, .int .u8 32, .int .u8 53, .int .u8 32, .int .u8 97, .int .u8 110, .int .u8 110, .int .u8 32, .int .u8 104, .int .u8 101, .int .u8 108, .int .u8 108, .int .u8 111, .int .u8 10, .int .u8 101, .int .u8 100, .int .u8 105, .int .u8 116, .int .u8 32, .int .u8 49, .int .u8 32, .int .u8 54, .int .u8 32, .int .u8 97, .int .u8 110, .int .u8 110, .int .u8 32, .int .u8 98, .int .u8 121, .int .u8 101, .int .u8 10, .int .u8 100, .int .u8 101, .int .u8 108, .int .u8 101, .int .u8 116, .int .u8 101, .int .u8 32, .int .u8 49, .int .u8 32, .int .u8 55, .int .u8 32, .int .u8 97, .int .u8 110, .int .u8 110, .int .u8 10] (51, 52) rfl rfl (Nat.le_refl _)
  rw [wakeL_eq] at hbin
  have P := parse_any _ wakeB _ hbin (by decide +kernel) (hv.later hb0)
  unfold PsPost at P
  have hE : parseE wakeB = 0 := by unfold parseE; rw [if_neg (by decide +kernel), wake_parse]
  have hO : parseO wakeB = wake0 := by unfold parseO; rw [if_neg (by decide +kernel), wake_parse]; rfl
  rw [hE, hO] at P
  have kc := fun (w : World) (C : Array Value) (n c : Nat) => Lib.run_convert_bytes_const (P := Tryz.prog) w 23 5 C n c Tryz.underlying23 Tryz.underlying5
  have HP := Lib.hid P
  have HB := Lib.hid hb0
  clear P hE hO hbin hb0
  go_enter Tryz.func14, Tryz.ntmps14
  go_wp2_with fail
  refine HP.out.mono ?_
  rintro e w1 ⟨v, rfl, hv1, hb1⟩
  have hb1' := HB.out.trans (hb1.mono HB.out.size)
  have HMC := Lib.hid (MC.of_own hv1)
  have HB1 := Lib.hid hb1'
  have TX := Lib.hid (texts_any v wake0 w1 (MC.of_own hv1) wake_small)
  clear hv1 hb1 hb1' HP HB
  have AT6 := Lib.hid (fun w' (hb : Below w1.heap.size w1 w') => at_any v wake0 6 w' (HMC.out.later hb (Nat.le_refl _)) wake_small)
  have AT7 := Lib.hid (fun w' (hb : Below w1.heap.size w1 w') => at_any v wake0 7 w' (HMC.out.later hb (Nat.le_refl _)) wake_small)
  go_wp2_with fail
  refine TX.out.mono ?_
  rintro e w2 ⟨v2, rfl, hv2, hb2⟩
  obtain ⟨A2, c2, rfl, -, -⟩ := OR.cells encM_E hv2
  have H2 := Lib.hid hb2
  rw [wake_texts]
  clear hv2 hb2 TX
  go_wp2_with fail
  refine (AT6.out _ H2.out).mono ?_
  rintro e w3 ⟨v3, rfl, hv3, hb3⟩
  obtain ⟨A3, c3, rfl, -, -⟩ := hv3
  have H3 := Lib.hid (H2.out.trans (hb3.mono H2.out.size))
  rw [wake_at6]
  clear hb3 AT6
  go_wp2_with fail
  refine (AT7.out _ H3.out).mono ?_
  rintro e w4 ⟨v4, rfl, hv4, hb4⟩
  obtain ⟨A4, c4, rfl, -, -⟩ := hv4
  have H4 := Lib.hid (H3.out.trans (hb4.mono H3.out.size))
  rw [wake_at7]
  clear hb4 AT7
  go_wp2_with fail
  go_ret
  exact ⟨rfl, HB1.out.trans (H4.out.mono HB1.out.size)⟩
end Go.Proofs.YtklnakjmiljmhaaGreatDoor
