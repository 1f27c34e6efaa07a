/- The reference's Valid: the maps of what was posted and of what stands. · Walks: the comparison of messages, all texts. · Walks: a line that the code reads. -/
import Derived.RegionTactic
import Derived.BigRegion
import Derived.Test.YtklnakjmiljmhaaGreatDoorY23
import Derived.Deep.CutRange
import Derived.Test.YtklnakjmiljmhaaGreatDoorY20
import Derived.Test.YtklnakjmiljmhaaGreatDoorY18
namespace Go.Proofs.YtklnakjmiljmhaaGreatDoor
set_option linter.unusedVariables false
set_option linter.unusedSimpArgs false
set_option maxRecDepth 100000
open Go.RowKit
open Go.Maps (Keyed)
theorem cell_lt {w : World} {B j : Nat} {v : Value} (h : w.cell? ⟨B, j, none⟩ = some v) : B < w.heap.size := by
  rcases Nat.lt_or_ge B w.heap.size with h1 | h1
  · exact h1
  · simp [World.cell?, Array.getElem?_eq_none h1] at h
/-- A map of the numbers that were posted; one of those that stand. -/
def SaysP (F : Lit → Option Value) (f : Int → Option Bool) : Prop := ∀ x, F (.int .i64 x) = if (f x).isSome then some (.bool true) else none
theorem SaysP.put {F : Lit → Option Value} {f : Int → Option Bool} (h : SaysP F f) (k : Int) (b : Bool) : SaysP (updV F (.int .i64 k) (some (.bool true))) (upd f k (some b)) := by
  intro x
  unfold updV upd
  by_cases e : x = k
  · subst e; rw [if_pos (by simp [Lit.sameKey]), if_pos rfl]; rfl
  · rw [if_neg (by simp [Lit.sameKey, e]), if_neg e]; exact h x
/-- Two stores into two maps of the call's own, in either order. -/
theorem two_puts {P : Program} {k e t : TypeId} {b1 b2 n : Nat} {F G : Lit → Option Value} {w : World} (K : Keyed P k) (ht : P.underlying t = some (.map k e)) (h1 : MV P k b1 n F w) (h2 : MV P k b2 n G w) (hne : b1 ≠ b2) (hn : n < maxLen) {key : Value} {x : Lit} (hkey : keyOf P k key = some x) (hx : WideAt.IsKeyLit x) (v1 v2 : Value) :
    ∃ u1 u12 u2 u21 : World, (Instr.mapUpdate t (.map (some b1)) key v1).run P w = .ok () u1 ∧ (Instr.mapUpdate t (.map (some b2)) key v2).run P u1 = .ok () u12 ∧ (Instr.mapUpdate t (.map (some b2)) key v2).run P w = .ok () u2 ∧ (Instr.mapUpdate t (.map (some b1)) key v1).run P u2 = .ok () u21 ∧
      w.grownBy u1 (some b1) ∧ w.grownBy u2 (some b2) ∧
      (MV P k b1 (n + 1) (updV F x (some v1)) u12 ∧ MV P k b2 (n + 1) (updV G x (some v2)) u12 ∧ u1.grownBy u12 (some b2)) ∧
      (MV P k b1 (n + 1) (updV F x (some v1)) u21 ∧ MV P k b2 (n + 1) (updV G x (some v2)) u21 ∧ u2.grownBy u21 (some b1)) := by
  obtain ⟨u1, r1, m1, g1⟩ := h1.put K ht hn hkey hx v1
  have h2' : MV P k b2 n G u1 := h2.kept (g1.block b2 h2.lt (by intro e; cases e; exact hne rfl))
  obtain ⟨u12, r12, m12, g12⟩ := h2'.put K ht hn hkey hx v2
  obtain ⟨u2, r2, m2, g2⟩ := h2.put K ht hn hkey hx v2
  have h1' : MV P k b1 n F u2 := h1.kept (g2.block b1 h1.lt (by intro e; cases e; exact hne rfl))
  obtain ⟨u21, r21, m21, g21⟩ := h1'.put K ht hn hkey hx v1
  exact ⟨u1, u12, u2, u21, r1, r12, r2, r21, g1, g2, ⟨m1.kept (g12.block b1 m1.lt (by intro e; cases e; exact hne rfl)), m12, g12⟩, ⟨m21, m2.kept (g21.block b2 m2.lt (by intro e; cases e; exact hne rfl)), g21⟩⟩
set_option maxHeartbeats 8000000 in
theorem valid_ref17 (v : Value) (l : List Ms) (w : World) (h : MC v l w) (hs : Small l) :
    Calls Tryz.prog 21 #[v] w fun e w' => e = .returned (.int .i64 (errM l)) ∧ Below w.heap.size w w' := by
  have K : Keyed Tryz.prog 3 := Maps.int_keyed Tryz.underlying3
  have hz : ∀ w, (zeroValue 4).run Tryz.prog w = .ok (.bool false) w := fun _ => by kernel_rfl
  have FO := form_ref v l w h hs
  have HF := Lib.hid (errM_form l)
  have H := Lib.hid h
  have hmm := @run_makeMap Tryz.prog
  by_cases h0 : formE l = 0
  · rw [h0] at FO
    have HE := Lib.hid (show errM l = folF l (fun _ => none) by rw [HF.out, if_pos h0])
    have HI : ∀ m ∈ l, 1 ≤ m.id ∧ m.id ≤ 1073741824 := by
      have ha : anyM wrongM l = false := by
        unfold formE at h0
        split at h0
        · cases h0
        · split at h0
          · cases h0
          · rename_i hx; simpa using hx
      exact fun m hm => by have := wrongM_no (anyM_no.1 ha m hm); omega
    have HID := Lib.hid HI
    have hl := hs.1
    have HFO := Lib.hid FO
    clear h0 HI FO hs
    obtain ⟨A, c, rfl, hc, hcell⟩ := h
    clear hcell
    go_enter Tryz.func21, Tryz.ntmps21
    go_wp2_with fail
    refine HFO.out.mono ?_
    rintro e w0 ⟨rfl, hb0⟩
    have HMC := Lib.hid (H.out.later hb0 (Nat.le_refl _))
    go_wp2_with fail
    have hM1 : MV Tryz.prog 3 w0.heap.size 0 (fun _ => none) ((w0.alloc (Obj.map #[] 0)).alloc (Obj.map #[] 0)) := (MV.made Tryz.prog 3 w0).kept (Below.heap_alloc _ _ _ (by simp))
    have hM2 : MV Tryz.prog 3 (w0.heap.size + 1) 0 (fun _ => none) ((w0.alloc (Obj.map #[] 0)).alloc (Obj.map #[] 0)) := by
      have := MV.made Tryz.prog 3 (w0.alloc (Obj.map #[] 0)); rw [show (w0.alloc (Obj.map #[] 0)).heap.size = w0.heap.size + 1 by simp] at this; exact this
    have hbb : Below w.heap.size w ((w0.alloc (Obj.map #[] 0)).alloc (Obj.map #[] 0)) := (hb0.alloc hb0.size _).alloc (by have := hb0.size; simp; omega) _
    have hsz := hb0.size
    have HMC2 := Lib.hid (show MC (.slice A l.length c) l ((w0.alloc (Obj.map #[] 0)).alloc (Obj.map #[] 0)) from (HMC.out.later (((Below.refl _ w0).alloc (Nat.le_refl _) _).alloc (by simp) _) (Nat.le_refl _)))
    obtain ⟨A', c', hv, -, hcell⟩ := H.out
    injection hv with hv1 hv2 hv3
    rw [← hv1] at hcell
    have HC := Lib.hid hcell
    generalize (w0.alloc (Obj.map #[] 0)).alloc (Obj.map #[] 0) = W0 at *
    generalize w0.heap.size = b at *
    clear hcell hv1 hv2 hv3 hmm HMC HMC2 hb0
    go_loopw [6] (fun v wr => ∃ (k n : Nat) (f : Int → Option Bool) (F G : Lit → Option Value), k ≤ l.length ∧ v = .int .i64 (k : Int) ∧ MV Tryz.prog 3 b n F wr ∧ MV Tryz.prog 3 (b + 1) n G wr ∧ n ≤ k ∧ Hid (SaysP F f) ∧ Hid (SaysB G f) ∧ Below w.heap.size w wr ∧ Hid (folF (l.drop k) f = folF l (fun _ => none))) (fun v _ => l.length - (intOf v).toNat)
    case atStart => exact ⟨0, 0, fun _ => none, _, _, by omega, rfl, hM1, hM2, by omega, fun _ => rfl, fun _ => rfl, hbb, rfl⟩
    case round =>
      clear hM1 hM2 hbb
      obtain ⟨k, n, f, F, G, hk, rfl, hm1, hm2, hn, HP, HS, hbel, HR⟩ := hrel
      by_cases hlt : k < l.length
      · have hd : decide ((k : Int) < (l.length : Int)) = true := decide_eq_true (by omega)
        have hdn : decide (k < l.length) = true := decide_eq_true hlt
        obtain ⟨g, ff, rfl, hg, hcs⟩ := HC.out.resolve_left (by intro e; rw [e] at hlt; simp at hlt)
        obtain ⟨a0, a1, a2, a3, a4⟩ := (hcs k hlt).later (hbel.block g hg)
        have hii := HID.out l[k] (List.getElem_mem hlt)
        have HDR := Lib.hid (List.drop_eq_getElem_cons hlt)
        clear hcs
        obtain ⟨m, hm⟩ : ∃ m, l[k] = m := ⟨_, rfl⟩
        rw [hm] at a0 a1 a2 a3 a4 hii HDR
        clear hm
        obtain ⟨kd, id, who, tm, tx⟩ := m
        dsimp only at a0 a1 a2 a3 a4 hii
        have HFF := Lib.hid (show folF (⟨kd, id, who, tm, tx⟩ :: l.drop (k + 1)) f = folF l (fun _ => none) by rw [← HDR.out]; exact HR.out)
        obtain ⟨W1, hW1⟩ : ∃ W1, W1 = wr.alloc (Obj.cells #[.int .i64 kd, .int .i64 id, .string (bs who), .int .i64 tm, .string (bs tx)] 43) := ⟨_, rfl⟩
        have hq1 : MV Tryz.prog 3 b n F W1 := by rw [hW1]; exact hm1.kept (Below.heap_alloc _ _ _ hm1.lt)
        have hq2 : MV Tryz.prog 3 (b + 1) n G W1 := by rw [hW1]; exact hm2.kept (Below.heap_alloc _ _ _ hm2.lt)
        have hbel1 : Below w.heap.size w W1 := by rw [hW1]; exact hbel.alloc hbel.size _
        have c0 : W1.cell? ⟨wr.heap.size, 0, none⟩ = some (.int .i64 kd) := by rw [hW1, World.cell?_alloc_mark]; rfl
        have c1 : W1.cell? ⟨wr.heap.size, 1, none⟩ = some (.int .i64 id) := by rw [hW1, World.cell?_alloc_mark]; rfl
        have hkl := key_int (P := Tryz.prog) Tryz.underlying3 id (by omega) (by omega)
        have hnm : n < maxLen := by unfold maxLen; omega
        have hl1 := hq1.look K Tryz.underlying54 hz hkl trivial
        have hl2 := hq2.look K Tryz.underlying54 hz hkl trivial
        rw [HP.out id] at hl1
        rw [HS.out id] at hl2
        have hbl := hm1.lt
        have hbl2 := hm2.lt
        have HWW := Lib.hid hW1
        have HQ := Lib.hid (And.intro hq1 (And.intro hq2 hbel1))
        have HK0 := Lib.hid (And.intro c0 c1)
        clear hq1 hq2 hm1 hm2 hbel1 hbel c0 c1 HDR hW1
        by_cases h1 : kd = 1
        · have d1 : (kd == 1) = true := by simpa using h1
          have d1n : (kd != 1) = false := by simpa using h1
          have d3 : (kd != 3) = true := by simp [h1]
          cases hf : f id with
          | some bb =>
            have HX := Lib.hid (show errM l = 7 by rw [HE.out, ← HFF.out, folF, if_pos ⟨h1, by rw [hf]; simp⟩])
            rw [hf] at hl1
            simp only [Option.isSome_some, if_true, Option.getD_some] at hl1
            have HBL := Lib.hid (show Below w.heap.size w (wr.alloc (Obj.cells #[.int .i64 kd, .int .i64 id, .string (bs who), .int .i64 tm, .string (bs tx)] 43)) by rw [← HWW.out]; exact HQ.out.2.2)
            rw [HWW.out] at hl1
            clear hl2 hf h1 HQ HK0
            go_wp2_with fail
            go_ret
            exact ⟨ret_int HX.out.symm, HBL.out⟩
          | none =>
            have HE2 := Lib.hid (show folF (l.drop (k + 1)) (upd f id (some true)) = folF l (fun _ => none) by rw [← HFF.out, folF_cons _ _ _ (fun h => h.2 hf) (fun h => h.1 h1) true (by simp [h1])])
            rw [hf] at hl1
            simp only [Option.isSome_none, Option.getD_none] at hl1
            rw [if_neg (by decide), Option.getD_none] at hl1
            rw [HWW.out] at hl1
            clear hl2 hf h1
            have hl2 : True := trivial
            go_wp2_with fail
            rw [← HWW.out]
            obtain ⟨u1, u12, u2, u21, r1, r12, r2, r21, gr1, gr2, ⟨p1, p2, p3⟩, ⟨s1, s2, s3⟩⟩ := two_puts (w := W1.drew) K Tryz.underlying54 (HQ.out.1.kept rfl) (HQ.out.2.1.kept rfl) (by omega) hnm hkl trivial (.bool true) (.bool true)
            obtain ⟨c0, c1⟩ := HK0.out
            have hRl : wr.heap.size < W1.drew.heap.size := cell_lt c0
            have e0 : u1.cell? ⟨wr.heap.size, 0, none⟩ = some (.int .i64 kd) := (World.cell?_of_block (gr1.block wr.heap.size hRl (by intro e; injection e with e; omega))).trans c0
            have e1 : u1.cell? ⟨wr.heap.size, 1, none⟩ = some (.int .i64 id) := (World.cell?_of_block (gr1.block wr.heap.size hRl (by intro e; injection e with e; omega))).trans c1
            have f0 : u2.cell? ⟨wr.heap.size, 0, none⟩ = some (.int .i64 kd) := (World.cell?_of_block (gr2.block wr.heap.size hRl (by intro e; injection e with e; omega))).trans c0
            have f1 : u2.cell? ⟨wr.heap.size, 1, none⟩ = some (.int .i64 id) := (World.cell?_of_block (gr2.block wr.heap.size hRl (by intro e; injection e with e; omega))).trans c1
            have hbd := HQ.out.2.2.drew
            have hbA : Below w.heap.size w u12 := (hbd.grown gr1 hbd.size (by intro r hr; cases hr; omega)).grown p3 (Nat.le_trans hbd.size gr1.size) (by intro r hr; cases hr; omega)
            have hbB : Below w.heap.size w u21 := (hbd.grown gr2 hbd.size (by intro r hr; cases hr; omega)).grown s3 (Nat.le_trans hbd.size gr2.size) (by intro r hr; cases hr; omega)
            have HA := Lib.hid (And.intro p1 (And.intro p2 hbA))
            have HB := Lib.hid (And.intro s1 (And.intro s2 hbB))
            clear p1 p2 p3 s1 s2 s3 gr1 gr2 hbA hbB hbd hl1 hl2 HQ HK0 HWW
            go_region
            all_goals
              go_wp2_with fail
              go_roundw
              · first
                  | exact ⟨k + 1, n + 1, _, _, _, by omega, by go_num, HA.out.1, HA.out.2.1, by omega, HP.out.put id true, HS.out.put id true, HA.out.2.2, HE2⟩
                  | exact ⟨k + 1, n + 1, _, _, _, by omega, by go_num, HB.out.1, HB.out.2.1, by omega, HP.out.put id true, HS.out.put id true, HB.out.2.2, HE2⟩
              · simp [intOf]; omega
        · have d1 : (kd == 1) = false := by simpa using h1
          have d1n : (kd != 1) = true := by simpa using h1
          by_cases hf : f id = some true
          · rw [hf] at hl2
            simp only [Option.map_some, Option.getD_some] at hl2
            rw [HWW.out] at hl2
            have GG := Lib.hid (fun b (hb : b = decide (kd ≠ 3)) => (folF_cons ⟨kd, id, who, tm, tx⟩ (l.drop (k + 1)) f (fun h => h1 h.1) (fun h => h.2 hf) b hb).symm.trans HFF.out)
            clear hl1 hf h1
            have hl1 : True := trivial
            by_cases h3 : kd = 3
            · have d3 : (kd != 3) = false := by simpa using h3
              have HE2 := Lib.hid (GG.out false (by simp [h3]))
              clear h3
              go_wp2_with fail
              rw [← HWW.out]
              obtain ⟨u1, u12, u2, u21, r1, r12, r2, r21, gr1, gr2, ⟨p1, p2, p3⟩, ⟨s1, s2, s3⟩⟩ := two_puts (w := W1.drew) K Tryz.underlying54 (HQ.out.1.kept rfl) (HQ.out.2.1.kept rfl) (by omega) hnm hkl trivial (.bool true) (.bool false)
              obtain ⟨c0, c1⟩ := HK0.out
              have hRl : wr.heap.size < W1.drew.heap.size := cell_lt c0
              have e0 : u1.cell? ⟨wr.heap.size, 0, none⟩ = some (.int .i64 kd) := (World.cell?_of_block (gr1.block wr.heap.size hRl (by intro e; injection e with e; omega))).trans c0
              have e1 : u1.cell? ⟨wr.heap.size, 1, none⟩ = some (.int .i64 id) := (World.cell?_of_block (gr1.block wr.heap.size hRl (by intro e; injection e with e; omega))).trans c1
              have f0 : u2.cell? ⟨wr.heap.size, 0, none⟩ = some (.int .i64 kd) := (World.cell?_of_block (gr2.block wr.heap.size hRl (by intro e; injection e with e; omega))).trans c0
              have f1 : u2.cell? ⟨wr.heap.size, 1, none⟩ = some (.int .i64 id) := (World.cell?_of_block (gr2.block wr.heap.size hRl (by intro e; injection e with e; omega))).trans c1
              have hbd := HQ.out.2.2.drew
              have hbA : Below w.heap.size w u12 := (hbd.grown gr1 hbd.size (by intro r hr; cases hr; omega)).grown p3 (Nat.le_trans hbd.size gr1.size) (by intro r hr; cases hr; omega)
              have hbB : Below w.heap.size w u21 := (hbd.grown gr2 hbd.size (by intro r hr; cases hr; omega)).grown s3 (Nat.le_trans hbd.size gr2.size) (by intro r hr; cases hr; omega)
              have HA := Lib.hid (And.intro p1 (And.intro p2 hbA))
              have HB := Lib.hid (And.intro s1 (And.intro s2 hbB))
              clear p1 p2 p3 s1 s2 s3 gr1 gr2 hbA hbB hbd hl1 hl2 HQ HK0 HWW
              go_region
              all_goals
                go_wp2_with fail
                go_roundw
                · first
                    | exact ⟨k + 1, n + 1, _, _, _, by omega, by go_num, HA.out.1, HA.out.2.1, by omega, HP.out.put id false, HS.out.put id false, HA.out.2.2, HE2⟩
                    | exact ⟨k + 1, n + 1, _, _, _, by omega, by go_num, HB.out.1, HB.out.2.1, by omega, HP.out.put id false, HS.out.put id false, HB.out.2.2, HE2⟩
                · simp [intOf]; omega
            · have d3 : (kd != 3) = true := by simpa using h3
              have HE2 := Lib.hid (GG.out true (by simp [h3]))
              clear h3
              go_wp2_with fail
              rw [← HWW.out]
              obtain ⟨u1, u12, u2, u21, r1, r12, r2, r21, gr1, gr2, ⟨p1, p2, p3⟩, ⟨s1, s2, s3⟩⟩ := two_puts (w := W1.drew) K Tryz.underlying54 (HQ.out.1.kept rfl) (HQ.out.2.1.kept rfl) (by omega) hnm hkl trivial (.bool true) (.bool true)
              obtain ⟨c0, c1⟩ := HK0.out
              have hRl : wr.heap.size < W1.drew.heap.size := cell_lt c0
              have e0 : u1.cell? ⟨wr.heap.size, 0, none⟩ = some (.int .i64 kd) := (World.cell?_of_block (gr1.block wr.heap.size hRl (by intro e; injection e with e; omega))).trans c0
              have e1 : u1.cell? ⟨wr.heap.size, 1, none⟩ = some (.int .i64 id) := (World.cell?_of_block (gr1.block wr.heap.size hRl (by intro e; injection e with e; omega))).trans c1
              have f0 : u2.cell? ⟨wr.heap.size, 0, none⟩ = some (.int .i64 kd) := (World.cell?_of_block (gr2.block wr.heap.size hRl (by intro e; injection e with e; omega))).trans c0
              have f1 : u2.cell? ⟨wr.heap.size, 1, none⟩ = some (.int .i64 id) := (World.cell?_of_block (gr2.block wr.heap.size hRl (by intro e; injection e with e; omega))).trans c1
              have hbd := HQ.out.2.2.drew
              have hbA : Below w.heap.size w u12 := (hbd.grown gr1 hbd.size (by intro r hr; cases hr; omega)).grown p3 (Nat.le_trans hbd.size gr1.size) (by intro r hr; cases hr; omega)
              have hbB : Below w.heap.size w u21 := (hbd.grown gr2 hbd.size (by intro r hr; cases hr; omega)).grown s3 (Nat.le_trans hbd.size gr2.size) (by intro r hr; cases hr; omega)
              have HA := Lib.hid (And.intro p1 (And.intro p2 hbA))
              have HB := Lib.hid (And.intro s1 (And.intro s2 hbB))
              clear p1 p2 p3 s1 s2 s3 gr1 gr2 hbA hbB hbd hl1 hl2 HQ HK0 HWW
              go_region
              all_goals
                go_wp2_with fail
                go_roundw
                · first
                    | exact ⟨k + 1, n + 1, _, _, _, by omega, by go_num, HA.out.1, HA.out.2.1, by omega, HP.out.put id true, HS.out.put id true, HA.out.2.2, HE2⟩
                    | exact ⟨k + 1, n + 1, _, _, _, by omega, by go_num, HB.out.1, HB.out.2.1, by omega, HP.out.put id true, HS.out.put id true, HB.out.2.2, HE2⟩
                · simp [intOf]; omega
          · have HX := Lib.hid (show errM l = 6 by rw [HE.out, ← HFF.out, folF, if_neg (fun h => h1 h.1), if_pos ⟨h1, hf⟩])
            have hl3 : (Instr.lookup 54 (.map (some (b + 1))) (.int .i64 id) false).run Tryz.prog W1 = .ok (.bool false) W1 := by
              rw [hl2]
              cases hg : f id with
              | none => rfl
              | some x => cases x with
                | true => exact absurd hg hf
                | false => rfl
            rw [HWW.out] at hl3
            have HBL := Lib.hid (show Below w.heap.size w (wr.alloc (Obj.cells #[.int .i64 kd, .int .i64 id, .string (bs who), .int .i64 tm, .string (bs tx)] 43)) by rw [← HWW.out]; exact HQ.out.2.2)
            clear hl1 hl2 hf h1 HQ HK0
            go_wp2_with fail
            go_ret
            exact ⟨ret_int HX.out.symm, HBL.out⟩
      · obtain rfl : k = l.length := by omega
        have hd : decide ((l.length : Int) < (l.length : Int)) = false := decide_eq_false (by omega)
        have hdn : decide (l.length < l.length) = false := decide_eq_false (by omega)
        have HX := Lib.hid (show errM l = 0 by rw [HE.out, ← HR.out, List.drop_length]; rfl)
        go_wp2_with fail
        go_ret
        exact ⟨ret_int HX.out.symm, hbel⟩
  · obtain ⟨x, hx⟩ : ∃ x, formE l = x := ⟨_, rfl⟩
    have HE := Lib.hid (show errM l = x by rw [HF.out, if_neg h0, hx])
    have hne : (x != 0) = true := by rw [hx] at h0; simpa using h0
    rw [hx] at FO
    have HFO := Lib.hid FO
    clear h0 hx FO
    go_enter Tryz.func21, Tryz.ntmps21
    go_wp2_with fail
    refine HFO.out.mono ?_
    rintro e w1 ⟨rfl, hb1⟩
    go_wp2_with fail
    go_ret
    exact ⟨ret_int HE.out.symm, hb1⟩
end Go.Proofs.YtklnakjmiljmhaaGreatDoor
namespace Go.Proofs.YtklnakjmiljmhaaGreatDoor
set_option linter.unusedVariables false
set_option linter.unusedSimpArgs false
set_option maxRecDepth 100000
open Go.RowKit
set_option maxHeartbeats 1000000 in
theorem same_msgs (va vb : Value) (o : List Ms) (w : World) (ha : MC va o w) (hb : MC vb o w) (ho : o.length ≤ 1000000) :
    Calls Tryz.prog 13 #[va, vb] w fun e w' => e = .returned (.bool true) ∧ Below w.heap.size w w' := by
  obtain ⟨A1, c1, rfl, -, ha⟩ := ha
  obtain ⟨A2, c2, rfl, -, hb⟩ := hb
  have HA := Lib.hid ha
  have HB := Lib.hid hb
  clear ha hb
  go_enter Tryz.func13, Tryz.ntmps13
  go_wp2
  go_loopw [5] (fun v wr => ∃ k : Nat, k ≤ o.length ∧ v = .int .i64 (k : Int) ∧ Below w.heap.size w wr) (fun v _ => o.length - (intOf v).toNat)
  case atStart => exact ⟨0, by omega, rfl, Below.refl _ _⟩
  case round =>
    obtain ⟨k, hk, rfl, hbel⟩ := hrel
    by_cases hlt : k < o.length
    · have hd : decide ((k : Int) < o.length) = true := decide_eq_true (by omega)
      have hdn : decide (k < o.length) = true := decide_eq_true hlt
      obtain ⟨g1, f1, rfl, hg1, HC1⟩ := HA.out.resolve_left (by intro e; rw [e] at hlt; simp at hlt)
      obtain ⟨g2, f2, rfl, hg2, HC2⟩ := HB.out.resolve_left (by intro e; rw [e] at hlt; simp at hlt)
      obtain ⟨a0, a1, a2, a3, a4⟩ := (HC1 k hlt).later (hbel.block g1 hg1)
      obtain ⟨b0, b1, b2, b3, b4⟩ := (HC2 k hlt).later (hbel.block g2 hg2)
      clear HC1 HC2 HA HB
      obtain ⟨m, hm⟩ : ∃ m, o[k] = m := ⟨_, rfl⟩
      rw [hm] at a0 a1 a2 a3 a4 b0 b1 b2 b3 b4
      clear hm
      obtain ⟨kd, id, who, tm, tx⟩ := m
      dsimp only at a0 a1 a2 a3 a4 b0 b1 b2 b3 b4
      generalize bs who = S at *
      generalize bs tx = T at *
      go_wp2
      go_quiet (fail)
      go_wp2
      go_roundw
      case rel => exact ⟨k + 1, by omega, by go_num, below_drewN hbel _⟩
      case measure => simp [intOf]; omega
    · have hd : decide ((k : Int) < o.length) = false := decide_eq_false (by omega)
      have hdn : decide (k < o.length) = false := decide_eq_false hlt
      go_wp2
      go_ret
      exact ⟨rfl, hbel⟩
end Go.Proofs.YtklnakjmiljmhaaGreatDoor
namespace Go.Proofs.YtklnakjmiljmhaaGreatDoor
set_option linter.unusedVariables false
set_option linter.unusedSimpArgs false
set_option maxRecDepth 100000
open Go.RowKit
theorem chopN_len (s : List UInt8) : (chopN s).length ≤ s.length := by
  unfold chopN; split
  · simp
  · exact Nat.le_refl _
def RdPost (r : Option Ms) (w : World) (e : Ending) (w' : World) : Prop := (∃ (m : Ms) (b : Bool), e = .returned (.tuple #[.agg (encM m).toArray, .bool b]) ∧ ((b = true ∧ r = some m) ∨ (b = false ∧ r = none))) ∧ Below w.heap.size w w'
theorem splitN_mem {s : List UInt8} {x : List UInt8} (h : x ∈ Lib.splitN s [32] 5) : x.length ≤ s.length := by
  unfold Lib.splitN at h
  generalize min 5 (s.length + 1) - 1 = k at h
  induction k generalizing s with
  | zero => simp [Lib.splitK] at h; rw [h]; exact Nat.le_refl _
  | succ k ih =>
    rw [Lib.splitK] at h
    split at h
    · simp at h; rw [h]; exact Nat.le_refl _
    · rcases List.mem_cons.1 h with rfl | h
      · rw [List.length_take]; omega
      · have := ih h; rw [List.length_drop] at this; omega
theorem toList_bs' (l : List UInt8) : (bs l).toList = l := by rw [toList_bl, bl_bs]
theorem beq_word (a b : List UInt8) : (a == b) = decide (a = b) := by rw [Bool.eq_iff_iff]; simp
theorem kindW_cases (a : List UInt8) : (decide (a = wordM 1) = true ∧ kindW a = 1) ∨ (decide (a = wordM 1) = false ∧ decide (a = wordM 2) = true ∧ kindW a = 2) ∨ (decide (a = wordM 1) = false ∧ decide (a = wordM 2) = false ∧ decide (a = wordM 3) = true ∧ kindW a = 3) ∨ (decide (a = wordM 1) = false ∧ decide (a = wordM 2) = false ∧ decide (a = wordM 3) = false ∧ kindW a = 0) := by
  unfold kindW
  by_cases h1 : a = wordM 1
  · subst h1; left; exact ⟨by decide, by decide⟩
  by_cases h2 : a = wordM 2
  · subst h2; right; left; exact ⟨by decide, by decide, by decide⟩
  by_cases h3 : a = wordM 3
  · subst h3; right; right; left; exact ⟨by decide, by decide, by decide, by decide⟩
  · right; right; right
    refine ⟨decide_eq_false h1, decide_eq_false h2, decide_eq_false h3, ?_⟩
    rw [if_neg h3, if_neg h2, if_neg h1]
theorem textF_cases (e : List UInt8) : (decErr 4 e = 0 ∧ textF e = some (decOut 4 e)) ∨ ((decErr 4 e == 0) = false ∧ textF e = none) := by
  unfold decErr decOut textF
  have hd : decd 4 e = decEsc e [] := by unfold decd; rfl
  have hv : ¬ vldC 4 = false := by decide
  rw [if_neg hv, if_neg hv, hd]
  by_cases h : 262144 < e.length
  · right; rw [if_pos h, if_pos h]; exact ⟨rfl, rfl⟩
  · rw [if_neg h, if_neg h, if_neg h]
    cases decEsc e [] with
    | none => right; exact ⟨rfl, rfl⟩
    | some x => left; exact ⟨rfl, rfl⟩
set_option maxHeartbeats 4000000 in
theorem read_any (s : List UInt8) (w : World) (hv : VrOK w) (hs : s.length ≤ 600000) : Calls Tryz.prog 32 #[.string (bs s)] w (RdPost (lineC (chopN s)) w) := by
  have TR := fun w => trim_any (bs s) w (by rw [size_bs]; omega)
  rw [bl_bs] at TR
  have hcl := chopN_len s
  obtain ⟨X, hX⟩ : ∃ X, chopN s = X := ⟨_, rfl⟩
  rw [hX] at TR hcl ⊢
  obtain ⟨ws, hws⟩ : ∃ ws, Lib.splitN X [32] 5 = ws := ⟨_, rfl⟩
  have SP := fun w hv => split_any X w hv (by omega)
  have hml := fun x (h : x ∈ Lib.splitN X [32] 5) => splitN_mem h
  unfold lineC
  rw [hws] at SP hml ⊢
  have HML := Lib.hid (fun x h => Nat.le_trans (hml x h) (Nat.le_trans hcl hs))
  have HSP := Lib.hid SP
  have HV := Lib.hid hv
  clear SP hml hws hX hcl hs hv
  have hb0 : Below w.heap.size w (w.alloc (.cells #[.int .i64 0, .int .i64 0, .string ⟨#[]⟩, .int .i64 0, .string ⟨#[]⟩] 43)) := (Below.refl _ _).alloc (Nat.le_refl _) _
  have hz0 : (w.alloc (.cells #[.int .i64 0, .int .i64 0, .string ⟨#[]⟩, .int .i64 0, .string ⟨#[]⟩] 43)).heap.size = w.heap.size + 1 := by simp
  have h00 : (w.alloc (.cells #[.int .i64 0, .int .i64 0, .string ⟨#[]⟩, .int .i64 0, .string ⟨#[]⟩] 43)).heap[w.heap.size]? = some (.cells #[.int .i64 0, .int .i64 0, .string ⟨#[]⟩, .int .i64 0, .string ⟨#[]⟩] 43 (0, 0)) := heap_alloc_new _ _
  have HI := Lib.hid (And.intro hb0 (And.intro hz0 h00))
  clear hb0 hz0 h00
  go_enter Tryz.func32, Tryz.ntmps32
  go_wp2_with fail
  refine (TR _).mono ?_
  rintro e w1 ⟨rfl, rfl⟩
  go_wp2_with fail
  refine (HSP.out _ (HV.out.later HI.out.1)).mono ?_
  rintro e w1 ⟨c, rfl, hc, h5, hcs, hsz, hb1⟩
  obtain ⟨hb0, hz0, h00⟩ := HI.out
  have hbw := hb0.trans (hb1.mono (by omega))
  have hz := (hb1.block w.heap.size (by omega)).trans h00
  have fz : ∀ j, w1.frozen? ⟨w.heap.size, j, none⟩ = false := fun j => by simp [World.frozen?, hz]
  have z0 : w1.cell? ⟨w.heap.size, 0, none⟩ = some (.int .i64 0) := by rw [cell_of_row _ _ _ _ _ _ hz]; rfl
  have z1 : w1.cell? ⟨w.heap.size, 1, none⟩ = some (.int .i64 0) := by rw [cell_of_row _ _ _ _ _ _ hz]; rfl
  have z2 : w1.cell? ⟨w.heap.size, 2, none⟩ = some (.string ⟨#[]⟩) := by rw [cell_of_row _ _ _ _ _ _ hz]; rfl
  have z3 : w1.cell? ⟨w.heap.size, 3, none⟩ = some (.int .i64 0) := by rw [cell_of_row _ _ _ _ _ _ hz]; rfl
  have z4 : w1.cell? ⟨w.heap.size, 4, none⟩ = some (.string ⟨#[]⟩) := by rw [cell_of_row _ _ _ _ _ _ hz]; rfl
  have HZ := Lib.hid hz; clear hz
  rw [hz0] at hcs hsz ⊢
  have HCS := Lib.hid hcs
  clear hb0 hz0 h00 HI TR HSP hb1 hcs
  by_cases h4 : ws.length < 4
  · have d4 : decide ((ws.length : Int) < 4) = true := decide_eq_true (by omega)
    have d4n : decide (ws.length < 4) = true := decide_eq_true h4
    have HN := Lib.hid (lineW_short h4)
    go_wp2_with fail
    refine bodyPost_ret (v := .tuple #[.agg (encM ⟨0, 0, [], 0, []⟩).toArray, .bool false]) (by simp [results, Tryz.results32, go_sem, z0, z1, z2, z3, z4, encM]; try rfl) rfl ?_
    exact ⟨⟨_, _, rfl, .inr ⟨rfl, HN.out⟩⟩, ((((hbw.setCell (p := ⟨w.heap.size, 0, none⟩) (Nat.le_refl _) _).setCell (p := ⟨w.heap.size, 1, none⟩) (Nat.le_refl _) _).setCell (p := ⟨w.heap.size, 2, none⟩) (Nat.le_refl _) _).setCell (p := ⟨w.heap.size, 3, none⟩) (Nat.le_refl _) _).setCell (p := ⟨w.heap.size, 4, none⟩) (Nat.le_refl _) _⟩
  have d4 : decide ((ws.length : Int) < 4) = false := decide_eq_false (by omega)
  have d4n : decide (ws.length < 4) = false := decide_eq_false h4
  obtain ⟨a, b, c1, d, r, rfl⟩ : ∃ a b c1 d r, ws = a :: b :: c1 :: d :: r := by
    match ws, h4 with
    | a :: b :: c1 :: d :: r, _ => exact ⟨a, b, c1, d, r, rfl⟩
    | [], h | [_], h | [_, _], h | [_, _, _], h => simp at h
  have q0 := HCS.out 0 (by simp)
  have q1 := HCS.out 1 (by simp)
  have q2 := HCS.out 2 (by simp)
  have q3 := HCS.out 3 (by simp)
  simp only [List.getElem_cons_zero, List.getElem_cons_succ] at q0 q1 q2 q3
  obtain ⟨M, hM⟩ : ∃ M, w.heap.size + 1 + 1 = M := ⟨_, rfl⟩
  rw [hM] at hsz
  obtain ⟨W2, hW2⟩ : ∃ W, w1.alloc (Obj.cells #[Value.int IntKind.i64 0, Value.int IntKind.i64 0, Value.string (bs d), Value.int IntKind.i64 0, Value.string ⟨#[]⟩] 43) = W := ⟨_, rfl⟩
  have hMr : W2.heap[M]? = some (.cells #[Value.int IntKind.i64 0, Value.int IntKind.i64 0, Value.string (bs d), Value.int IntKind.i64 0, Value.string ⟨#[]⟩] 43 (0, 0)) := by rw [← hW2, ← hsz]; exact heap_alloc_new _ _
  have hb2 : Below w1.heap.size w1 W2 := by rw [← hW2]; exact (Below.refl _ _).alloc (Nat.le_refl _) _
  have hz2 : W2.heap.size = M + 1 := by rw [← hW2, ← hsz]; simp
  have HX := Lib.hid (And.intro hM (And.intro hW2 (And.intro hMr (And.intro hb2 hz2))))
  clear hM hW2 hMr hb2 hz2
  go_upto_region 5 with fail
  obtain ⟨hM, hW2, hMr, hb2, hz2⟩ := HX.out
  rw [hW2]
  have Q0 := (hb2.cell (p := ⟨w.heap.size + 1, 0, none⟩) (by dsimp only; omega)).trans q0
  have Q1 := (hb2.cell (p := ⟨w.heap.size + 1, 1, none⟩) (by dsimp only; omega)).trans q1
  have Q2 := (hb2.cell (p := ⟨w.heap.size + 1, 2, none⟩) (by dsimp only; omega)).trans q2
  have HCS2 := Lib.hid (fun w' (hb : Below M W2 w') j (h : j < (a :: b :: c1 :: d :: r).length) => ((hb.cell (p := ⟨w.heap.size + 1, j, none⟩) (by dsimp only; omega)).trans (hb2.cell (p := ⟨w.heap.size + 1, j, none⟩) (by dsimp only; omega))).trans (HCS.out j h))
  have HZ2 := Lib.hid ((hb2.block w.heap.size (by omega)).trans HZ.out)
  have hbw2 := hbw.trans (hb2.mono (by omega))
  clear z0 z1 z2 z3 z4 fz HX hW2 hb2 q0 q1 q2 q3 HZ HCS hbw
  go_cut [25] from 26 to 76 (fun x wx => x = .string (bs a) ∧ wx = W2)
  case first =>
    go_wp2_with fail
    go_meet
    exact ⟨rfl, rfl⟩
  case rest =>
    obtain ⟨rfl, rfl⟩ := hcut
    apply_assumption
    go_cut [3] from 26 to 76 (fun x wx => x = .bool false ∧ wx.heap[M]? = some (.cells #[Value.int IntKind.i64 (kindW a), Value.int IntKind.i64 0, Value.string (bs d), Value.int IntKind.i64 0, Value.string ⟨#[]⟩] 43 (0, 0)) ∧ Below M wc wx)
    case first =>
      have m0 : wc.cell? ⟨M, 0, none⟩ = some (.int .i64 0) := by rw [cell_of_row _ _ _ _ _ _ hMr]; rfl
      have f0 : wc.frozen? ⟨M, 0, none⟩ = false := by simp [World.frozen?, hMr]
      have T1 : ((bs a).toList == [112, 111, 115, 116]) = decide (a = wordM 1) := by rw [toList_bs']; exact beq_word a _
      have T2 : ((bs a).toList == [101, 100, 105, 116]) = decide (a = wordM 2) := by rw [toList_bs']; exact beq_word a _
      have T3 : ((bs a).toList == [100, 101, 108, 101, 116, 101]) = decide (a = wordM 3) := by rw [toList_bs']; exact beq_word a _
      have hk := kindW_cases a
      have HMr := Lib.hid hMr; clear hMr
      rcases hk with ⟨d1, hk⟩ | ⟨d1, d2, hk⟩ | ⟨d1, d2, d3, hk⟩ | ⟨d1, d2, d3, hk⟩
      · rw [d1] at T1
        have HKW := Lib.hid hk
        clear d1 hk T2 T3
        go_wp2_with fail
        go_meet
        exact ⟨rfl, by rw [HKW.out]; exact set_row HMr.out _, (Below.refl _ _).setCell (p := ⟨M, 0, none⟩) (Nat.le_refl _) _⟩
      · rw [d1] at T1
        rw [d2] at T2
        have HKW := Lib.hid hk
        clear d1 d2 hk T3
        go_wp2_with fail
        go_meet
        exact ⟨rfl, by rw [HKW.out]; exact set_row HMr.out _, (Below.refl _ _).setCell (p := ⟨M, 0, none⟩) (Nat.le_refl _) _⟩
      · rw [d1] at T1
        rw [d2] at T2
        rw [d3] at T3
        have HKW := Lib.hid hk
        clear d1 d2 d3 hk
        go_wp2_with fail
        go_meet
        exact ⟨rfl, by rw [HKW.out]; exact set_row HMr.out _, (Below.refl _ _).setCell (p := ⟨M, 0, none⟩) (Nat.le_refl _) _⟩
      · rw [d1] at T1
        rw [d2] at T2
        rw [d3] at T3
        have HKW := Lib.hid hk
        clear d1 d2 d3 hk
        go_wp2_with fail
        go_meet
        exact ⟨rfl, by rw [HKW.out]; exact HMr.out, Below.refl _ _⟩
    case rest =>
      obtain ⟨rfl, hM3, hb3⟩ := hcut
      obtain ⟨W3, hW3⟩ : ∃ W3 : World, W3 = wc := ⟨_, rfl⟩
      rw [← hW3] at hM3 hb3 ⊢
      clear hW3
      have hbw3 := hbw2.trans (hb3.mono (by omega))
      have hz3 := hb3.size
      have Q1' := HCS2.out W3 hb3 1 (by simp)
      have HQ2 := Lib.hid (HCS2.out W3 hb3 2 (by simp))
      have HQ4 := Lib.hid (fun e (he : r = [e]) => show W3.cell? ⟨w.heap.size + 1, 4, none⟩ = some (.string (bs e)) from by subst he; exact HCS2.out W3 hb3 4 (by simp))
      have HZ3 := Lib.hid ((hb3.block w.heap.size (by omega)).trans HZ2.out)
      have hV3 := HV.out.later hbw3
      have HB := HML.out b (by simp)
      have HC1 := HML.out c1 (by simp)
      have HE1 := Lib.hid (fun e (he : r = [e]) => HML.out e (by rw [he]; simp))
      simp only [List.getElem_cons_zero, List.getElem_cons_succ] at Q1'
      have HM3 := Lib.hid hM3
      have HR := Lib.hid (show r = [] ∨ ∃ e, r = [e] by
        match r, h5 with
        | [], _ => exact .inl rfl
        | [e], _ => exact .inr ⟨e, rfl⟩
        | _ :: _ :: _, h => simp at h)
      clear hMr Q1 Q2 HCS2 HZ2 hbw2 hb3 hM3 h5
      go_wp2_with fail
      refine (atoi_any (bs b) W3 hV3 (by rw [size_bs]; omega)).mono ?_
      rintro e w4 ⟨⟨i, x, rfl, hx⟩, hb4⟩
      rw [bl_bs] at hx
      have HX1 := Lib.hid hx
      have q2 := (hb4.cell (p := ⟨w.heap.size + 1, 2, none⟩) (by dsimp only; omega)).trans HQ2.out
      simp only [List.getElem_cons_zero, List.getElem_cons_succ] at q2
      have HB4 := Lib.hid hb4
      have hV4 := hV3.later hb4
      clear hx Q1' HQ2 hb4
      go_wp2_with fail
      refine (atoi_any (bs c1) w4 hV4 (by rw [size_bs]; omega)).mono ?_
      rintro e w5 ⟨⟨t, y, rfl, hy⟩, hb5⟩
      rw [bl_bs] at hy
      have HY1 := Lib.hid hy
      have hb45 := HB4.out.trans (hb5.mono HB4.out.size)
      have hM5 := (hb45.block M (by omega)).trans HM3.out
      have hZ5 := (hb45.block w.heap.size (by omega)).trans HZ3.out
      have HQ5 := Lib.hid (fun e (he : r = [e]) => (hb45.cell (p := ⟨w.heap.size + 1, 4, none⟩) (by dsimp only; omega)).trans (HQ4.out e he))
      have hbw5 := hbw3.trans (hb45.mono hbw3.size)
      have hMz5 := hb45.size
      clear q2 HQ4 HM3 HZ3 hy hb5 HB4 hb45 HB HC1 hV3 hV4 hbw3
      have m0 : w5.cell? ⟨M, 0, none⟩ = some (.int .i64 (kindW a)) := by rw [cell_of_row _ _ _ _ _ _ hM5]; rfl
      have m1 : w5.cell? ⟨M, 1, none⟩ = some (.int .i64 0) := by rw [cell_of_row _ _ _ _ _ _ hM5]; rfl
      have m2 : w5.cell? ⟨M, 2, none⟩ = some (.string (bs d)) := by rw [cell_of_row _ _ _ _ _ _ hM5]; rfl
      have m3 : w5.cell? ⟨M, 3, none⟩ = some (.int .i64 0) := by rw [cell_of_row _ _ _ _ _ _ hM5]; rfl
      have m4 : w5.cell? ⟨M, 4, none⟩ = some (.string ⟨#[]⟩) := by rw [cell_of_row _ _ _ _ _ _ hM5]; rfl
      have fm : ∀ j, w5.frozen? ⟨M, j, none⟩ = false := fun j => by simp [World.frozen?, hM5]
      have HM5 := Lib.hid hM5
      have HZ5 := Lib.hid hZ5
      have hMR : ¬ M = w.heap.size := by omega
      have hRM : ¬ w.heap.size = M := by omega
      have hwM : w.heap.size ≤ M := by omega
      clear hM5 hZ5
      rcases HR.out with rfl | ⟨ee, rfl⟩
      · have fz : ∀ j, w5.frozen? ⟨w.heap.size, j, none⟩ = false := fun j => by simp [World.frozen?, HZ5.out]
        have z0 : w5.cell? ⟨w.heap.size, 0, none⟩ = some (.int .i64 0) := by rw [cell_of_row _ _ _ _ _ _ HZ5.out]; rfl
        have z1 : w5.cell? ⟨w.heap.size, 1, none⟩ = some (.int .i64 0) := by rw [cell_of_row _ _ _ _ _ _ HZ5.out]; rfl
        have z2 : w5.cell? ⟨w.heap.size, 2, none⟩ = some (.string ⟨#[]⟩) := by rw [cell_of_row _ _ _ _ _ _ HZ5.out]; rfl
        have z3 : w5.cell? ⟨w.heap.size, 3, none⟩ = some (.int .i64 0) := by rw [cell_of_row _ _ _ _ _ _ HZ5.out]; rfl
        have z4 : w5.cell? ⟨w.heap.size, 4, none⟩ = some (.string ⟨#[]⟩) := by rw [cell_of_row _ _ _ _ _ _ HZ5.out]; rfl
        rcases HX1.out with ⟨rfl, hx⟩ | ⟨⟨tp, pp, rfl⟩, hx⟩ <;> rcases HY1.out with ⟨rfl, hy⟩ | ⟨⟨tq, pq, rfl⟩, hy⟩
        · have HN := Lib.hid (show lineW [a, b, c1, d] = some ⟨kindW a, i, d, t, []⟩ by simp only [lineW, hx, hy])
          go_wp2_with fail
          go_region
          all_goals
            go_wp2_with fail
            refine bodyPost_ret (v := .tuple #[.agg (encM ⟨kindW a, i, d, t, []⟩).toArray, .bool true]) (by simp [results, Tryz.results32, go_sem, z0, z1, z2, z3, z4, encM]; try rfl) rfl ?_
            exact ⟨⟨_, _, rfl, .inl ⟨rfl, HN.out⟩⟩, (((((((hbw5.setCell (p := ⟨M, 1, none⟩) hwM _).setCell (p := ⟨M, 3, none⟩) hwM _).setCell (p := ⟨w.heap.size, 0, none⟩) (Nat.le_refl _) _).setCell (p := ⟨w.heap.size, 1, none⟩) (Nat.le_refl _) _).setCell (p := ⟨w.heap.size, 2, none⟩) (Nat.le_refl _) _).setCell (p := ⟨w.heap.size, 3, none⟩) (Nat.le_refl _) _).setCell (p := ⟨w.heap.size, 4, none⟩) (Nat.le_refl _) _).drew⟩
        · have HN := Lib.hid (show lineW [a, b, c1, d] = none by simp only [lineW, hx, hy])
          go_wp2_with fail
          go_region
          all_goals
            go_wp2_with fail
            refine bodyPost_ret (v := .tuple #[.agg (encM ⟨kindW a, i, d, t, []⟩).toArray, .bool false]) (by simp [results, Tryz.results32, go_sem, z0, z1, z2, z3, z4, encM]; try rfl) rfl ?_
            exact ⟨⟨_, _, rfl, .inr ⟨rfl, HN.out⟩⟩, (((((((hbw5.setCell (p := ⟨M, 1, none⟩) hwM _).setCell (p := ⟨M, 3, none⟩) hwM _).setCell (p := ⟨w.heap.size, 0, none⟩) (Nat.le_refl _) _).setCell (p := ⟨w.heap.size, 1, none⟩) (Nat.le_refl _) _).setCell (p := ⟨w.heap.size, 2, none⟩) (Nat.le_refl _) _).setCell (p := ⟨w.heap.size, 3, none⟩) (Nat.le_refl _) _).setCell (p := ⟨w.heap.size, 4, none⟩) (Nat.le_refl _) _).drew⟩
        · have HN := Lib.hid (show lineW [a, b, c1, d] = none by simp only [lineW, hx, hy])
          go_wp2_with fail
          go_region
          all_goals
            go_wp2_with fail
            refine bodyPost_ret (v := .tuple #[.agg (encM ⟨kindW a, i, d, t, []⟩).toArray, .bool false]) (by simp [results, Tryz.results32, go_sem, z0, z1, z2, z3, z4, encM]; try rfl) rfl ?_
            exact ⟨⟨_, _, rfl, .inr ⟨rfl, HN.out⟩⟩, (((((((hbw5.setCell (p := ⟨M, 1, none⟩) hwM _).setCell (p := ⟨M, 3, none⟩) hwM _).setCell (p := ⟨w.heap.size, 0, none⟩) (Nat.le_refl _) _).setCell (p := ⟨w.heap.size, 1, none⟩) (Nat.le_refl _) _).setCell (p := ⟨w.heap.size, 2, none⟩) (Nat.le_refl _) _).setCell (p := ⟨w.heap.size, 3, none⟩) (Nat.le_refl _) _).setCell (p := ⟨w.heap.size, 4, none⟩) (Nat.le_refl _) _).drew⟩
        · have HN := Lib.hid (show lineW [a, b, c1, d] = none by simp only [lineW, hx, hy])
          go_wp2_with fail
          go_region
          all_goals
            go_wp2_with fail
            refine bodyPost_ret (v := .tuple #[.agg (encM ⟨kindW a, i, d, t, []⟩).toArray, .bool false]) (by simp [results, Tryz.results32, go_sem, z0, z1, z2, z3, z4, encM]; try rfl) rfl ?_
            exact ⟨⟨_, _, rfl, .inr ⟨rfl, HN.out⟩⟩, (((((((hbw5.setCell (p := ⟨M, 1, none⟩) hwM _).setCell (p := ⟨M, 3, none⟩) hwM _).setCell (p := ⟨w.heap.size, 0, none⟩) (Nat.le_refl _) _).setCell (p := ⟨w.heap.size, 1, none⟩) (Nat.le_refl _) _).setCell (p := ⟨w.heap.size, 2, none⟩) (Nat.le_refl _) _).setCell (p := ⟨w.heap.size, 3, none⟩) (Nat.le_refl _) _).setCell (p := ⟨w.heap.size, 4, none⟩) (Nat.le_refl _) _).drew⟩
      · have he5 := HQ5.out ee rfl
        have hel := HE1.out ee rfl
        have D := fun w => Decode_any 4 (bs ee) w (by rw [size_bs]; omega)
        unfold DdPost at D
        rw [bl_bs] at D
        have HD := Lib.hid D; clear D
        have HT := Lib.hid (textF_cases ee)
        obtain ⟨E, hE⟩ : ∃ E, decErr 4 ee = E := ⟨_, rfl⟩
        obtain ⟨O, hO⟩ : ∃ O, decOut 4 ee = O := ⟨_, rfl⟩
        rw [hE, hO] at HT HD
        clear hE hO
        go_wp2_with fail
        refine (HD.out _).mono ?_
        rintro e w6 ⟨v6, rfl, hv6, hb6⟩
        obtain ⟨A6, n6, c6, rfl⟩ := hv6.form_
        have hcv := hv6.conv (P := Tryz.prog) (T := 23) (d := 9) Tryz.underlying23 Tryz.underlying5 Tryz.underlying9
        have hbw6 := ((hbw5.setCell (p := ⟨M, 1, none⟩) hwM (.int .i64 i)).setCell (p := ⟨M, 3, none⟩) hwM (.int .i64 t)).trans (hb6.mono (by have h1 := hbw5.size; simpa using h1))
        have hM6 : w6.heap[M]? = some (.cells #[Value.int .i64 (kindW a), Value.int .i64 i, Value.string (bs d), Value.int .i64 t, Value.string ⟨#[]⟩] 43 (0, 0)) := by
          rw [hb6.block M (by simp; omega)]
          simp [World.setCell, Array.getElem?_modify, HM5.out]
        have hZ6 : w6.heap[w.heap.size]? = _ := (hb6.block w.heap.size (by simp; omega)).trans ((Below.heap_setCell _ _ _ _ hRM).trans ((Below.heap_setCell _ _ _ _ hRM).trans HZ5.out))
        have m0' : w6.cell? ⟨M, 0, none⟩ = some (.int .i64 (kindW a)) := by rw [cell_of_row _ _ _ _ _ _ hM6]; rfl
        have m1' : w6.cell? ⟨M, 1, none⟩ = some (.int .i64 i) := by rw [cell_of_row _ _ _ _ _ _ hM6]; rfl
        have m2' : w6.cell? ⟨M, 2, none⟩ = some (.string (bs d)) := by rw [cell_of_row _ _ _ _ _ _ hM6]; rfl
        have m3' : w6.cell? ⟨M, 3, none⟩ = some (.int .i64 t) := by rw [cell_of_row _ _ _ _ _ _ hM6]; rfl
        have m4' : w6.cell? ⟨M, 4, none⟩ = some (.string ⟨#[]⟩) := by rw [cell_of_row _ _ _ _ _ _ hM6]; rfl
        have fm' : ∀ j, w6.frozen? ⟨M, j, none⟩ = false := fun j => by simp [World.frozen?, hM6]
        have fz : ∀ j, w6.frozen? ⟨w.heap.size, j, none⟩ = false := fun j => by simp [World.frozen?, hZ6]
        have z0 : w6.cell? ⟨w.heap.size, 0, none⟩ = some (.int .i64 0) := by rw [cell_of_row _ _ _ _ _ _ hZ6]; rfl
        have z1 : w6.cell? ⟨w.heap.size, 1, none⟩ = some (.int .i64 0) := by rw [cell_of_row _ _ _ _ _ _ hZ6]; rfl
        have z2 : w6.cell? ⟨w.heap.size, 2, none⟩ = some (.string ⟨#[]⟩) := by rw [cell_of_row _ _ _ _ _ _ hZ6]; rfl
        have z3 : w6.cell? ⟨w.heap.size, 3, none⟩ = some (.int .i64 0) := by rw [cell_of_row _ _ _ _ _ _ hZ6]; rfl
        have z4 : w6.cell? ⟨w.heap.size, 4, none⟩ = some (.string ⟨#[]⟩) := by rw [cell_of_row _ _ _ _ _ _ hZ6]; rfl
        clear hM6 hZ6 HM5 HZ5 m0 m1 m2 m3 m4 fm hv6 hb6 hbw5 hMz5
        rcases HX1.out with ⟨rfl, hx⟩ | ⟨⟨tp, pp, rfl⟩, hx⟩ <;> rcases HY1.out with ⟨rfl, hy⟩ | ⟨⟨tq, pq, rfl⟩, hy⟩ <;> rcases HT.out with ⟨rfl, ht⟩ | ⟨hE, ht⟩
        · have HN := Lib.hid (show lineW [a, b, c1, d, ee] = some ⟨kindW a, i, d, t, O⟩ by simp only [lineW, hx, hy, ht])
          clear HT HX1 HY1 hx hy ht
          go_wp2_with fail
          go_region
          all_goals
            go_wp2_with fail
            refine bodyPost_ret (v := .tuple #[.agg (encM ⟨kindW a, i, d, t, O⟩).toArray, .bool true]) (by simp [results, Tryz.results32, go_sem, z0, z1, z2, z3, z4, encM]; try rfl) rfl ?_
            exact ⟨⟨_, _, rfl, .inl ⟨rfl, HN.out⟩⟩, ((((((hbw6.setCell (p := ⟨M, 4, none⟩) hwM _).setCell (p := ⟨w.heap.size, 0, none⟩) (Nat.le_refl _) _).setCell (p := ⟨w.heap.size, 1, none⟩) (Nat.le_refl _) _).setCell (p := ⟨w.heap.size, 2, none⟩) (Nat.le_refl _) _).setCell (p := ⟨w.heap.size, 3, none⟩) (Nat.le_refl _) _).setCell (p := ⟨w.heap.size, 4, none⟩) (Nat.le_refl _) _).drew⟩
        · have HN := Lib.hid (show lineW [a, b, c1, d, ee] = none by simp only [lineW, hx, hy, ht])
          clear HT HX1 HY1 hx hy ht
          go_wp2_with fail
          go_region
          all_goals
            go_wp2_with fail
            refine bodyPost_ret (v := .tuple #[.agg (encM ⟨kindW a, i, d, t, O⟩).toArray, .bool false]) (by simp [results, Tryz.results32, go_sem, z0, z1, z2, z3, z4, encM]; try rfl) rfl ?_
            exact ⟨⟨_, _, rfl, .inr ⟨rfl, HN.out⟩⟩, ((((((hbw6.setCell (p := ⟨M, 4, none⟩) hwM _).setCell (p := ⟨w.heap.size, 0, none⟩) (Nat.le_refl _) _).setCell (p := ⟨w.heap.size, 1, none⟩) (Nat.le_refl _) _).setCell (p := ⟨w.heap.size, 2, none⟩) (Nat.le_refl _) _).setCell (p := ⟨w.heap.size, 3, none⟩) (Nat.le_refl _) _).setCell (p := ⟨w.heap.size, 4, none⟩) (Nat.le_refl _) _).drew⟩
        · have HN := Lib.hid (show lineW [a, b, c1, d, ee] = none by simp only [lineW, hx, hy, ht])
          clear HT HX1 HY1 hx hy ht
          go_wp2_with fail
          go_region
          all_goals
            go_wp2_with fail
            refine bodyPost_ret (v := .tuple #[.agg (encM ⟨kindW a, i, d, t, O⟩).toArray, .bool false]) (by simp [results, Tryz.results32, go_sem, z0, z1, z2, z3, z4, encM]; try rfl) rfl ?_
            exact ⟨⟨_, _, rfl, .inr ⟨rfl, HN.out⟩⟩, ((((((hbw6.setCell (p := ⟨M, 4, none⟩) hwM _).setCell (p := ⟨w.heap.size, 0, none⟩) (Nat.le_refl _) _).setCell (p := ⟨w.heap.size, 1, none⟩) (Nat.le_refl _) _).setCell (p := ⟨w.heap.size, 2, none⟩) (Nat.le_refl _) _).setCell (p := ⟨w.heap.size, 3, none⟩) (Nat.le_refl _) _).setCell (p := ⟨w.heap.size, 4, none⟩) (Nat.le_refl _) _).drew⟩
        · have HN := Lib.hid (show lineW [a, b, c1, d, ee] = none by simp only [lineW, hx, hy, ht])
          clear HT HX1 HY1 hx hy ht
          go_wp2_with fail
          go_region
          all_goals
            go_wp2_with fail
            refine bodyPost_ret (v := .tuple #[.agg (encM ⟨kindW a, i, d, t, O⟩).toArray, .bool false]) (by simp [results, Tryz.results32, go_sem, z0, z1, z2, z3, z4, encM]; try rfl) rfl ?_
            exact ⟨⟨_, _, rfl, .inr ⟨rfl, HN.out⟩⟩, ((((((hbw6.setCell (p := ⟨M, 4, none⟩) hwM _).setCell (p := ⟨w.heap.size, 0, none⟩) (Nat.le_refl _) _).setCell (p := ⟨w.heap.size, 1, none⟩) (Nat.le_refl _) _).setCell (p := ⟨w.heap.size, 2, none⟩) (Nat.le_refl _) _).setCell (p := ⟨w.heap.size, 3, none⟩) (Nat.le_refl _) _).setCell (p := ⟨w.heap.size, 4, none⟩) (Nat.le_refl _) _).drew⟩
        · have HN := Lib.hid (show lineW [a, b, c1, d, ee] = none by simp only [lineW, hx, hy, ht])
          clear HT HX1 HY1 hx hy ht
          go_wp2_with fail
          go_region
          all_goals
            go_wp2_with fail
            refine bodyPost_ret (v := .tuple #[.agg (encM ⟨kindW a, i, d, t, O⟩).toArray, .bool false]) (by simp [results, Tryz.results32, go_sem, z0, z1, z2, z3, z4, encM]; try rfl) rfl ?_
            exact ⟨⟨_, _, rfl, .inr ⟨rfl, HN.out⟩⟩, ((((((hbw6.setCell (p := ⟨M, 4, none⟩) hwM _).setCell (p := ⟨w.heap.size, 0, none⟩) (Nat.le_refl _) _).setCell (p := ⟨w.heap.size, 1, none⟩) (Nat.le_refl _) _).setCell (p := ⟨w.heap.size, 2, none⟩) (Nat.le_refl _) _).setCell (p := ⟨w.heap.size, 3, none⟩) (Nat.le_refl _) _).setCell (p := ⟨w.heap.size, 4, none⟩) (Nat.le_refl _) _).drew⟩
        · have HN := Lib.hid (show lineW [a, b, c1, d, ee] = none by simp only [lineW, hx, hy, ht])
          clear HT HX1 HY1 hx hy ht
          go_wp2_with fail
          go_region
          all_goals
            go_wp2_with fail
            refine bodyPost_ret (v := .tuple #[.agg (encM ⟨kindW a, i, d, t, O⟩).toArray, .bool false]) (by simp [results, Tryz.results32, go_sem, z0, z1, z2, z3, z4, encM]; try rfl) rfl ?_
            exact ⟨⟨_, _, rfl, .inr ⟨rfl, HN.out⟩⟩, ((((((hbw6.setCell (p := ⟨M, 4, none⟩) hwM _).setCell (p := ⟨w.heap.size, 0, none⟩) (Nat.le_refl _) _).setCell (p := ⟨w.heap.size, 1, none⟩) (Nat.le_refl _) _).setCell (p := ⟨w.heap.size, 2, none⟩) (Nat.le_refl _) _).setCell (p := ⟨w.heap.size, 3, none⟩) (Nat.le_refl _) _).setCell (p := ⟨w.heap.size, 4, none⟩) (Nat.le_refl _) _).drew⟩
        · have HN := Lib.hid (show lineW [a, b, c1, d, ee] = none by simp only [lineW, hx, hy, ht])
          clear HT HX1 HY1 hx hy ht
          go_wp2_with fail
          go_region
          all_goals
            go_wp2_with fail
            refine bodyPost_ret (v := .tuple #[.agg (encM ⟨kindW a, i, d, t, O⟩).toArray, .bool false]) (by simp [results, Tryz.results32, go_sem, z0, z1, z2, z3, z4, encM]; try rfl) rfl ?_
            exact ⟨⟨_, _, rfl, .inr ⟨rfl, HN.out⟩⟩, ((((((hbw6.setCell (p := ⟨M, 4, none⟩) hwM _).setCell (p := ⟨w.heap.size, 0, none⟩) (Nat.le_refl _) _).setCell (p := ⟨w.heap.size, 1, none⟩) (Nat.le_refl _) _).setCell (p := ⟨w.heap.size, 2, none⟩) (Nat.le_refl _) _).setCell (p := ⟨w.heap.size, 3, none⟩) (Nat.le_refl _) _).setCell (p := ⟨w.heap.size, 4, none⟩) (Nat.le_refl _) _).drew⟩
        · have HN := Lib.hid (show lineW [a, b, c1, d, ee] = none by simp only [lineW, hx, hy, ht])
          clear HT HX1 HY1 hx hy ht
          go_wp2_with fail
          go_region
          all_goals
            go_wp2_with fail
            refine bodyPost_ret (v := .tuple #[.agg (encM ⟨kindW a, i, d, t, O⟩).toArray, .bool false]) (by simp [results, Tryz.results32, go_sem, z0, z1, z2, z3, z4, encM]; try rfl) rfl ?_
            exact ⟨⟨_, _, rfl, .inr ⟨rfl, HN.out⟩⟩, ((((((hbw6.setCell (p := ⟨M, 4, none⟩) hwM _).setCell (p := ⟨w.heap.size, 0, none⟩) (Nat.le_refl _) _).setCell (p := ⟨w.heap.size, 1, none⟩) (Nat.le_refl _) _).setCell (p := ⟨w.heap.size, 2, none⟩) (Nat.le_refl _) _).setCell (p := ⟨w.heap.size, 3, none⟩) (Nat.le_refl _) _).setCell (p := ⟨w.heap.size, 4, none⟩) (Nat.le_refl _) _).drew⟩
end Go.Proofs.YtklnakjmiljmhaaGreatDoor
