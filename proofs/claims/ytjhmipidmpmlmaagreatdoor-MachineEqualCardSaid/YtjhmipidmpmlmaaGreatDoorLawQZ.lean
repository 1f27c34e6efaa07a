/- The law MachineEqual: the call returns true, for every tape. -/
import Derived.Test.YtjhmipidmpmlmaaGreatDoorY25
import Derived.Test.YtjhmipidmpmlmaaGreatDoorMksZ
namespace Go.Proofs.YtjhmipidmpmlmaaGreatDoor
set_option linter.unusedVariables false
set_option linter.unusedSimpArgs false
set_option maxRecDepth 100000
open Go.RowKit
/-- A set in memory. -/
theorem nd_leaf {W : World} {v : Value} {rs : List (Nat × Nat)} (h : RgIn W v rs) : NdIn W (eqSetN rs) [.int .i64 1, v, .slice none 0 0, .int .i64 0, .int .i64 0] := by
  unfold eqSetN
  rw [NdIn]
  exact ⟨_, _, rfl, h, none, 0, rfl, ⟨Nat.le_refl _, by decide⟩, .inl rfl⟩
theorem nd_node {W : World} {g n : Nat} {op mn mx : Int} {kids : List Nd} (hl : kids.length = n) (hn : n ≤ 9) (hg : g < W.heap.size) (hk : KdsIn W kids g 0) : NdIn W (.mk op [] kids mn mx) [.int .i64 op, .slice none 0 0, .slice (some ⟨g, 0, none⟩) n n, .int .i64 mn, .int .i64 mx] := by
  subst hl
  rw [NdIn]
  exact ⟨_, _, rfl, ⟨none, 0, rfl, ⟨Nat.le_refl _, by decide⟩, .inl rfl⟩, _, _, rfl, ⟨Nat.le_refl _, by omega⟩, .inr ⟨g, 0, rfl, hg, hk⟩⟩
theorem kds_cons {W : World} {g f : Nat} {k : Nd} {r : List Nd} {vs : List Value} {cs : Array Value} {T : TypeId} {m : Nat × Nat} (h : W.heap[g]? = some (.cells cs T m)) (hc : ∀ j, j < 5 → cs[f + j]? = vs[j]?) (hv : NdIn W k vs) (hr : KdsIn W r g (f + 5)) : KdsIn W (k :: r) g f := by
  rw [KdsIn]
  exact ⟨⟨vs, fun j hj => by rw [cell_of_row _ _ _ _ _ _ h]; exact hc j hj, hv⟩, hr⟩
theorem five {P : Nat → Prop} (h0 : P 0) (h1 : P 1) (h2 : P 2) (h3 : P 3) (h4 : P 4) : ∀ j, j < 5 → P j := fun j hj => by
  rcases (show j = 0 ∨ j = 1 ∨ j = 2 ∨ j = 3 ∨ j = 4 by omega) with rfl | rfl | rfl | rfl | rfl <;> assumption
theorem rowN5 {W : World} {g : Nat} {a b c d e : Value} {T : TypeId} {m : Nat × Nat} (h : W.heap[g]? = some (.cells #[a, b, c, d, e] T m)) : W.cell? ⟨g, 0, none⟩ = some a ∧ W.cell? ⟨g, 1, none⟩ = some b ∧ W.cell? ⟨g, 2, none⟩ = some c ∧ W.cell? ⟨g, 3, none⟩ = some d ∧ W.cell? ⟨g, 4, none⟩ = some e ∧ g < W.heap.size := by
  refine ⟨?_, ?_, ?_, ?_, ?_, (Array.getElem?_eq_some_iff.1 h).1⟩ <;> (rw [cell_of_row _ _ _ _ _ _ h]; rfl)
theorem rowN2 {W : World} {g : Nat} {a b : Value} {T : TypeId} {m : Nat × Nat} (h : W.heap[g]? = some (.cells #[a, b] T m)) : W.cell? ⟨g, 0, none⟩ = some a ∧ W.cell? ⟨g, 1, none⟩ = some b ∧ g < W.heap.size := by
  refine ⟨?_, ?_, (Array.getElem?_eq_some_iff.1 h).1⟩ <;> (rw [cell_of_row _ _ _ _ _ _ h]; rfl)
set_option maxHeartbeats 4000000 in
theorem equal_law (A : Option Addr) (n c : Nat) (w : World) (ht : TapeArg A n w) (hv : VrOK w) :
    Calls Tryz.prog 3 #[.slice A n c] w fun e w' => e = .returned (.bool true) ∧ Below w.heap.size w w' := by
  have h0 := tape_new (c := c) ht
  have hb0 := (Below.refl w.heap.size w).alloc (Nat.le_refl _) (.cells #[.slice A n c, .int .i64 0] 25)
  have hz0 : (w.alloc (.cells #[.slice A n c, .int .i64 0] 25)).heap.size = w.heap.size + 1 := by simp
  generalize hw0 : w.alloc (.cells #[.slice A n c, .int .i64 0] 25) = w0 at h0 hb0 hz0
  have HW0 := Lib.hid hw0
  have HV := Lib.hid hv
  clear hv ht
  go_enter Tryz.func3, Tryz.ntmps3
  go_wp2_with fail
  refine (mkset_any w.heap.size w0 h0).mono ?_
  rintro e w1 ⟨rs1, v1, hm1, rfl, hu1, ht1, hf1⟩
  obtain ⟨A1, c1, rfl, -⟩ := hu1 w1 (kf_bel (Below.refl _ _))
  obtain ⟨n1, hn1⟩ : ∃ k, rs1.length = k := ⟨_, rfl⟩
  rw [hn1] at hu1 ⊢
  have H1 := Lib.hid (And.intro hm1 (And.intro hu1 (And.intro ht1 (And.intro hf1 hn1))))
  clear hm1 hu1 ht1 hf1 hn1
  go_wp2_with fail
  refine (mkset_any w.heap.size w1 H1.out.2.2.1).mono ?_
  rintro e w2 ⟨rs2, v2, hm2, rfl, hu2, ht2, hf2⟩
  obtain ⟨A2, c2, rfl, -⟩ := hu2 w2 (kf_bel (Below.refl _ _))
  obtain ⟨n2, hn2⟩ : ∃ k, rs2.length = k := ⟨_, rfl⟩
  rw [hn2] at hu2 ⊢
  have H2 := Lib.hid (And.intro hm2 (And.intro hu2 (And.intro ht2 (And.intro hf2 hn2))))
  clear hm2 hu2 ht2 hf2 hn2
  go_wp2_with fail
  refine calls_named fun W hW => ?_
  have hWa : W = allocs w2 [(#[.int .i64 1, .slice A1 n1 c1, .slice none 0 0, .int .i64 0, .int .i64 0], 29), (#[.int .i64 1, .slice A2 n2 c2, .slice none 0 0, .int .i64 0, .int .i64 0], 29), (#[.int .i64 1, .slice A1 n1 c1, .slice none 0 0, .int .i64 0, .int .i64 0, .int .i64 1, .slice A2 n2 c2, .slice none 0 0, .int .i64 0, .int .i64 0], 29), (#[.int .i64 2, .slice none 0 0, .slice (some ⟨w2.heap.size + 1 + 1, 0, none⟩) 2 2, .int .i64 0, .int .i64 0], 29), (#[.int .i64 2, .slice none 0 0, .slice (some ⟨w2.heap.size + 1 + 1, 0, none⟩) 2 2, .int .i64 0, .int .i64 0], 29), (#[.int .i64 4, .slice none 0 0, .slice (some ⟨w2.heap.size + 1 + 1 + 1 + 1, 0, none⟩) 1 1, .int .i64 1, .int .i64 2], 29), (#[.int .i64 1, .slice A1 n1 c1, .slice none 0 0, .int .i64 0, .int .i64 0, .int .i64 1, .slice A2 n2 c2, .slice none 0 0, .int .i64 0, .int .i64 0, .int .i64 1, .slice A1 n1 c1, .slice none 0 0, .int .i64 0, .int .i64 0, .int .i64 1, .slice A2 n2 c2, .slice none 0 0, .int .i64 0, .int .i64 0], 29), (#[.int .i64 2, .slice none 0 0, .slice (some ⟨w2.heap.size + 1 + 1, 0, none⟩) 2 2, .int .i64 0, .int .i64 0, .int .i64 2, .slice none 0 0, .slice (some ⟨w2.heap.size + 1 + 1 + 1 + 1 + 1 + 1, 0, none⟩) 4 4, .int .i64 0, .int .i64 0], 29), (#[.int .i64 3, .slice none 0 0, .slice (some ⟨w2.heap.size + 1 + 1 + 1 + 1 + 1 + 1 + 1, 0, none⟩) 2 2, .int .i64 0, .int .i64 0], 29)] := hW
  have hbW : Below w2.heap.size w2 W := by rw [hWa]; exact allocs_below _ w2
  have hzW : W.heap.size = w2.heap.size + 9 := by rw [hWa]; exact allocs_size _ w2
  have r0 : W.heap[w2.heap.size]? = some (.cells #[.int .i64 1, .slice A1 n1 c1, .slice none 0 0, .int .i64 0, .int .i64 0] 29 (0, 0)) := by rw [hWa]; exact allocs_at 0 rfl
  have r1 : W.heap[w2.heap.size + 1]? = some (.cells #[.int .i64 1, .slice A2 n2 c2, .slice none 0 0, .int .i64 0, .int .i64 0] 29 (0, 0)) := by rw [hWa]; exact allocs_at 1 rfl
  have r2 : W.heap[w2.heap.size + 1 + 1]? = some (.cells #[.int .i64 1, .slice A1 n1 c1, .slice none 0 0, .int .i64 0, .int .i64 0, .int .i64 1, .slice A2 n2 c2, .slice none 0 0, .int .i64 0, .int .i64 0] 29 (0, 0)) := by rw [hWa]; exact allocs_at 2 rfl
  have r3 : W.heap[w2.heap.size + 1 + 1 + 1]? = some (.cells #[.int .i64 2, .slice none 0 0, .slice (some ⟨w2.heap.size + 1 + 1, 0, none⟩) 2 2, .int .i64 0, .int .i64 0] 29 (0, 0)) := by rw [hWa]; exact allocs_at 3 rfl
  have r4 : W.heap[w2.heap.size + 1 + 1 + 1 + 1]? = some (.cells #[.int .i64 2, .slice none 0 0, .slice (some ⟨w2.heap.size + 1 + 1, 0, none⟩) 2 2, .int .i64 0, .int .i64 0] 29 (0, 0)) := by rw [hWa]; exact allocs_at 4 rfl
  have r5 : W.heap[w2.heap.size + 1 + 1 + 1 + 1 + 1]? = some (.cells #[.int .i64 4, .slice none 0 0, .slice (some ⟨w2.heap.size + 1 + 1 + 1 + 1, 0, none⟩) 1 1, .int .i64 1, .int .i64 2] 29 (0, 0)) := by rw [hWa]; exact allocs_at 5 rfl
  have r6 : W.heap[w2.heap.size + 1 + 1 + 1 + 1 + 1 + 1]? = some (.cells #[.int .i64 1, .slice A1 n1 c1, .slice none 0 0, .int .i64 0, .int .i64 0, .int .i64 1, .slice A2 n2 c2, .slice none 0 0, .int .i64 0, .int .i64 0, .int .i64 1, .slice A1 n1 c1, .slice none 0 0, .int .i64 0, .int .i64 0, .int .i64 1, .slice A2 n2 c2, .slice none 0 0, .int .i64 0, .int .i64 0] 29 (0, 0)) := by rw [hWa]; exact allocs_at 6 rfl
  have r7 : W.heap[w2.heap.size + 1 + 1 + 1 + 1 + 1 + 1 + 1]? = some (.cells #[.int .i64 2, .slice none 0 0, .slice (some ⟨w2.heap.size + 1 + 1, 0, none⟩) 2 2, .int .i64 0, .int .i64 0, .int .i64 2, .slice none 0 0, .slice (some ⟨w2.heap.size + 1 + 1 + 1 + 1 + 1 + 1, 0, none⟩) 4 4, .int .i64 0, .int .i64 0] 29 (0, 0)) := by rw [hWa]; exact allocs_at 7 rfl
  have r8 : W.heap[w2.heap.size + 1 + 1 + 1 + 1 + 1 + 1 + 1 + 1]? = some (.cells #[.int .i64 3, .slice none 0 0, .slice (some ⟨w2.heap.size + 1 + 1 + 1 + 1 + 1 + 1 + 1, 0, none⟩) 2 2, .int .i64 0, .int .i64 0] 29 (0, 0)) := by rw [hWa]; exact allocs_at 8 rfl
  have HRG := Lib.hid (fun (W' : World) (h : Below w2.heap.size w2 W') => show RgIn W' (.slice A1 n1 c1) rs1 ∧ RgIn W' (.slice A2 n2 c2) rs2 from ⟨H1.out.2.1 W' ((kf_range_fr H2.out.2.2.2.1 (by have := H1.out.2.2.1.lt; omega)).tr (kf_bel h)), H2.out.2.1 W' (kf_bel h)⟩)
  obtain ⟨hx, hy⟩ := HRG.out W hbW
  have hkP : KdsIn W [eqSetN rs1, eqSetN rs2] (w2.heap.size + 1 + 1) 0 := kds_cons r2 (five rfl rfl rfl rfl rfl) (nd_leaf hx) (kds_cons r2 (five rfl rfl rfl rfl rfl) (nd_leaf hy) trivial)
  have hP : NdIn W (eqPairN (eqSetN rs1) (eqSetN rs2)) [.int .i64 2, .slice none 0 0, .slice (some ⟨w2.heap.size + 1 + 1, 0, none⟩) 2 2, .int .i64 0, .int .i64 0] := nd_node rfl (by decide) (by omega) hkP
  have hkQ : KdsIn W [eqSetN rs1, eqSetN rs2, eqSetN rs1, eqSetN rs2] (w2.heap.size + 1 + 1 + 1 + 1 + 1 + 1) 0 := kds_cons r6 (five rfl rfl rfl rfl rfl) (nd_leaf hx) (kds_cons r6 (five rfl rfl rfl rfl rfl) (nd_leaf hy) (kds_cons r6 (five rfl rfl rfl rfl rfl) (nd_leaf hx) (kds_cons r6 (five rfl rfl rfl rfl rfl) (nd_leaf hy) trivial)))
  have hQ : NdIn W (eqQuadN (eqSetN rs1) (eqSetN rs2)) [.int .i64 2, .slice none 0 0, .slice (some ⟨w2.heap.size + 1 + 1 + 1 + 1 + 1 + 1, 0, none⟩) 4 4, .int .i64 0, .int .i64 0] := nd_node rfl (by decide) (by omega) hkQ
  have hA : NdIn W (eqRepN (eqSetN rs1) (eqSetN rs2)) [.int .i64 4, .slice none 0 0, .slice (some ⟨w2.heap.size + 1 + 1 + 1 + 1, 0, none⟩) 1 1, .int .i64 1, .int .i64 2] := nd_node rfl (by decide) (by omega) (kds_cons r4 (five rfl rfl rfl rfl rfl) hP trivial)
  have hB : NdIn W (eqChoN (eqSetN rs1) (eqSetN rs2)) [.int .i64 3, .slice none 0 0, .slice (some ⟨w2.heap.size + 1 + 1 + 1 + 1 + 1 + 1 + 1, 0, none⟩) 2 2, .int .i64 0, .int .i64 0] := nd_node rfl (by decide) (by omega) (kds_cons r7 (five rfl rfl rfl rfl rfl) hP (kds_cons r7 (five rfl rfl rfl rfl rfl) hQ trivial))
  have hF2 : Below w.heap.size w w2 := hb0.trans ((H1.out.2.2.2.1.trans H2.out.2.2.2.1).below (Nat.le_refl _) hb0.size)
  have hFW := hF2.trans (hbW.mono hF2.size)
  have hca : Calls Tryz.prog 9 #[.agg #[.int .i64 4, .slice none 0 0, .slice (some ⟨w2.heap.size + 1 + 1 + 1 + 1, 0, none⟩) 1 1, .int .i64 1, .int .i64 2]] W (CmPost (eqRepN (eqSetN rs1) (eqSetN rs2)) W) := compile_any _ [.int .i64 4, .slice none 0 0, .slice (some ⟨w2.heap.size + 1 + 1 + 1 + 1, 0, none⟩) 1 1, .int .i64 1, .int .i64 2] W hA (HV.out.later hFW)
  have HCA := Lib.hid hca
  have HND := Lib.hid (And.intro hP hB)
  have HR := Lib.hid (And.intro r0 (And.intro r1 (And.intro r3 r8)))
  have HW := Lib.hid (And.intro hbW (And.intro hFW hzW))
  have HFW := Lib.hid (few_ok rs1 H1.out.1 rs2 H2.out.1)
  clear hca hA hB hP hQ hkP hkQ hx hy r0 r1 r2 r3 r4 r5 r6 r7 r8 hbW hFW hzW hF2 hW hWa
  refine HCA.out.mono ?_
  rintro e w3 hp3
  obtain ⟨hb3, rv3, m3, k3, rfl, hup3, hle3, hk3, hla3⟩ := cm_few hp3 HFW.out.1.1 HFW.out.1.2
  clear hp3
  obtain ⟨Ae, ce, Aa, ca, rfl⟩ := mc_form hup3.mc
  obtain ⟨a3, ha3⟩ : ∃ k, m3.ed.length = k := ⟨_, rfl⟩
  obtain ⟨b3, hb3'⟩ : ∃ k, m3.ac.length = k := ⟨_, rfl⟩
  rw [ha3, hb3'] at hup3 ⊢
  have H3 := Lib.hid (And.intro hb3 (And.intro hup3 (And.intro hle3 (And.intro hk3 hla3))))
  obtain ⟨t0, t1, t2, t3, t4, lt⟩ := rowN5 ((hb3.block (w2.heap.size + 1 + 1 + 1 + 1 + 1 + 1 + 1 + 1) (by have := HW.out.2.2; omega)).trans HR.out.2.2.2)
  clear hb3 hup3 hle3 hk3 hla3 ha3 hb3'
  go_wp2_with fail
  refine calls_named fun W3 hW3 => ?_
  have hbW3 : Below w3.heap.size w3 W3 := by rw [hW3]; exact (Below.refl _ _).alloc (Nat.le_refl _) _
  have g9 : W3.heap[w3.heap.size]? = some (.cells #[.slice Ae a3 ce, .slice Aa b3 ca] 34 (0, 0)) := by rw [hW3]; exact heap_alloc_new w3 _
  have hzW3 : W3.heap.size = w3.heap.size + 1 := by rw [hW3]; simp
  have hWW3 : Below W.heap.size W W3 := H3.out.1.trans (hbW3.mono H3.out.1.size)
  have hcb : Calls Tryz.prog 9 #[.agg #[.int .i64 3, .slice none 0 0, .slice (some ⟨w2.heap.size + 1 + 1 + 1 + 1 + 1 + 1 + 1, 0, none⟩) 2 2, .int .i64 0, .int .i64 0]] W3 (CmPost (eqChoN (eqSetN rs1) (eqSetN rs2)) W3) := compile_any _ [.int .i64 3, .slice none 0 0, .slice (some ⟨w2.heap.size + 1 + 1 + 1 + 1 + 1 + 1 + 1, 0, none⟩) 2 2, .int .i64 0, .int .i64 0] W3 (HND.out.2.later hWW3) (HV.out.later (HW.out.2.1.trans (hWW3.mono HW.out.2.1.size)))
  have HCB := Lib.hid hcb
  have HW3 := Lib.hid (And.intro hbW3 (And.intro hWW3 (And.intro hzW3 g9)))
  clear hcb hbW3 hWW3 hzW3 g9 hW3 t0 t1 t2 t3 t4 lt
  refine HCB.out.mono ?_
  rintro e w4 hp4
  obtain ⟨hb4, rv4, m4, k4, rfl, hup4, hle4, hk4, hla4⟩ := cm_few hp4 HFW.out.2.1.1 HFW.out.2.1.2
  clear hp4
  obtain ⟨Ae4, ce4, Aa4, ca4, rfl⟩ := mc_form hup4.mc
  obtain ⟨a4, ha4⟩ : ∃ k, m4.ed.length = k := ⟨_, rfl⟩
  obtain ⟨b4, hb4'⟩ : ∃ k, m4.ac.length = k := ⟨_, rfl⟩
  rw [ha4, hb4'] at hup4 ⊢
  have H4 := Lib.hid (And.intro hb4 (And.intro hup4 (And.intro hle4 (And.intro hk4 hla4))))
  have hW4 : Below W.heap.size W w4 := HW3.out.2.1.trans (hb4.mono HW3.out.2.1.size)
  have hlw := HW.out.2.2
  obtain ⟨x0, x1, x2, x3, x4, lx⟩ := rowN5 ((hW4.block (w2.heap.size) (by omega)).trans HR.out.1)
  obtain ⟨y0, y1, y2, y3, y4, ly⟩ := rowN5 ((hW4.block (w2.heap.size + 1) (by omega)).trans HR.out.2.1)
  obtain ⟨z0, z1, z2, z3, z4, lz⟩ := rowN5 ((hW4.block (w2.heap.size + 1 + 1 + 1) (by omega)).trans HR.out.2.2.1)
  have lz1 : w2.heap.size + 1 + 1 + 1 < w4.heap.size + 1 := by omega
  have lz2 : w2.heap.size + 1 + 1 + 1 < w4.heap.size + 1 + 1 := by omega
  have HW4 := Lib.hid hW4
  clear hb4 hup4 hle4 hk4 hla4 ha4 hb4' hW4 hlw
  go_wp2_with fail
  refine calls_named fun W5 hW5 => ?_
  have hWa : W5 = allocs w4 [(#[.slice Ae4 a4 ce4, .slice Aa4 b4 ca4], 34), (#[.int .i64 1, .slice A1 n1 c1, .slice none 0 0, .int .i64 0, .int .i64 0, .int .i64 1, .slice A2 n2 c2, .slice none 0 0, .int .i64 0, .int .i64 0, .int .i64 1, .slice A1 n1 c1, .slice none 0 0, .int .i64 0, .int .i64 0, .int .i64 1, .slice A2 n2 c2, .slice none 0 0, .int .i64 0, .int .i64 0], 29), (#[.int .i64 2, .slice none 0 0, .slice (some ⟨w4.heap.size + 1, 0, none⟩) 4 4, .int .i64 0, .int .i64 0, .int .i64 2, .slice none 0 0, .slice (some ⟨w2.heap.size + 1 + 1, 0, none⟩) 2 2, .int .i64 0, .int .i64 0], 29), (#[.int .i64 3, .slice none 0 0, .slice (some ⟨w4.heap.size + 1 + 1, 0, none⟩) 2 2, .int .i64 0, .int .i64 0], 29)] := hW5
  have hbW : Below w4.heap.size w4 W5 := by rw [hWa]; exact allocs_below _ w4
  have hzW : W5.heap.size = w4.heap.size + 4 := by rw [hWa]; exact allocs_size _ w4
  have r0 : W5.heap[w4.heap.size]? = some (.cells #[.slice Ae4 a4 ce4, .slice Aa4 b4 ca4] 34 (0, 0)) := by rw [hWa]; exact allocs_at 0 rfl
  have r1 : W5.heap[w4.heap.size + 1]? = some (.cells #[.int .i64 1, .slice A1 n1 c1, .slice none 0 0, .int .i64 0, .int .i64 0, .int .i64 1, .slice A2 n2 c2, .slice none 0 0, .int .i64 0, .int .i64 0, .int .i64 1, .slice A1 n1 c1, .slice none 0 0, .int .i64 0, .int .i64 0, .int .i64 1, .slice A2 n2 c2, .slice none 0 0, .int .i64 0, .int .i64 0] 29 (0, 0)) := by rw [hWa]; exact allocs_at 1 rfl
  have r2 : W5.heap[w4.heap.size + 1 + 1]? = some (.cells #[.int .i64 2, .slice none 0 0, .slice (some ⟨w4.heap.size + 1, 0, none⟩) 4 4, .int .i64 0, .int .i64 0, .int .i64 2, .slice none 0 0, .slice (some ⟨w2.heap.size + 1 + 1, 0, none⟩) 2 2, .int .i64 0, .int .i64 0] 29 (0, 0)) := by rw [hWa]; exact allocs_at 2 rfl
  have r3 : W5.heap[w4.heap.size + 1 + 1 + 1]? = some (.cells #[.int .i64 3, .slice none 0 0, .slice (some ⟨w4.heap.size + 1 + 1, 0, none⟩) 2 2, .int .i64 0, .int .i64 0] 29 (0, 0)) := by rw [hWa]; exact allocs_at 3 rfl
  have hWW5 : Below W.heap.size W W5 := HW4.out.trans (hbW.mono HW4.out.size)
  obtain ⟨hx, hy⟩ := HRG.out W5 (HW.out.1.trans (hWW5.mono HW.out.1.size))
  have hkQ : KdsIn W5 [eqSetN rs1, eqSetN rs2, eqSetN rs1, eqSetN rs2] (w4.heap.size + 1) 0 := kds_cons r1 (five rfl rfl rfl rfl rfl) (nd_leaf hx) (kds_cons r1 (five rfl rfl rfl rfl rfl) (nd_leaf hy) (kds_cons r1 (five rfl rfl rfl rfl rfl) (nd_leaf hx) (kds_cons r1 (five rfl rfl rfl rfl rfl) (nd_leaf hy) trivial)))
  have hQ : NdIn W5 (eqQuadN (eqSetN rs1) (eqSetN rs2)) [.int .i64 2, .slice none 0 0, .slice (some ⟨w4.heap.size + 1, 0, none⟩) 4 4, .int .i64 0, .int .i64 0] := nd_node rfl (by decide) (by omega) hkQ
  have hC : NdIn W5 (eqChoM (eqSetN rs1) (eqSetN rs2)) [.int .i64 3, .slice none 0 0, .slice (some ⟨w4.heap.size + 1 + 1, 0, none⟩) 2 2, .int .i64 0, .int .i64 0] := nd_node rfl (by decide) (by omega) (kds_cons r2 (five rfl rfl rfl rfl rfl) hQ (kds_cons r2 (five rfl rfl rfl rfl rfl) (HND.out.1.later hWW5) trivial))
  have hcc : Calls Tryz.prog 9 #[.agg #[.int .i64 3, .slice none 0 0, .slice (some ⟨w4.heap.size + 1 + 1, 0, none⟩) 2 2, .int .i64 0, .int .i64 0]] W5 (CmPost (eqChoM (eqSetN rs1) (eqSetN rs2)) W5) := compile_any _ [.int .i64 3, .slice none 0 0, .slice (some ⟨w4.heap.size + 1 + 1, 0, none⟩) 2 2, .int .i64 0, .int .i64 0] W5 hC (HV.out.later (HW.out.2.1.trans (hWW5.mono HW.out.2.1.size)))
  have HCC := Lib.hid hcc
  have HW5 := Lib.hid (And.intro hbW (And.intro hWW5 (And.intro hzW r0)))
  clear hcc hC hQ hkQ hx hy r0 r1 r2 r3 hbW hWW5 hzW hW5 hWa x0 x1 x2 x3 x4 lx y0 y1 y2 y3 y4 ly z0 z1 z2 z3 z4 lz lz1 lz2
  refine HCC.out.mono ?_
  rintro e w6 hp6
  obtain ⟨hb6, rv6, m6, k6, rfl, hup6, hle6, hk6, hla6⟩ := cm_few hp6 HFW.out.2.2.1 HFW.out.2.2.2
  clear hp6
  obtain ⟨Ae6, ce6, Aa6, ca6, rfl⟩ := mc_form hup6.mc
  obtain ⟨a6, ha6⟩ : ∃ k, m6.ed.length = k := ⟨_, rfl⟩
  obtain ⟨b6, hb6'⟩ : ∃ k, m6.ac.length = k := ⟨_, rfl⟩
  rw [ha6, hb6'] at hup6 ⊢
  have H6 := Lib.hid (And.intro hb6 (And.intro hup6 (And.intro hle6 (And.intro hk6 hla6))))
  have h36 : Below W3.heap.size W3 w6 := (H4.out.1.trans ((HW5.out.1.trans (hb6.mono HW5.out.1.size)).mono H4.out.1.size))
  have h56 : Below w4.heap.size w4 w6 := HW5.out.1.trans (hb6.mono HW5.out.1.size)
  have g9 := (h36.block _ (by rw [HW3.out.2.2.1]; omega)).trans HW3.out.2.2.2
  have g11 := (hb6.block _ (by rw [HW5.out.2.2.1]; omega)).trans HW5.out.2.2.2
  obtain ⟨x0, x1, lx⟩ := rowN2 g9
  obtain ⟨y0, y1, ly⟩ := rowN2 g11
  have hFw6 : Below w.heap.size w w6 := HW.out.2.1.trans ((HW5.out.2.1.trans (hb6.mono HW5.out.2.1.size)).mono HW.out.2.1.size)
  have e34 : m3 = m4 := least_eq H3.out.2.2.1 H4.out.2.2.1 fun u => by rw [Bool.eq_iff_iff, H3.out.2.2.2.2, H4.out.2.2.2.2, rep_cho]
  have e46 : m4 = m6 := least_eq H4.out.2.2.1 hle6 fun u => by rw [Bool.eq_iff_iff, H4.out.2.2.2.2, hla6, cho_swap]
  have o3 := leOK_vld H3.out.2.2.1
  have o4 := leOK_vld H4.out.2.2.1
  have o6 := leOK_vld hle6
  have s3 : 1 ≤ m3.ed.length ∧ m3.ed.length ≤ 2000 := ⟨o3.2, Nat.le_trans H3.out.2.2.1.2.1 H3.out.2.2.2.1⟩
  have s4 : 1 ≤ m4.ed.length ∧ m4.ed.length ≤ 2000 := ⟨o4.2, Nat.le_trans H4.out.2.2.1.2.1 H4.out.2.2.2.1⟩
  have s6 : 1 ≤ m6.ed.length ∧ m6.ed.length ≤ 2000 := ⟨o6.2, Nat.le_trans hle6.2.1 hk6⟩
  have hs1 : ∀ V, Below w6.heap.size w6 V → Calls Tryz.prog 10 #[.agg #[.slice Ae a3 ce, .slice Aa b3 ca], .agg #[.slice Ae4 a4 ce4, .slice Aa4 b4 ca4]] V fun e w' => e = .returned (.bool true) ∧ Below V.heap.size V w' := fun V hV => by
    have := rsame_any _ _ m3 m4 V (H3.out.2.1 V (kf_bel (HW3.out.1.trans ((h36.trans (hV.mono h36.size)).mono HW3.out.1.size)))) (H4.out.2.1 V (kf_bel (h56.trans (hV.mono h56.size)))) o3.1 o4.1 H3.out.2.2.1.2.2 H4.out.2.2.1.2.2 s3 s4
    rw [show decide (m3 = m4) = true from decide_eq_true e34] at this
    exact this
  have hs2 : ∀ V, Below w6.heap.size w6 V → Calls Tryz.prog 10 #[.agg #[.slice Ae4 a4 ce4, .slice Aa4 b4 ca4], .agg #[.slice Ae6 a6 ce6, .slice Aa6 b6 ca6]] V fun e w' => e = .returned (.bool true) ∧ Below V.heap.size V w' := fun V hV => by
    have := rsame_any _ _ m4 m6 V (H4.out.2.1 V (kf_bel (h56.trans (hV.mono h56.size)))) (H6.out.2.1 V (kf_bel hV)) o4.1 o6.1 H4.out.2.2.1.2.2 hle6.2.2 s4 s6
    rw [show decide (m4 = m6) = true from decide_eq_true e46] at this
    exact this
  have HS1 := Lib.hid hs1
  have HS2 := Lib.hid hs2
  have HG := Lib.hid (And.intro g9 g11)
  have HF6 := Lib.hid hFw6
  clear hs1 hs2 g9 g11 hFw6 e34 e46 o3 o4 o6 s3 s4 s6 hb6 hup6 hle6 hk6 hla6 ha6 hb6' h36 h56
  go_wp2_with fail
  refine calls_named fun W6 hW6 => ?_
  have hbW6 : Below w6.heap.size w6 W6 := by rw [hW6]; exact (Below.refl _ _).alloc (Nat.le_refl _) _
  have g14 : W6.heap[w6.heap.size]? = some (.cells #[.slice Ae6 a6 ce6, .slice Aa6 b6 ca6] 34 (0, 0)) := by rw [hW6]; exact heap_alloc_new w6 _
  have g11 := (hbW6.block _ ly).trans HG.out.2
  have HW6 := Lib.hid (And.intro hbW6 (And.intro g14 (And.intro g11 (show w4.heap.size < w6.heap.size from ly))))
  clear hW6 hbW6 g14 g11 x0 x1 lx y0 y1 ly
  refine (HS1.out W6 HW6.out.1).mono ?_
  rintro e w7 ⟨rfl, hb7⟩
  obtain ⟨x0, x1, lx⟩ := rowN2 ((hb7.block _ (Array.getElem?_eq_some_iff.1 HW6.out.2.1).1).trans HW6.out.2.1)
  obtain ⟨y0, y1, ly⟩ := rowN2 ((hb7.block _ (Array.getElem?_eq_some_iff.1 HW6.out.2.2.1).1).trans HW6.out.2.2.1)
  have HB7 := Lib.hid (HW6.out.1.trans (hb7.mono HW6.out.1.size))
  clear hb7
  go_wp2_with fail
  refine (HS2.out w7 HB7.out).mono ?_
  rintro e w8 ⟨rfl, hb8⟩
  have HB8 := Lib.hid (HF6.out.trans ((HB7.out.trans (hb8.mono HB7.out.size)).mono HF6.out.size))
  clear hb8 x0 x1 lx y0 y1 ly
  go_wp2_with fail
  refine (awake06 w8 (HV.out.later HB8.out)).mono ?_
  rintro e w9 ⟨rfl, hb9⟩
  have HB9 := Lib.hid (HB8.out.trans (hb9.mono HB8.out.size))
  clear hb9
  go_wp2_with fail
  go_ret
  exact ⟨rfl, HB9.out⟩
end Go.Proofs.YtjhmipidmpmlmaaGreatDoor
