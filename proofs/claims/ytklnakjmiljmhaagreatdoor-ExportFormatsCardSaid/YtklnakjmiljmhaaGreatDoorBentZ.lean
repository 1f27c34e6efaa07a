/- Walk: messages in which one thing is changed (the law's bent). -/
import Derived.Laws.AppendOwnNone
import Derived.Test.YtklnakjmiljmhaaGreatDoorY28
import Derived.Test.YtklnakjmiljmhaaGreatDoorY35
namespace Go.Proofs.YtklnakjmiljmhaaGreatDoor
set_option linter.unusedVariables false
set_option linter.unusedSimpArgs false
set_option maxRecDepth 100000
open Go.RowKit
section
variable {α : Type} {enc : α → List Value} {n : Nat}
/-- 'append(s, row...)' of an owned row of structs. -/
theorem app_OR (E : EncS enc n) {P : Program} {T e : TypeId} {i0 : TypeInfo} {z : Value} {by_ : Nat} (ht : P.underlying T = some (.slice e)) (hi : P.info? e = some i0) (hz0 : i0.zero = some z) (hz1 : i0.size = n) (hz2 : i0.bytes = by_) (hzs : z.cells.size = n) (hby : by_ ≤ 1000)
    {w : World} {ops : Array Oper} {rest : List Oper} {op : Oper} {a : Act} {Q : Exit → Act → World → Prop} (s x : Operand) (v y : Value) (o p : List α) (B B2 : Nat)
    (hgd : op.guard = none) (ho : op.op = .call { callee := .builtin .append, args := #[s, x], argTypes := #[T, T] })
    (hs : a.eval s = v) (hx : a.eval x = y) (hown : OR e n enc B v o w) (hy : OR e n enc B2 y p w) (hl : o.length ≤ 1000000) (hl2 : p.length ≤ 1000000) (hB : B ≤ w.heap.size)
    (h : ∀ v' w1, OR e n enc B v' (o ++ p) w1 → Below B w w1 → wpList P ops Q rest (a.put op.dst v') w1) :
    wpList P ops Q (op :: rest) a w := by
  rcases hy.2 with ⟨rfl, h0⟩ | ⟨g, cap, cur, rfl, -, -, -⟩
  · obtain rfl : p = [] := List.length_eq_zero_iff.1 h0
    refine wpList_append_own_none hgd s x T ho B e i0 n ht hi v o.length _ hs hown hx ?_
    exact h v w (by simpa using hown) (Below.refl _ _)
  · refine app_rows E ht hi hz0 hz1 hz2 hzs hby s x v g 0 cap o p B hgd ho hs hx hown (fun i hi j hj => ?_) hl hl2 hB h
    obtain ⟨A', c', hv, -, hc⟩ := OR.cells E hy
    injection hv with hv1 hv2 hv3
    obtain ⟨g', hg', -, -, hcs⟩ := hc.resolve_left (by rintro rfl; simp at hi)
    rw [← hv1] at hg'
    injection hg' with hg'
    injection hg' with hg'
    subst hg'
    rw [Nat.zero_add]
    exact (hcs i hi j hj).1
end
/-- A message whose texts are short. -/
def ShortM (m : Ms) : Prop := m.who.length ≤ 3 ∧ m.text.length ≤ 3
def msgRowM (m : Ms) : Obj := .cells (encM m).toArray 43 (0, 0)
def ThreeS (c : Nat) (g : Nat) (w : World) : Prop := ∀ j, j < c → ∃ s : ByteArray, s.size ≤ 3 ∧ w.cell? ⟨g, j, none⟩ = some (.string s)
theorem three_new (w : World) (e : TypeId) (s0 s1 s2 : ByteArray) (h0 : s0.size ≤ 3) (h1 : s1.size ≤ 3) (h2 : s2.size ≤ 3) : ThreeS 3 w.heap.size (w.alloc (.cells #[.string s0, .string s1, .string s2] e))
  | 0, _ => ⟨s0, h0, by rw [World.cell?_alloc_mark]; rfl⟩
  | 1, _ => ⟨s1, h1, by rw [World.cell?_alloc_mark]; rfl⟩
  | 2, _ => ⟨s2, h2, by rw [World.cell?_alloc_mark]; rfl⟩
theorem two_new (w : World) (e : TypeId) (s0 s1 : ByteArray) (h0 : s0.size ≤ 3) (h1 : s1.size ≤ 3) : ThreeS 2 w.heap.size (w.alloc (.cells #[.string s0, .string s1] e))
  | 0, _ => ⟨s0, h0, by rw [World.cell?_alloc_mark]; rfl⟩
  | 1, _ => ⟨s1, h1, by rw [World.cell?_alloc_mark]; rfl⟩
/-- The facts of the region that makes the message. -/
def factB (b : Nat) (W : World) (f : Nat → Bool) : Nat → Value → World → Prop
  | 0, x, _ => x = .pointer (some ⟨b, 0, none⟩)
  | 1, x, _ => ∃ z : Int, x = .int .i64 z
  | 2, x, _ => x = .pointer (some ⟨b, 0, none⟩)
  | 3, x, _ => ∃ z : Int, x = .int .i64 z
  | 4, x, w => ∃ g, x = .slice (some ⟨g, 0, none⟩) 3 3 ∧ W.heap.size ≤ g ∧ (f 18 = false → ThreeS 3 g w)
  | 5, x, _ => x = .pointer (some ⟨b, 0, none⟩)
  | 6, x, _ => ∃ q : Nat, q < 3 ∧ x = .int .i64 (q : Int)
  | 7, x, w => ∃ g q s, s.size ≤ 3 ∧ x = .pointer (some ⟨g, q, none⟩) ∧ W.heap.size ≤ g ∧ (f 18 = false → w.cell? ⟨g, q, none⟩ = some (.string s))
  | 8, x, _ => ∃ s : ByteArray, s.size ≤ 3 ∧ x = .string s
  | 9, x, _ => x = .pointer (some ⟨b, 0, none⟩)
  | 10, x, _ => ∃ z : Int, x = .int .i64 z
  | 11, x, w => ∃ g, x = .slice (some ⟨g, 0, none⟩) 2 2 ∧ W.heap.size ≤ g ∧ (f 18 = false → ThreeS 2 g w)
  | 12, x, _ => x = .pointer (some ⟨b, 0, none⟩)
  | 13, x, _ => ∃ q : Nat, q < 2 ∧ x = .int .i64 (q : Int)
  | 14, x, w => ∃ g q s, s.size ≤ 3 ∧ x = .pointer (some ⟨g, q, none⟩) ∧ W.heap.size ≤ g ∧ (f 18 = false → w.cell? ⟨g, q, none⟩ = some (.string s))
  | 15, x, _ => ∃ s : ByteArray, s.size ≤ 3 ∧ x = .string s
  | 16, x, _ => ∃ k i t s u, s.size ≤ 3 ∧ u.size ≤ 3 ∧ x = .agg #[.int .i64 k, .int .i64 i, .string s, .int .i64 t, .string u]
  | 17, x, w => ∃ p, x = .pointer (some ⟨p, 0, none⟩) ∧ W.heap.size ≤ p ∧ (f 18 = false → w.heap[p]? = some msgZero) ∧ (f 18 = true → ∃ m, ShortM m ∧ w.heap[p]? = some (msgRowM m))
  | _, _, _ => True
theorem st5B {w : World} {p : Nat} (h : w.heap[p]? = some msgZero) (k i t : Int) (s u : ByteArray) :
    (storeCells ⟨p, 0, none⟩ [.int .i64 k, .int .i64 i, .string s, .int .i64 t, .string u] 0).run Tryz.prog w = .ok () (w.setRow p #[.int .i64 k, .int .i64 i, .string s, .int .i64 t, .string u]) :=
  run_storeCells_from p _ [.int .i64 k, .int .i64 i, .string s, .int .i64 t, .string u] 0 _ w h (by rfl) (by intro v hv; simp at hv; rcases hv with rfl | rfl | rfl | rfl | rfl <;> rfl)
theorem factB_later {b : Nat} {W w w' : World} {f : Nat → Bool} {i : Nat} (hi : i ≠ 18) (hb : b < W.heap.size) (hf : Fr b w w') : ∀ (j : Nat) (x : Value), factB b W f j x w → factB b W (upI f i) j x w' := by
  have h18 : upI f i 18 = f 18 := upI_ne f (Ne.symm hi)
  have hc : ∀ (g j : Nat) (v : Value), W.heap.size ≤ g → w.cell? ⟨g, j, none⟩ = some v → w'.cell? ⟨g, j, none⟩ = some v := fun g j v hg h =>
    (World.cell?_of_block (a := ⟨g, j, none⟩) (hf.block g (World.block_lt_of_cell? _ _ h) (by intro e; injection e; omega))).trans h
  have hr : ∀ (g : Nat) (o : Obj), W.heap.size ≤ g → w.heap[g]? = some o → w'.heap[g]? = some o := fun g o hg h =>
    (hf.block g (Array.getElem?_eq_some_iff.1 h).1 (by intro e; injection e; omega)).trans h
  intro j x h
  match j with
  | 0 | 1 | 2 | 3 | 5 | 6 | 8 | 9 | 10 | 12 | 13 | 15 | 16 => exact h
  | 4 | 11 =>
    obtain ⟨g, e, hg, hx⟩ := h
    exact ⟨g, e, hg, fun h0 j hj => by obtain ⟨s, hs, hq⟩ := hx (h18 ▸ h0) j hj; exact ⟨s, hs, hc g j _ hg hq⟩⟩
  | 7 | 14 =>
    obtain ⟨g, q, s, hs, e, hg, hx⟩ := h
    exact ⟨g, q, s, hs, e, hg, fun h0 => hc g q _ hg (hx (h18 ▸ h0))⟩
  | 17 =>
    obtain ⟨p, e, hp, h1, h2⟩ := h
    exact ⟨p, e, hp, fun h0 => hr p _ hp (h1 (h18 ▸ h0)), fun h0 => by
      obtain ⟨m, hm, hx⟩ := h2 (h18 ▸ h0)
      exact ⟨m, hm, hr p _ hp hx⟩⟩
  | _ + 18 => exact trivial
theorem factB_store {b : Nat} {W w : World} {f : Nat → Bool} {p : Nat} {k i t : Int} {s u : ByteArray} (hs : s.size ≤ 3) (hu : u.size ≤ 3) (hz : w.heap[p]? = some msgZero) : ∀ (j : Nat) (x : Value), j ≠ 18 → (j = 17 → x = .pointer (some ⟨p, 0, none⟩)) → factB b W f j x w → factB b W (upI f 18) j x (w.setRow p #[.int .i64 k, .int .i64 i, .string s, .int .i64 t, .string u]) := by
  have h18 : upI f 18 18 ≠ false := by intro h; cases h
  intro j x hj hx h
  match j with
  | 0 | 1 | 2 | 3 | 5 | 6 | 8 | 9 | 10 | 12 | 13 | 15 | 16 => exact h
  | 4 | 11 =>
    obtain ⟨g, e, hg, -⟩ := h
    exact ⟨g, e, hg, fun h0 => absurd h0 h18⟩
  | 7 | 14 =>
    obtain ⟨g, q, s, hs, e, hg, -⟩ := h
    exact ⟨g, q, s, hs, e, hg, fun h0 => absurd h0 h18⟩
  | 17 =>
    obtain ⟨p', e, hp, -, -⟩ := h
    have e2 := hx rfl
    rw [e] at e2
    injection e2 with e2
    injection e2 with e2
    injection e2 with e2
    subst e2
    refine ⟨p', e, hp, fun h0 => absurd h0 h18, fun _ => ⟨⟨k, i, bl s, t, bl u⟩, ⟨by show (bl s).length ≤ 3; rw [← size_bs, bs_bl]; exact hs, by show (bl u).length ≤ 3; rw [← size_bs, bs_bl]; exact hu⟩, ?_⟩⟩
    exact (setRow_heap _ _ _ _ _ _ hz).trans (by unfold msgRowM encM; rw [bs_bl, bs_bl])
  | 18 => exact absurd rfl hj
  | _ + 19 => exact trivial
def BentPost (b : Nat) (w : World) (e : Ending) (w' : World) : Prop := ∃ u l, e = .returned u ∧ OM w.heap.size u l w' ∧ Small l ∧ TapeOK b w' ∧ Fr b w w'
/-- The facts of the region that stores the message at a place. -/
def factS (b g n c : Nat) (m : Ms) : Nat → Value → World → Prop
  | 0, x, _ => x = .slice (some ⟨g, 0, none⟩) n c
  | 1, x, _ => x = .pointer (some ⟨b, 0, none⟩)
  | 2, x, _ => x = .slice (some ⟨g, 0, none⟩) n c
  | 3, x, _ => x = .int .i64 (n : Int)
  | 4, x, _ => ∃ q : Nat, q < n ∧ x = .int .i64 (q : Int)
  | 5, x, _ => x = .agg #[.int .i64 m.kind, .int .i64 m.id, .string (bs m.who), .int .i64 m.time, .string (bs m.text)]
  | 6, x, _ => ∃ q : Nat, q < n ∧ x = .pointer (some ⟨g, q * 5, none⟩)
  | _, _, _ => True
theorem factS_w {b g n c : Nat} {m : Ms} {w w' : World} : ∀ {j : Nat} {x : Value}, factS b g n c m j x w → factS b g n c m j x w'
  | 0, _, h | 1, _, h | 2, _, h | 3, _, h | 4, _, h | 5, _, h | 6, _, h => h
  | _ + 7, _, _ => trivial
def StS (b p g n c B : Nat) (m : Ms) (w0 w : World) : Prop := TapeOK b w ∧ Fr b w0 w ∧ w.heap[p]? = some (msgRowM m) ∧ ∃ l : List Ms, OM B (.slice (some ⟨g, 0, none⟩) n c) l w ∧ l.length = n ∧ ∀ x ∈ l, x.who.length ≤ 1000000 ∧ x.text.length ≤ 1000000
theorem om_cells {B g n c : Nat} {l : List Ms} {w : World} (h : OM B (.slice (some ⟨g, 0, none⟩) n c) l w) (i : Nat) (hi : i < l.length) : B ≤ g ∧ ∀ j < 5, w.cell? ⟨g, i * 5 + j, none⟩ = (encM l[i])[j]? ∧ w.frozen? ⟨g, i * 5 + j, none⟩ = false := by
  obtain ⟨A', c', hv, -, hcell⟩ := OR.cells encM_E h
  injection hv with hv1 hv2 hv3
  obtain ⟨g', hg1, hBg, -, hcs⟩ := hcell.resolve_left (by rintro rfl; simp at hi)
  rw [← hv1] at hg1
  injection hg1 with hg1
  injection hg1 with hg1
  subst hg1
  exact ⟨hBg, hcs i hi⟩
set_option maxHeartbeats 8000000 in
theorem bent_any (b : Nat) (v : Value) (l : List Ms) (B : Nat) (w : World) (hv : OM B v l w) (hB : ∀ k, v.ownBlock = some k → k ≠ b) (hs : l.length ≤ 1000 ∧ ∀ m ∈ l, m.who.length ≤ 1000000 ∧ m.text.length ≤ 1000000) (ht : TapeOK b w) : Calls Tryz.prog 18 #[.pointer (some ⟨b, 0, none⟩), v] w (BentPost b w) := by
  obtain ⟨A, c, rfl, -, -⟩ := MC.of_own hv
  have hbw := ht.lt
  have HV := Lib.hid hv
  have HS := Lib.hid hs
  have hl := hs.1
  clear hv hs
  go_enter Tryz.func18, Tryz.ntmps18
  go_upto_region 1 with fail
  refine wp_region_facts (factB b w) (fun _ w' => TapeOK b w' ∧ Fr b w w') (by kernel_rfl) (by kernel_rfl) (by kernel_rfl) ⟨ht.below (Below.refl _ _).drew, (Fr.refl _ _).drew⟩ ?_ ?_
  · refine FSteps.cons ?_ (FSteps.cons ?_ (FSteps.cons ?_ (FSteps.cons ?_ (FSteps.cons ?_ (FSteps.cons ?_ (FSteps.cons ?_ (FSteps.cons ?_ (FSteps.cons ?_ (FSteps.cons ?_ (FSteps.cons ?_ (FSteps.cons ?_ (FSteps.cons ?_ (FSteps.cons ?_ (FSteps.cons ?_ (FSteps.cons ?_ (FSteps.cons ?_ (FSteps.cons ?_ (FSteps.cons ?_ FSteps.nil))))))))))))))))))
    all_goals (intro f v w0 h0 hpre hE hF hcl hU hS K hK; simp only [putAll, Act.put, List.setIfInBounds_toArray, List.set_cons_zero, List.set_cons_succ, Nat.zero_add, Nat.reduceAdd] at hK ⊢)
    · go_wp2_with fail
      exact hK.out _ _ hS (fun j _ _ h => factB_later (by decide) hbw (Fr.refl _ _) j _ h) rfl
    · have e0 : v 0 = _ := hE.1 rfl
      rw [e0] at hK ⊢
      go_wp2_with fail
      refine (between_any b 0 4 _ (by omega) (by omega) (by omega) (by omega) hS.1).mono ?_
      rintro e w1 ⟨q, rfl, q0, q1, htN, hfN⟩
      go_wp2_with fail
      exact hK.out _ _ ⟨htN, hS.2.trans hfN⟩ (fun j _ _ h => factB_later (by decide) hbw hfN j _ h) ⟨q, rfl⟩
    · go_wp2_with fail
      exact hK.out _ _ hS (fun j _ _ h => factB_later (by decide) hbw (Fr.refl _ _) j _ h) rfl
    · have e2 : v 2 = _ := hE.1 rfl
      rw [e2] at hK ⊢
      go_wp2_with fail
      refine (between_any b 0 4 _ (by omega) (by omega) (by omega) (by omega) hS.1).mono ?_
      rintro e w1 ⟨q, rfl, q0, q1, htN, hfN⟩
      go_wp2_with fail
      exact hK.out _ _ ⟨htN, hS.2.trans hfN⟩ (fun j _ _ h => factB_later (by decide) hbw hfN j _ h) ⟨q, rfl⟩
    · go_wp2_with fail
      have hb1 : Below w0.heap.size w0 (w0.alloc (.cells #[.string ⟨#[97, 110, 110]⟩, .string ⟨#[]⟩, .string ⟨#[97, 32, 98]⟩] 9)) := (Below.refl _ _).alloc (Nat.le_refl _) _
      exact hK.out _ _ ⟨hS.1.below hb1, hS.2.trans (Fr.of_below hb1)⟩ (fun j _ _ h => factB_later (by decide) hbw (Fr.of_below hb1) j _ h) ⟨w0.heap.size, rfl, hS.2.size, fun _ => three_new w0 _ _ _ _ (by decide) (by decide) (by decide)⟩
    · go_wp2_with fail
      exact hK.out _ _ hS (fun j _ _ h => factB_later (by decide) hbw (Fr.refl _ _) j _ h) rfl
    · have e5 : v 5 = _ := hE.1 rfl
      rw [e5] at hK ⊢
      go_wp2_with fail
      refine (next_any b 3 _ (by omega) (by omega) hS.1).mono ?_
      rintro e w1 ⟨q, rfl, q0, q1, htN, hfN⟩
      go_wp2_with fail
      exact hK.out _ _ ⟨htN, hS.2.trans hfN⟩ (fun j _ _ h => factB_later (by decide) hbw hfN j _ h) ⟨q.toNat, by omega, by rw [Int.toNat_of_nonneg q0]⟩
    · have h18 := closed_not hcl 8 18 7 (by kernel_rfl) h0
      obtain ⟨g, e1, hg, hc⟩ := hE.1 rfl
      obtain ⟨q, hq, e3⟩ := hE.2.1 rfl
      obtain ⟨s, hs, hcs⟩ := hc h18 q hq
      rw [e1, e3] at hK ⊢
      have hq0 : (0 : Int) ≤ (q : Int) := by omega
      have hq1 : (q : Int) < 3 := by omega
      have hqn : (q : Int).toNat = q := by omega
      have HCS := Lib.hid hcs
      clear hcs hc hE hF
      go_wp2_with fail
      exact hK.out _ _ hS (fun j _ _ h => factB_later (by decide) hbw (Fr.refl _ _) j _ h) ⟨g, q, s, hs, rfl, hg, fun _ => HCS.out⟩
    · have h18 := closed_not hcl 8 18 8 (by kernel_rfl) h0
      obtain ⟨g, q, s, hs, e4, hg, hc⟩ := hE.1 rfl
      have hc5 := hc h18
      rw [e4] at hK ⊢
      clear hc hE hF
      go_wp2_with fail
      exact hK.out _ _ hS (fun j _ _ h => factB_later (by decide) hbw (Fr.refl _ _) j _ h) ⟨s, hs, rfl⟩
    · go_wp2_with fail
      exact hK.out _ _ hS (fun j _ _ h => factB_later (by decide) hbw (Fr.refl _ _) j _ h) rfl
    · have e9 : v 9 = _ := hE.1 rfl
      rw [e9] at hK ⊢
      go_wp2_with fail
      refine (between_any b (-1) 30 _ (by omega) (by omega) (by omega) (by omega) hS.1).mono ?_
      rintro e w1 ⟨q, rfl, q0, q1, htN, hfN⟩
      go_wp2_with fail
      exact hK.out _ _ ⟨htN, hS.2.trans hfN⟩ (fun j _ _ h => factB_later (by decide) hbw hfN j _ h) ⟨q, rfl⟩
    · go_wp2_with fail
      have hb1 : Below w0.heap.size w0 (w0.alloc (.cells #[.string ⟨#[]⟩, .string ⟨#[120]⟩] 9)) := (Below.refl _ _).alloc (Nat.le_refl _) _
      exact hK.out _ _ ⟨hS.1.below hb1, hS.2.trans (Fr.of_below hb1)⟩ (fun j _ _ h => factB_later (by decide) hbw (Fr.of_below hb1) j _ h) ⟨w0.heap.size, rfl, hS.2.size, fun _ => two_new w0 _ _ _ (by decide) (by decide)⟩
    · go_wp2_with fail
      exact hK.out _ _ hS (fun j _ _ h => factB_later (by decide) hbw (Fr.refl _ _) j _ h) rfl
    · have e12 : v 12 = _ := hE.1 rfl
      rw [e12] at hK ⊢
      go_wp2_with fail
      refine (next_any b 2 _ (by omega) (by omega) hS.1).mono ?_
      rintro e w1 ⟨q, rfl, q0, q1, htN, hfN⟩
      go_wp2_with fail
      exact hK.out _ _ ⟨htN, hS.2.trans hfN⟩ (fun j _ _ h => factB_later (by decide) hbw hfN j _ h) ⟨q.toNat, by omega, by rw [Int.toNat_of_nonneg q0]⟩
    · have h18 := closed_not hcl 15 18 14 (by kernel_rfl) h0
      obtain ⟨g, e1, hg, hc⟩ := hE.1 rfl
      obtain ⟨q, hq, e3⟩ := hE.2.1 rfl
      obtain ⟨s, hs, hcs⟩ := hc h18 q hq
      rw [e1, e3] at hK ⊢
      have hq0 : (0 : Int) ≤ (q : Int) := by omega
      have hq1 : (q : Int) < 2 := by omega
      have hqn : (q : Int).toNat = q := by omega
      have HCS := Lib.hid hcs
      clear hcs hc hE hF
      go_wp2_with fail
      exact hK.out _ _ hS (fun j _ _ h => factB_later (by decide) hbw (Fr.refl _ _) j _ h) ⟨g, q, s, hs, rfl, hg, fun _ => HCS.out⟩
    · have h18 := closed_not hcl 15 18 15 (by kernel_rfl) h0
      obtain ⟨g, q, s, hs, e4, hg, hc⟩ := hE.1 rfl
      have hc5 := hc h18
      rw [e4] at hK ⊢
      clear hc hE hF
      go_wp2_with fail
      exact hK.out _ _ hS (fun j _ _ h => factB_later (by decide) hbw (Fr.refl _ _) j _ h) ⟨s, hs, rfl⟩
    · obtain ⟨k, e1⟩ := hE.1 rfl
      obtain ⟨i, e3⟩ := hE.2.1 rfl
      obtain ⟨s, hs, e8⟩ := hE.2.2.1 rfl
      obtain ⟨t, e10⟩ := hE.2.2.2.1 rfl
      obtain ⟨u, hu, e15⟩ := hE.2.2.2.2.1 rfl
      rw [e1, e3, e8, e10, e15] at hK ⊢
      clear hE hF
      go_wp2_with fail
      exact hK.out _ _ hS (fun j _ _ h => factB_later (by decide) hbw (Fr.refl _ _) j _ h) ⟨k, i, t, s, u, hs, hu, rfl⟩
    · have h18 := closed_not hcl 8 18 17 (by kernel_rfl) h0
      clear hE hF
      go_wp2_with fail
      have hb1 : Below w0.heap.size w0 (w0.alloc (.cells #[.int .i64 0, .int .i64 0, .string ⟨#[]⟩, .int .i64 0, .string ⟨#[]⟩] 43)) := (Below.refl _ _).alloc (Nat.le_refl _) _
      exact hK.out _ _ ⟨hS.1.below hb1, hS.2.trans (Fr.of_below hb1)⟩ (fun j _ _ h => factB_later (by decide) hbw (Fr.of_below hb1) j _ h) ⟨w0.heap.size, rfl, hS.2.size, fun _ => heap_alloc_new w0 _, fun h => by rw [upI_ne f (by decide), h18] at h; cases h⟩
    · obtain ⟨k, i, t, s, u, hs, hu, e16⟩ := hE.2.1 rfl
      obtain ⟨p, e17, hp, hz, -⟩ := hE.1 rfl
      have hzr : w0.heap[p]? = some msgZero := hz h0
      have hst := st5B hzr k i t s u
      rw [e16, e17] at hK ⊢
      have hpw : p < w0.heap.size := (Array.getElem?_eq_some_iff.1 hzr).1
      have HZ := Lib.hid hzr
      simp [go_sem] at hst
      clear hzr hz hE hF
      go_wp2_with fail
      exact hK.out undef _ ⟨tape_row hS.1 (by omega), fr_row hS.2 hp⟩ (fun j hj hfj h => factB_store hs hu HZ.out j _ hj (by rintro rfl; exact e17) h) trivial
  · intro f v w' hall hF hS
    obtain ⟨p, e17, hp, -, hc⟩ := hF 17 (by decide)
    obtain ⟨m, hm, hrow⟩ := hc (hall 18 (by decide))
    simp only [putAll, Act.put, List.setIfInBounds_toArray, List.set_cons_zero, List.set_cons_succ, Nat.zero_add, Nat.reduceAdd]
    rw [e17]
    have hbp : b < p := by omega
    have H8 := Lib.hid (And.intro hrow (And.intro hS.1 (And.intro hS.2 hm)))
    have hwW8 := hS.2.size
    clear hF hall hc hrow hS e17 hm
    obtain ⟨W8, hW8⟩ : ∃ W8 : World, W8 = w' := ⟨_, rfl⟩
    rw [← hW8] at H8 hwW8 ⊢
    clear hW8
    apply_assumption
    obtain ⟨i0, hi, hj0, hj1, hj2⟩ := info_parts info_msg
    have hv8 : OM B _ l W8 := OR.keep HV.out fun k hk => H8.out.2.2.1.block k (World.ownsRow.lt HV.out k hk).2 (by have := hB k hk; intro e; injection e; omega)
    have he8 := OR.empty (enc := encM) (n := 5) 43 W8
    have hb8 := (Below.refl W8.heap.size W8).alloc (Nat.le_refl _) (.cells #[] 43)
    go_upto_region 3 with (at_builtin; refine app_OR encM_E Tryz.underlying30 hi hj0 hj1 hj2 rfl (by omega) _ _ _ _ [] l W8.heap.size B rfl rfl rfl rfl he8 (OR.later hv8 hb8) (by simp) (by omega) (by simp) ?_; intro v9 w9 hown9 hb9'; rw [List.nil_append] at hown9; obtain ⟨A9, c9, rfl, -, -⟩ := MC.of_own hown9)
    have hb9 := hb8.trans hb9'
    clear hb9' he8 hb8 hv8
    have hw9 : W8.heap.size ≤ w9.heap.size := hb9.size
    have H9 := Lib.hid (show TapeOK b w9 ∧ Fr b w w9 ∧ w9.heap[p]? = some (msgRowM m) ∧ OM W8.heap.size (.slice A9 l.length c9) l w9 from ⟨H8.out.2.1.below hb9, H8.out.2.2.1.then (hb9.mono H8.out.2.2.1.size), (hb9.block p (Array.getElem?_eq_some_iff.1 H8.out.1).1).trans H8.out.1, hown9⟩)
    have hpW : p < W8.heap.size := (Array.getElem?_eq_some_iff.1 H8.out.1).1
    have HM := Lib.hid H8.out.2.2.2
    clear hb9 hown9 H8
    obtain ⟨W9, hW9⟩ : ∃ W9 : World, W9 = w9 := ⟨_, rfl⟩
    rw [← hW9] at H9 hw9 ⊢
    clear hW9
    go_cut [34] from 7 to 46 (fun v wx => ∃ t : Bool, v = .bool t ∧ Hid (t = true → 0 < l.length) ∧ TapeOK b wx ∧ Fr b W9 wx)
    case first =>
      by_cases hpos : 0 < l.length
      · have hd : decide ((0 : Int) < (l.length : Int)) = true := decide_eq_true (by omega)
        have hdn : decide (0 < l.length) = true := decide_eq_true hpos
        go_wp2_with fail
        refine (next_any b 2 _ (by omega) (by omega) H9.out.1).mono ?_
        rintro e w10 ⟨z, rfl, z0, z1, ht10, hf10⟩
        go_wp2_with fail
        go_meet
        exact ⟨_, rfl, fun _ => hpos, ht10, hf10⟩
      · have hd : decide ((0 : Int) < (l.length : Int)) = false := decide_eq_false (by omega)
        have hdn : decide (0 < l.length) = false := decide_eq_false hpos
        go_wp2_with fail
        go_meet
        exact ⟨false, rfl, fun h => (by cases h), H9.out.1, Fr.refl _ _⟩
    case rest =>
      obtain ⟨t, rfl, htt, ht10, hf10⟩ := hcut
      obtain ⟨W10, hW10⟩ : ∃ W10 : World, W10 = wc := ⟨_, rfl⟩
      rw [← hW10] at ht10 hf10 ⊢
      clear hW10
      have hw10 := hf10.size
      have HO := Lib.hid (show OM W8.heap.size (.slice A9 l.length c9) l W10 from OM.fr H9.out.2.2.2 hf10 (by omega))
      have HR := Lib.hid (show W10.heap[p]? = some (msgRowM m) from (hf10.block p (by omega) (by intro e; injection e; omega)).trans H9.out.2.2.1)
      have HF := Lib.hid (H9.out.2.1.trans hf10)
      have HT := Lib.hid ht10
      clear ht10 hf10 H9
      apply_assumption
      cases t with
      | true =>
        have hpos := htt.out rfl
        obtain ⟨g, hg⟩ : ∃ g, A9 = some ⟨g, 0, none⟩ := by
          obtain ⟨A', c', hv, -, hcell⟩ := OR.cells encM_E HO.out
          injection hv with hv1 hv2 hv3
          obtain ⟨g', hg1, -⟩ := hcell.resolve_left (by rintro rfl; simp at hpos)
          exact ⟨g', hv1.trans hg1⟩
        subst hg
        have hBg := (om_cells HO.out 0 hpos).1
        have hS0 : StS b p g l.length c9 W8.heap.size m w W10 := ⟨HT.out, HF.out, HR.out, l, HO.out, rfl, HS.out.2⟩
        have hlp : (0 : Int) < (l.length : Int) := by omega
        clear HT HF HR HO
        go_upto_region 4 with fail
        refine wp_region_facts (fun _ => factS b g l.length c9 m) (fun _ w' => StS b p g l.length c9 W8.heap.size m w w') (by kernel_rfl) (by kernel_rfl) (by kernel_rfl) ⟨hS0.1.below (Below.refl _ _).drew, hS0.2.1.drew, hS0.2.2⟩ ?_ ?_
        · refine FSteps.cons ?_ (FSteps.cons ?_ (FSteps.cons ?_ (FSteps.cons ?_ (FSteps.cons ?_ (FSteps.cons ?_ (FSteps.cons ?_ (FSteps.cons ?_ FSteps.nil)))))))
          all_goals (intro f v w0 h0 hpre hE hF hcl hU hS K hK; simp only [putAll, Act.put, List.setIfInBounds_toArray, List.set_cons_zero, List.set_cons_succ, Nat.zero_add, Nat.reduceAdd] at hK ⊢)
          · go_wp2_with fail
            exact hK.out _ _ hS (fun j _ _ h => h) rfl
          · go_wp2_with fail
            exact hK.out _ _ hS (fun j _ _ h => h) rfl
          · go_wp2_with fail
            exact hK.out _ _ hS (fun j _ _ h => h) rfl
          · have e2 : v 2 = _ := hE.1 rfl
            rw [e2] at hK ⊢
            go_wp2_with fail
            exact hK.out _ _ hS (fun j _ _ h => h) rfl
          · have e1 : v 1 = _ := hE.1 rfl
            have e3 : v 3 = _ := hE.2.1 rfl
            rw [e1, e3] at hK ⊢
            have HX := Lib.hid hS
            clear hS hE hF
            go_wp2_with fail
            refine (next_any b (l.length : Int) _ hlp (by omega) HX.out.1).mono ?_
            rintro e w1 ⟨q, rfl, q0, q1, htN, hfN⟩
            have hS1 : StS b p g l.length c9 W8.heap.size m w w1 := by
              obtain ⟨x1, x2, x3, l', x4, x5, x6⟩ := HX.out
              exact ⟨htN, x2.trans hfN, (hfN.block p (Array.getElem?_eq_some_iff.1 x3).1 (by intro e; injection e; omega)).trans x3, l', OM.fr x4 hfN (by omega), x5, x6⟩
            go_wp2_with fail
            exact hK.out _ _ hS1 (fun j _ _ h => factS_w h) ⟨q.toNat, by omega, by rw [Int.toNat_of_nonneg q0]⟩
          · obtain ⟨k0, k1, k2, k3, k4⟩ := msg_row hS.2.2.1
            have HX := Lib.hid hS
            clear hS hE hF
            go_wp2_with fail
            exact hK.out _ _ HX.out (fun j _ _ h => h) rfl
          · have e0 : v 0 = _ := hE.1 rfl
            obtain ⟨q, hq, e4⟩ := hE.2.1 rfl
            rw [e0, e4] at hK ⊢
            have hq0 : (0 : Int) ≤ (q : Int) := by omega
            have hq1 : (q : Int) < (l.length : Int) := by omega
            have hqn : (q : Int).toNat = q := by omega
            have HX := Lib.hid hS
            clear hS hE hF
            go_wp2_with fail
            exact hK.out _ _ HX.out (fun j _ _ h => h) ⟨q, hq, rfl⟩
          · obtain ⟨q, hq, e6⟩ := hE.1 rfl
            have e5 : v 5 = _ := hE.2.1 rfl
            obtain ⟨l', hO', hl', hb'⟩ := hS.2.2.2
            have hq' : q < l'.length := by omega
            have hcs := (om_cells hO' q hq').2
            obtain ⟨y0, z0⟩ := hcs 0 (by decide)
            obtain ⟨y1, z1⟩ := hcs 1 (by decide)
            obtain ⟨y2, z2⟩ := hcs 2 (by decide)
            obtain ⟨y3, z3⟩ := hcs 3 (by decide)
            obtain ⟨y4, z4⟩ := hcs 4 (by decide)
            generalize l'[q] = m' at *
            obtain ⟨kd, id, who, tm, tx⟩ := m'
            replace y0 : w0.cell? ⟨g, q * 5, none⟩ = some (.int .i64 kd) := y0
            replace z0 : w0.frozen? ⟨g, q * 5, none⟩ = false := z0
            replace y1 : w0.cell? ⟨g, q * 5 + 1, none⟩ = some (.int .i64 id) := y1
            replace y2 : w0.cell? ⟨g, q * 5 + 2, none⟩ = some (.string (bs who)) := y2
            replace y3 : w0.cell? ⟨g, q * 5 + 3, none⟩ = some (.int .i64 tm) := y3
            replace y4 : w0.cell? ⟨g, q * 5 + 4, none⟩ = some (.string (bs tx)) := y4
            rw [e5, e6] at hK ⊢
            have HX := Lib.hid hS
            have HO' := Lib.hid hO'
            have HB' := Lib.hid hb'
            clear hS hE hF hcs hO' hb'
            go_wp2_with fail
            refine hK.out undef _ ?_ (fun j _ _ h => factS_w h) trivial
            obtain ⟨x1, x2, x3, -⟩ := HX.out
            refine ⟨x1.keep fun k hk => ?_, ?_, ?_, l'.set q m, OM.set HO'.out q hq' m, by rw [List.length_set]; exact hl', fun x hx => ?_⟩
            · repeat rw [Below.heap_setCell _ _ _ _ (by dsimp only; omega)]
            · exact fr_set (fr_set (fr_set (fr_set (fr_set x2 (by omega)) (by omega)) (by omega)) (by omega)) (by omega)
            · repeat rw [Below.heap_setCell _ _ _ _ (by dsimp only; omega)]
              exact x3
            · rcases List.mem_or_eq_of_mem_set hx with h | h
              · exact HB'.out x h
              · rw [h]; have := HM.out; unfold ShortM at this; omega
        · intro f v w' hall hF hS
          simp only [putAll, Act.put, List.setIfInBounds_toArray, List.set_cons_zero, List.set_cons_succ, Nat.zero_add, Nat.reduceAdd]
          have HX := Lib.hid hS
          clear hF hall hS
          apply_assumption
          go_wp2_with fail
          go_ret
          obtain ⟨x1, x2, -, l', x4, x5, x6⟩ := HX.out
          have := x5
          exact ⟨_, l', rfl, OR.mono x4 hwW8, ⟨by omega, x6⟩, x1, x2⟩
      | false =>
        obtain ⟨k0, k1, k2, k3, k4⟩ := msg_row HR.out
        have hown := HO.out
        have hsz : W8.heap.size ≤ W10.heap.size := by omega
        go_wp2_with (at_builtin; refine app_one encM_E Tryz.underlying30 hi hj0 hj1 hj2 rfl (by omega) _ _ _ _ _ m _ _ rfl rfl rfl rfl rfl hown (by omega) hsz ?_; intro v13 w13 hown13 hb13)
        go_ret
        refine ⟨_, _, rfl, OR.mono hown13 hwW8, ⟨by simp; omega, fun x hx => ?_⟩, HT.out.below' hb13 (by omega), HF.out.then (hb13.mono (by have := HF.out.size; omega))⟩
        rcases List.mem_append.1 hx with h | h
        · exact HS.out.2 x h
        · rw [List.mem_singleton.1 h]
          have := HM.out
          unfold ShortM at this
          omega
end Go.Proofs.YtklnakjmiljmhaaGreatDoor
