/- Archives: the example's bytes. -/
import Derived.Test.YthmpcdjhighhgaaGreatDoorY33
import Derived.Test.YthmpcdjhighhgaaGreatDoorY27
import Derived.Test.YthmpcdjhighhgaaGreatDoorY15
import Derived.Deep.RegionHeld3
import Derived.Lib.SlBytesConst
import Derived.ArgAppend
namespace Go.Proofs.YthmpcdjhighhgaaGreatDoor
set_option linter.unusedVariables false
set_option linter.unusedSimpArgs false
set_option maxRecDepth 100000
open Go.RowKit
/-- The example's archive. -/
def arcB : List UInt8 := [65, 82, 67, 49, 1, 1, 97, 0, 0, 1, 0, 120]
theorem row_look {w : World} {g : Nat} {cs : Array Value} {e : TypeId} {z : Nat × Nat} (h : w.heap[g]? = some (.cells cs e z)) : ∀ j u, cs.toList[j]? = some u → w.cell? ((⟨g, 0, none⟩ : Addr).add j) = some u := by
  intro j u hu
  rw [Addr.add_lit, cell_of_row _ _ _ _ _ _ h]
  simpa using hu
/-- The same with what the row's growth leaves alone. -/
theorem step_app_u8G {P : Program} {T e : TypeId} {i0 : TypeInfo} (ht : P.underlying T = some (.slice e)) (hi : P.info? e = some i0) (hz0 : i0.zero = some (.int .u8 0)) (hz1 : i0.size = 1) (hz2 : i0.bytes = 1)
    {w : World} {ops : Array Oper} {o : Oper} {a : Act} {K : Act → World → Prop} {Q : Exit → Act → World → Prop} {E : Prop} (s x : Operand) (v : Value) (l : List UInt8) (c : Int) (u : UInt8) (B : Nat)
    (hgd : o.guard = none) (ho : o.op = .call { callee := .builtin .append, args := #[s, x], argTypes := #[T, T] })
    (hs : a.eval s = v) (hx : a.eval x = .slice (some ⟨w.heap.size, 0, none⟩) 1 1) (hown : OB e B v l w) (hu : c = u.toNat) (hl : l.length < 1000000000) (hB : B ≤ w.heap.size)
    (h : ∀ g cap w1, OB e B (.slice (some ⟨g, 0, none⟩) (l.length + 1) cap) (l ++ [u]) w1 → (w.alloc (.cells #[.int .u8 c] e)).grownBy w1 v.ownBlock → K (a.put o.dst (.slice (some ⟨g, 0, none⟩) (l.length + 1) cap)) w1) :
    if Region.wanted o (yielded ops a.tmps) = true then Oper.wp P o a (w.alloc (.cells #[.int .u8 c] e)) K Q else E := by
  subst hu
  refine step_append_lies _ hgd s x T ho B e i0 (.int .u8 0) 1 1 ht hi hz0 hz1 hz2 rfl (by decide) v l.length _ hs (World.ownsRow.alloc hown _) ⟨w.heap.size, 0, none⟩ 1 1 [.int .u8 u.toNat] hx rfl ?_ ?_ (by omega) ?_ ?_ ?_ (w.heap.size + 1) (by simp) ?_
  · intro j x hj
    match j, hj with
    | 0, hj => simp at hj; subst hj; simp [Addr.add]
  · intro x hx; simp at hx; subst hx; rfl
  · unfold maxLen; omega
  · omega
  · simp; omega
  · intro g cap w1 hown1 hg _ _
    exact h g cap w1 (by simpa [OB] using hown1) hg
/-- 'append(v, "text"...)' at such a step. -/
theorem step_app_textG {P : Program} {T e u : TypeId} {i0 : TypeInfo} (ht : P.underlying T = some (.slice e)) (hu : P.underlying u = some .string) (hi : P.info? e = some i0) (hz0 : i0.zero = some (.int .u8 0)) (hz1 : i0.size = 1) (hz2 : i0.bytes = 1)
    {w : World} {ops : Array Oper} {o : Oper} {a : Act} {K : Act → World → Prop} {Q : Exit → Act → World → Prop} {E : Prop} (s x : Operand) (v : Value) (l : List UInt8) (t : ByteArray) (B : Nat)
    (hgd : o.guard = none) (ho : o.op = .call { callee := .builtin .append, args := #[s, x], argTypes := #[T, u] })
    (hs : a.eval s = v) (hx : a.eval x = .string t) (hown : OB e B v l w) (hl : l.length + t.size < 1000000000) (hB : B ≤ w.heap.size)
    (h : ∀ v' w1, OB e B v' (l ++ bl t) w1 → w.grownBy w1 v.ownBlock → K (a.put o.dst v') w1) :
    if Region.wanted o (yielded ops a.tmps) = true then Oper.wp P o a w K Q else E := by
  have hw : Region.wanted o (yielded ops a.tmps) = true := by simp [Region.wanted, hgd]
  rw [if_pos hw]
  obtain ⟨v', w', hr, h2, h3, -⟩ := Lib.run_append_own_string (P := P) w B T u o.type e i0 ht hu hi hz0 hz1 hz2 v l.length _ hown t (by unfold maxLen; omega) (by omega) hB
  unfold Oper.wp execOp
  simp only [ho, resolve, invoke, builtin, Sem.run_bind, Sem.run_pure, Result.andThen_ok, List.map_toArray, List.map_cons, List.map_nil, hs, hx, hr]
  refine h v' w' ?_ h3
  show w'.ownsRow B e 1 v' (l ++ bl t).length ((l ++ bl t).map fun c => Value.int .u8 c.toNat)
  rw [List.length_append, size_list, List.map_append]
  exact h2
/-- 'append(v, row...)' at such a step, the row lying anywhere. -/
theorem step_app_cellsG {P : Program} {T e : TypeId} {i0 : TypeInfo} (ht : P.underlying T = some (.slice e)) (hi : P.info? e = some i0) (hz0 : i0.zero = some (.int .u8 0)) (hz1 : i0.size = 1) (hz2 : i0.bytes = 1)
    {w : World} {ops : Array Oper} {o : Oper} {a : Act} {K : Act → World → Prop} {Q : Exit → Act → World → Prop} {E : Prop} (s x : Operand) (v : Value) (l r : List UInt8) (ad : Addr) (m cap : Nat) (B : Nat)
    (hgd : o.guard = none) (ho : o.op = .call { callee := .builtin .append, args := #[s, x], argTypes := #[T, T] })
    (hs : a.eval s = v) (hx : a.eval x = .slice (some ad) m cap) (hm : m = r.length) (hr : 0 < m) (hown : OB e B v l w) (hc : ∀ j (h : j < r.length), w.cell? (ad.add j) = some (.int .u8 r[j].toNat)) (hl : l.length + r.length < 1000000000) (hB : B ≤ w.heap.size)
    (h : ∀ g cap w1, OB e B (.slice (some ⟨g, 0, none⟩) (l.length + m) cap) (l ++ r) w1 → w.grownBy w1 v.ownBlock → K (a.put o.dst (.slice (some ⟨g, 0, none⟩) (l.length + m) cap)) w1) :
    if Region.wanted o (yielded ops a.tmps) = true then Oper.wp P o a w K Q else E := by
  subst hm
  refine step_append_lies _ hgd s x T ho B e i0 (.int .u8 0) 1 1 ht hi hz0 hz1 hz2 rfl (by decide) v l.length _ hs hown ad r.length cap (r.map fun c => Value.int .u8 c.toNat) hx (by simp) ?_ (oneCell_bytes r) hr ?_ ?_ hB w.heap.size rfl ?_
  · intro j u hj
    rw [List.getElem?_map] at hj
    obtain ⟨y, hy, rfl⟩ := Option.map_eq_some_iff.1 hj
    obtain ⟨hjl, rfl⟩ := List.getElem?_eq_some_iff.1 hy
    exact hc j hjl
  · unfold maxLen; omega
  · omega
  · intro g cap w1 hown1 hg _ _
    exact h g cap w1 (by simpa [OB] using hown1) hg
theorem one120 {W : World} {ad : Addr} (h : W.cell? ad = some (.int .u8 120)) : ∀ j (h : j < [(120 : UInt8)].length), W.cell? (ad.add j) = some (.int .u8 ([(120 : UInt8)])[j].toNat) := by
  intro j hj
  obtain rfl : j = 0 := by simp at hj; omega
  exact (congrArg _ (show ad.add 0 = ad by cases ad with | mk x y z => cases z <;> simp [Addr.add])).trans h
/-- Between two operations of the writer: what was written, the entry's box. -/
def FmS (w : World) (b : Nat) (cs : Array Value) (v : Value) (l : List UInt8) (W : World) : Prop := OB 5 w.heap.size v l W ∧ W.heap[b]? = some (.cells cs 55 (0, 0)) ∧ Below w.heap.size w W
theorem FmS.grown {w : World} {b : Nat} {cs : Array Value} {v v' : Value} {l l' : List UInt8} {W W' : World} (h : FmS w b cs v l W) (ho : OB 5 w.heap.size v' l' W') (hg : W.grownBy W' v.ownBlock) : FmS w b cs v' l' W' := by
  obtain ⟨h1, h2, h3⟩ := h
  refine ⟨ho, (hg.block b (Array.getElem?_eq_some_iff.1 h2).1 (fun e => own_ne h1 h2 (by decide) e.symm)).trans h2, h3.grown hg h3.size (fun k hk => (h1.lt k hk).1)⟩
theorem FmS.later {w : World} {b : Nat} {cs : Array Value} {v : Value} {l : List UInt8} {W W' : World} (h : FmS w b cs v l W) (hb : Below W.heap.size W W') : FmS w b cs v l W' :=
  ⟨h.1.after hb, (hb.block b (Array.getElem?_eq_some_iff.1 h.2.1).1).trans h.2.1, h.2.2.trans (hb.mono h.2.2.size)⟩
theorem FmS.cell {w : World} {b : Nat} {cs : Array Value} {v : Value} {l : List UInt8} {W : World} (h : FmS w b cs v l W) (j : Nat) : W.cell? ⟨b, j, none⟩ = cs[j]? := by rw [cell_of_row _ _ _ _ _ _ h.2.1]
theorem FmS.size {w : World} {b : Nat} {cs : Array Value} {v : Value} {l : List UInt8} {W : World} (h : FmS w b cs v l W) : w.heap.size ≤ W.heap.size := h.2.2.size
set_option maxHeartbeats 4000000 in
theorem format1_any (g c : Nat) (ad : Addr) (c' : Nat) (w : World) (hc : 1 ≤ c) (hc' : 1 ≤ c') (hlt : g < w.heap.size) (hla : ad.block < w.heap.size) (h0 : w.cell? ⟨g, 0, none⟩ = some (.string ⟨#[97]⟩)) (h1 : w.cell? ⟨g, 1, none⟩ = some (.slice (some ad) 1 c')) (h2 : w.cell? ad = some (.int .u8 120)) :
    Calls Tryz.prog 14 #[.slice (some ⟨g, 0, none⟩) 1 c] w fun e w' => ∃ u, e = .returned (.tuple #[u, .int .i64 0]) ∧ OB 5 w.heap.size u arcB w' ∧ Below w.heap.size w w' := by
  obtain ⟨i0, hi, hz0, hz1, hz2⟩ := info_parts info_u8
  have kc := fun (w : World) (C : Array Value) (n c : Nat) => Lib.run_convert_bytes_const (P := Tryz.prog) w 30 5 C n c Tryz.underlying30 Tryz.underlying5
  have hlt0 := hlt
  have hla0 := hla
  go_enter Tryz.func14, Tryz.ntmps14
  go_wp2_with fail
  refine (valid1_any g c (some ad) c' w hc hlt0 h0 h1).mono ?_
  rintro e w1 ⟨rfl, hb1⟩
  have h0' := (hb1.cell (p := ⟨g, 0, none⟩) hlt0).trans h0
  have h1' := (hb1.cell (p := ⟨g, 1, none⟩) hlt0).trans h1
  have h2' := (World.cell?_of_block (hb1.block ad.block hla0)).trans h2
  have HB1 := Lib.hid hb1
  clear hb1 h0 h1 h2
  have r0 : ((w1.alloc (.cells #[.int .u8 65, .int .u8 82, .int .u8 67, .int .u8 49] 5 (4, 5))).alloc (.cells #[.int .u8 1] 5)).heap[w1.heap.size]? = some (.cells #[.int .u8 65, .int .u8 82, .int .u8 67, .int .u8 49] 5 (4, 5)) := by
    rw [Below.heap_alloc _ _ _ (by simp)]; exact heap_alloc_new w1 _
  have r1 : ((w1.alloc (.cells #[.int .u8 65, .int .u8 82, .int .u8 67, .int .u8 49] 5 (4, 5))).alloc (.cells #[.int .u8 1] 5)).heap[w1.heap.size + 1]? = some (.cells #[.int .u8 1] 5 (0, 0)) := by
    have := heap_alloc_new (w1.alloc (.cells #[.int .u8 65, .int .u8 82, .int .u8 67, .int .u8 49] 5 (4, 5))) (.cells #[.int .u8 1] 5)
    simpa using this
  have hb2 := ((HB1.out.alloc HB1.out.size (.cells #[.int .u8 65, .int .u8 82, .int .u8 67, .int .u8 49] 5 (4, 5))).alloc (by have := HB1.out.size; simp; omega) (.cells #[.int .u8 1] 5))
  have HB2 := Lib.hid hb2
  have l0 := row_look r0
  have l1 := row_look r1
  clear r0 r1 hb2
  go_wp2_with (at_builtin; go_loud (refine wpList_append_grows _ rfl _ _ _ rfl 5 i0 (.int .u8 0) 1 1 Tryz.underlying30 hi hz0 hz1 hz2 rfl (by decide) (some ⟨w1.heap.size, 0, none⟩) 4 4 [.int .u8 65, .int .u8 82, .int .u8 67, .int .u8 49] rfl (by intro e; cases e) rfl (by rintro b hb; injection hb with hb; subst hb; exact l0) ⟨w1.heap.size + 1, 0, none⟩ 1 1 [.int .u8 1] rfl rfl l1 (by simp [Value.oneCell']) (by decide) (by decide) (by decide) ?_); intro v1 w2 hown1 hg1)
  have ho1 : OB 5 w.heap.size v1 [65, 82, 67, 49, 1] w2 := obMono (show OB 5 _ v1 [65, 82, 67, 49, 1] w2 from hown1) HB2.out.size
  have hb3 := HB2.out.grown hg1 HB2.out.size (fun k hk => by cases hk)
  obtain ⟨A1, n1, c1, rfl⟩ := ho1.form_
  have h0 := (hb3.cell (p := ⟨g, 0, none⟩) hlt0).trans ((HB1.out.cell (p := ⟨g, 0, none⟩) hlt0).symm.trans h0')
  have h1 := (hb3.cell (p := ⟨g, 1, none⟩) hlt0).trans ((HB1.out.cell (p := ⟨g, 1, none⟩) hlt0).symm.trans h1')
  have HAD := Lib.hid (show ∀ W, Below w.heap.size w W → W.cell? ad = some (.int .u8 120) from fun W hW => (World.cell?_of_block (hW.block ad.block hla0)).trans ((World.cell?_of_block (HB1.out.block ad.block hla0)).symm.trans h2'))
  have F1 : FmS w w2.heap.size #[.string ⟨#[97]⟩, .slice (some ad) 1 c'] (.slice A1 n1 c1) [65, 82, 67, 49, 1] (w2.alloc (.cells #[.string ⟨#[97]⟩, .slice (some ad) 1 c'] 55)) := ⟨ho1.after ((Below.refl _ _).alloc (Nat.le_refl _) _), heap_alloc_new w2 _, hb3.alloc hb3.size _⟩
  have HLA := Lib.hid hla0
  have HLC := Lib.hid hc'
  clear h0' h1' h2' hown1 hg1 l0 l1 kc ho1 hb3 hlt hla hlt0 hla0 hc hc' HB1 HB2
  refine wp_loop_rounds 2 ?_
  rw [rounds_succ]
  go_wp2_with fail
  generalize hWA : w2.alloc (.cells #[.string ⟨#[97]⟩, .slice (some ad) 1 c'] 55) = WA at *
  clear hWA
  have F1d := F1.later (Below.refl _ _).drew
  have hw8 : IntKind.u8.wrap 1 = 1 := by rfl
  have x10 : WA.cell? ⟨w2.heap.size, 0, none⟩ = some (.string ⟨#[97]⟩) := F1.cell 0
  go_region_held3 (fun w' => w'.cell? ⟨w2.heap.size, 0, none⟩ = some (.string ⟨#[97]⟩))
    (first | go_keep | exact x10 | exact x30 | exact x20)
    (first
      | (refine step_app_u8G Tryz.underlying30 hi hz0 hz1 hz2 _ _ _ [65, 82, 67, 49, 1] 1 (1 : UInt8) w.heap.size (by rfl) (by rfl) (by rfl) (by rfl) F1d.1 rfl (by decide) F1d.size ?_; intro g2 c2 w3 ho2 hg2; have F2 := (F1d.later ((Below.refl _ _).alloc (Nat.le_refl _) _)).grown ho2 hg2; have x20 : w3.cell? ⟨w2.heap.size, 0, none⟩ = some (.string ⟨#[97]⟩) := F2.cell 0)
      | (refine step_app_textG Tryz.underlying30 Tryz.underlying9 hi hz0 hz1 hz2 _ _ _ ([65, 82, 67, 49, 1] ++ [1]) ⟨#[97]⟩ w.heap.size (by rfl) (by rfl) (by rfl) (by rfl) F2.1 (by decide) F2.size ?_; intro v3 w4 ho3 hg3; have F3 := F2.grown ho3 hg3; have x30 : w4.cell? ⟨w2.heap.size, 0, none⟩ = some (.string ⟨#[97]⟩) := F3.cell 0))
  obtain ⟨A3, n3, c3, rfl⟩ := F3.1.form_
  have x31 : w4.cell? ⟨w2.heap.size, 1, none⟩ = some (.slice (some ad) 1 c') := F3.cell 1
  clear F1 F1d F2 x10 x20 ho2 hg2 ho3 hg3
  go_wp2_with fail
  refine (three1_any w4).mono ?_
  rintro e w5 ⟨u3, rfl, hu3, hb5⟩
  have F4 := F3.later hb5
  clear F3 x30 x31
  obtain ⟨A4, n4, c4, rfl⟩ := hu3.form_
  go_wp2_with (at_builtin; refine app_OBG Tryz.underlying30 hi hz0 hz1 hz2 _ _ _ _ ([65, 82, 67, 49, 1] ++ [1] ++ bl ⟨#[97]⟩) [0, 0, 1] w.heap.size w4.heap.size rfl rfl rfl rfl F4.1 hu3 (by decide) F4.size ?_; intro v6 w6 ho6 hg6; have F6 := F4.grown ho6 hg6; obtain ⟨A6, n6, c6, rfl⟩ := ho6.form_; have x61 : w6.cell? ⟨w2.heap.size, 1, none⟩ = some (.slice (some ad) 1 c') := F6.cell 1; clear hu3 hb5 F4 ho6 hg6)
  refine (pack1_any ad c' w6 HLC.out (Nat.lt_of_lt_of_le HLA.out F6.size) (HAD.out w6 F6.2.2)).mono ?_
  rintro e w7 ⟨u7, rfl, hu7, hb7⟩
  have F7 := F6.later hb7
  have x71 : w7.cell? ⟨w2.heap.size, 1, none⟩ = some (.slice (some ad) 1 c') := F7.cell 1
  obtain ⟨A7, c7, rfl⟩ : ∃ A7 c7, u7 = .slice A7 2 c7 := by
    rcases hu7.2 with ⟨-, h0⟩ | ⟨g7, c7, -, e7, -⟩
    · simp at h0
    · exact ⟨_, _, e7⟩
  clear F6 x61 hu7 hb7
  go_wp2_with fail
  have F7d := F7.later (Below.refl _ _).drew
  go_region_held3 (fun w' => w'.cell? ⟨w2.heap.size, 1, none⟩ = some (.slice (some ad) 1 c'))
    (first | go_keep | exact x71 | exact x91 | exact x81)
    (first
      | (refine step_app_u8G Tryz.underlying30 hi hz0 hz1 hz2 _ _ _ ([65, 82, 67, 49, 1] ++ [1] ++ bl ⟨#[97]⟩ ++ [0, 0, 1]) 0 (0 : UInt8) w.heap.size (by rfl) (by rfl) (by rfl) (by rfl) F7d.1 rfl (by decide) F7d.size ?_; intro g8 c8 w8 ho8 hg8; have F8 := (F7d.later ((Below.refl _ _).alloc (Nat.le_refl _) _)).grown ho8 hg8; have x81 : w8.cell? ⟨w2.heap.size, 1, none⟩ = some (.slice (some ad) 1 c') := F8.cell 1)
      | (refine step_app_cellsG Tryz.underlying30 hi hz0 hz1 hz2 _ _ _ ([65, 82, 67, 49, 1] ++ [1] ++ bl ⟨#[97]⟩ ++ [0, 0, 1] ++ [0]) [120] ad 1 _ w.heap.size (by rfl) (by rfl) (by rfl) (by rfl) rfl (by decide) F8.1 (one120 (HAD.out w8 F8.2.2)) (by decide) F8.size ?_; intro g9 c9 w9 ho9 hg9; have F9 := F8.grown ho9 hg9; have x91 : w9.cell? ⟨w2.heap.size, 1, none⟩ = some (.slice (some ad) 1 c') := F9.cell 1))
  have H9 := Lib.hid F9
  clear F7 F7d F8 F9 x71 x81 x91 ho8 hg8 ho9 hg9
  go_wp2_with fail
  rw [rounds_succ]
  go_wp2_with fail
  go_ret2
  exact ⟨_, rfl, H9.out.1, H9.out.2.2⟩
end Go.Proofs.YthmpcdjhighhgaaGreatDoor
