/- Walks: what the code reads out of bytes. · Walk: the lines of messages, by the reference. Conditions: not absurdly many messages. -/
import Derived.Test.YtklnakjmiljmhaaGreatDoorY28
import Derived.Test.YtklnakjmiljmhaaGreatDoorY11
import Derived.Test.YtklnakjmiljmhaaGreatDoorY06
import Derived.Test.YtklnakjmiljmhaaGreatDoorY27
import Derived.Test.YtklnakjmiljmhaaGreatDoorY23
import Derived.Test.YtklnakjmiljmhaaGreatDoorY12
import Derived.Test.YtklnakjmiljmhaaGreatDoorY20
import Derived.Test.YtklnakjmiljmhaaGreatDoorY17
namespace Go.Proofs.YtklnakjmiljmhaaGreatDoor
set_option linter.unusedVariables false
set_option linter.unusedSimpArgs false
set_option maxRecDepth 100000
open Go.RowKit Go.Shelf
attribute [local go_sem] Oper.semAt_some
/-- Between two rounds: what was read so far, in a box; the results' cells. -/
def PaI (w : World) (pre : List Ln) (W : World) : Prop :=
  ∃ o v, readG (lnL pre) [] = some o ∧ SmO o ∧ W.heap[w.heap.size + 2]? = some (.cells #[v] 30 (0, 0)) ∧ OM (w.heap.size + 4) v o W ∧ W.heap[w.heap.size]? = some (.cells #[.slice none 0 0] 30 (0, 0)) ∧
    W.heap[w.heap.size + 1]? = some (.cells #[.int .i64 0] 27 (0, 0)) ∧ Below w.heap.size w W ∧ w.heap.size + 4 ≤ W.heap.size
/-- The reading has ended early. -/
def PaX (w : World) (pre : List Ln) (W : World) : Prop :=
  readG (lnL pre) [] = none ∧ W.heap[w.heap.size]? = some (.cells #[.slice none 0 0] 30 (0, 0)) ∧ W.heap[w.heap.size + 1]? = some (.cells #[.int .i64 10] 27 (0, 0)) ∧ Below w.heap.size w W
theorem grown_lt {W W' : World} {row : Option Nat} {B k : Nat} {ob : Obj} (hg : W.grownBy W' row) (hr : ∀ r, row = some r → B ≤ r ∧ ∃ o : Obj, W.heap[r]? = some o ∧ o.isCells = false) (hk : k < B) (h : W.heap[k]? = some ob) : W'.heap[k]? = some ob :=
  (hg.block k (Array.getElem?_eq_some_iff.1 h).1 (fun e => by have := (hr k e.symm).1; omega)).trans h
theorem PaI.own (w : World) : OwnFrom (w.heap.size + 4) (PaI w) := by
  rintro s W W' row ⟨o, v, h1, h2, h3, h4, h5, h6, h7, h8⟩ hg hr
  refine ⟨o, v, h1, h2, grown_lt hg hr (by omega) h3, h4.keep (fun k hk => ?_), grown_lt hg hr (by omega) h5, grown_lt hg hr (by omega) h6, h7.grown hg h7.size (fun k hk => by have := (hr k hk).1; omega), Nat.le_trans h8 hg.size⟩
  obtain ⟨-, ob, q1, q2⟩ := own_cells h4 k hk
  exact grownBy_keeps_cells hg (fun r e => (hr r e).2) q1 q2
theorem PaX.own (w : World) : OwnFrom (w.heap.size + 4) (PaX w) := by
  rintro s W W' row ⟨h1, h5, h6, h7⟩ hg hr
  exact ⟨h1, grown_lt hg hr (by omega) h5, grown_lt hg hr (by omega) h6, h7.grown hg h7.size (fun k hk => by have := (hr k hk).1; omega)⟩
theorem PaI.set (w : World) (s : List Ln) (A : World) (v : Value) (h : PaI w s A) : PaI w s (A.setCell ⟨w.heap.size + 1 + 1 + 1, 0, none⟩ v) := by
  obtain ⟨o, u, h1, h2, h3, h4, h5, h6, h7, h8⟩ := h
  have q : ∀ k, k ≠ w.heap.size + 3 → (A.setCell ⟨w.heap.size + 1 + 1 + 1, 0, none⟩ v).heap[k]? = A.heap[k]? := fun k hk => Below.heap_setCell _ _ _ _ (by dsimp only; omega)
  refine ⟨o, u, h1, h2, (q _ (by omega)).trans h3, h4.keep (fun k hk => q k ?_), (q _ (by omega)).trans h5, (q _ (by omega)).trans h6, h7.setCell (p := ⟨w.heap.size + 1 + 1 + 1, 0, none⟩) (by dsimp only; omega) _, by simpa [World.setCell] using h8⟩
  have := (own_cells h4 k hk).1; omega
set_option maxRecDepth 100000 in
set_option maxHeartbeats 2000000 in
theorem parse_any (v : Value) (l : List UInt8) (w : World) (hv : BIn w.heap.size w v l) (hl : l.length ≤ 1000000000) (hV : VrOK w) : Calls Tryz.prog 11 #[v] w (PsPost l w) := by
  have hv0 := hv
  obtain ⟨A, n, c, rfl, rfl, hnc, -⟩ := hv0
  by_cases hlim : 524288 < l.length
  · have hd : decide ((524288 : Int) < (l.length : Int)) = true := decide_eq_true (by omega)
    have hdn : decide (524288 < l.length) = true := decide_eq_true hlim
    have HE := Lib.hid (show parseE l = 3 ∧ parseO l = [] by unfold parseE parseO; rw [if_pos hlim, if_pos hlim]; exact ⟨rfl, rfl⟩)
    clear hv hV hlim
    go_enter Tryz.func11, Tryz.ntmps11
    go_wp2_with fail
    refine bodyPost_ret (v := .tuple #[.slice none 0 0, .int .i64 3]) (by simp [results, Tryz.results11, go_sem]; try rfl) rfl ?_
    exact ⟨_, by rw [HE.out.1], by rw [HE.out.2]; exact OR.nil_ _ _ _, ((Below.refl _ w).alloc (Nat.le_refl _) _).alloc (by simp) _⟩
  · have hd : decide ((524288 : Int) < (l.length : Int)) = false := decide_eq_false (by omega)
    have hdn : decide (524288 < l.length) = false := decide_eq_false hlim
    have hcv := (hv.later ((((Below.refl _ w).alloc (Nat.le_refl _) (.cells #[.slice none 0 0] 30)).alloc (by simp) (.cells #[.int .i64 0] 27)).alloc (by simp; omega) (.cells #[.slice none 0 0] 30))).conv (P := Tryz.prog) (T := 23) (d := 9) Tryz.underlying23 Tryz.underlying5 Tryz.underlying9
    refine (callsIn_wide (n := 9)).1 ?_
    refine callsIn_of_wp_marks Tryz.func11 rfl trivial ?_ rfl
    simp only [Tryz.ntmps11, List.size_toArray, List.length_cons, List.length_nil, Nat.reduceAdd, Nat.reduceSub, Array.replicate_succ, Array.replicate_zero, List.push_toArray, List.append_toArray, List.nil_append, List.cons_append]
    gi_wp2_with (refine ⟨trivial, ?_⟩; gi_at_call 31; refine (lines_in _ _ trivial rfl _ _).mono ?_; rintro e w' ⟨rfl, rfl⟩)
    generalize hw0 : ((((w.alloc (Obj.cells #[Value.slice none 0 0] 30)).alloc (Obj.cells #[Value.int IntKind.i64 0] 27)).alloc (Obj.cells #[Value.slice none 0 0] 30)).alloc (Obj.cells #[Value.string (bs l)] 9)) = w0
    have hsz : w0.heap.size = w.heap.size + 4 := by rw [← hw0]; simp
    have hb0 : Below w.heap.size w w0 := by rw [← hw0]; exact (((((Below.refl _ w).alloc (Nat.le_refl _) _).alloc (by simp) _).alloc (by simp; omega) _).alloc (by simp; omega) _)
    have hr0 : w0.heap[w.heap.size]? = some (.cells #[.slice none 0 0] 30 (0, 0)) := by
      rw [← hw0, Below.heap_alloc _ _ _ (by simp; omega), Below.heap_alloc _ _ _ (by simp; omega), Below.heap_alloc _ _ _ (by simp)]; exact World.alloc_heap_new w _
    have hr1 : w0.heap[w.heap.size + 1]? = some (.cells #[.int .i64 0] 27 (0, 0)) := by
      rw [← hw0, Below.heap_alloc _ _ _ (by simp), Below.heap_alloc _ _ _ (by simp)]
      rw [show w.heap.size + 1 = (w.alloc (Obj.cells #[Value.slice none 0 0] 30)).heap.size by simp]; exact World.alloc_heap_new _ _
    have hr2 : w0.heap[w.heap.size + 2]? = some (.cells #[.slice none 0 0] 30 (0, 0)) := by
      rw [← hw0, Below.heap_alloc _ _ _ (by simp)]
      rw [show w.heap.size + 2 = ((w.alloc (Obj.cells #[Value.slice none 0 0] 30)).alloc (Obj.cells #[Value.int IntKind.i64 0] 27)).heap.size by simp]; exact World.alloc_heap_new _ _
    have hr3 : w0.heap[w.heap.size + 1 + 1 + 1]? = some (.cells #[.string (bs l)] 9 (0, 0)) := by
      rw [← hw0]
      rw [show w.heap.size + 1 + 1 + 1 = (((w.alloc (Obj.cells #[Value.slice none 0 0] 30)).alloc (Obj.cells #[Value.int IntKind.i64 0] 27)).alloc (Obj.cells #[Value.slice none 0 0] 30)).heap.size by simp]; exact World.alloc_heap_new _ _
    have HV := Lib.hid hV
    have HBIN := Lib.hid hv
    clear hw0 hcv hV hv
    have hI0 : PaI w [] w0 := ⟨[], .slice none 0 0, rfl, ⟨by simp, fun m hm => by cases hm⟩, hr2, OR.nil_ _ _ _, hr0, hr1, hb0, by omega⟩
    refine wp_rangeBox rfl (by omega) (gf := 59) (lb := #[.pointer (some ⟨w.heap.size + 1 + 1 + 1, 0, none⟩)]) rfl trivial (enters_of Tryz.func59 (by kernel_rfl) rfl) (b := w.heap.size + 1 + 1 + 1) (by omega)
      (lines1_seq _ (w.heap.size + 1 + 1 + 1) (by omega) (bs l) (by rw [size_bs]; omega) w0 (by omega) (by rw [cell_of_row _ _ _ _ _ _ hr3]; rfl) (by simp [World.frozen?, hr3])) (fun _ => rfl)
      (PaI w) (PaX w) (hsz ▸ PaI.own w) (hsz ▸ PaX.own w) (PaI.set w) hI0
      (fun x => { tmps := #[.slice A l.length c, undef, .pointer (some ⟨w.heap.size, 0, none⟩), .pointer (some ⟨w.heap.size + 1, 0, none⟩), .pointer (some ⟨w.heap.size + 1 + 1, 0, none⟩), .string x.1, undef, undef, .slice A l.length c, .int .i64 (l.length : Int), .bool false, .slice A l.length c, .string (bs l),
        .func (.func 59) #[] #[.pointer (some ⟨w.heap.size + 1 + 1 + 1, 0, none⟩)], .string x.1, undef, undef, undef, undef, undef, undef, undef, undef, undef, undef, undef, undef, undef, undef, undef, undef, undef, undef, undef, undef, undef, undef, undef, undef, undef, undef, undef], defers := [] }) ?assign ?body ?done ?stop
    case assign =>
      intro q x W K hK
      gi_wp2
      exact hK
    case body =>
      rintro q pre x W ⟨o, u, h1, h2, h3, h4, h5, h6, h7, h8⟩ hpre hsW
      have RD : Calls Tryz.prog 32 #[.string x.1] W (RdPost (lineC (chopN (bl x.1))) W) := read_any (bl x.1) W (HV.out.later h7) (by rw [size_list]; exact x.2)
      gi_wp2_with fail
      refine ⟨trivial, (CallsIn.inRound q (callsIn_wide.2 RD)).mono ?_⟩
      rintro e w1 ⟨⟨m, bb, rfl, hbb⟩, hb1⟩
      have hsnoc : readG (lnL (pre ++ [x])) [] = readG [bl x.1] o := by rw [lnL_app, readG_app, h1]; rfl
      obtain ⟨Au, cu, rfl, hcu, -⟩ := OR.cells encM_E h4
      have k2 := (hb1.block _ (by omega)).trans h3
      have k0 := (hb1.block _ (by omega)).trans h5
      have k1 := (hb1.block _ (by omega)).trans h6
      have hown1 := h4.later hb1
      have hbw := h7.trans (hb1.mono h7.size)
      have hko : KeepsOthers W w1 := ⟨hb1.size, fun k ob hk _ => (hb1.block k (Array.getElem?_eq_some_iff.1 hk).1).trans hk⟩
      have hs1 : w.heap.size + 4 ≤ w1.heap.size := Nat.le_trans h8 hb1.size
      have hS1 : w1.heap[w.heap.size + 1 + 1 + 1]? = W.heap[w.heap.size + 1 + 1 + 1]? := hb1.block _ (by omega)
      have c2 : w1.cell? ⟨w.heap.size + 1 + 1, 0, none⟩ = some (.slice Au o.length cu) := by rw [cell_of_row _ _ _ _ _ _ k2]; rfl
      have f2 : w1.frozen? ⟨w.heap.size + 1 + 1, 0, none⟩ = false := by simp [World.frozen?, k2]
      have c0 : w1.cell? ⟨w.heap.size, 0, none⟩ = some (.slice none 0 0) := by rw [cell_of_row _ _ _ _ _ _ k0]; rfl
      have f0 : w1.frozen? ⟨w.heap.size, 0, none⟩ = false := by simp [World.frozen?, k0]
      have c1 : w1.cell? ⟨w.heap.size + 1, 0, none⟩ = some (.int .i64 0) := by rw [cell_of_row _ _ _ _ _ _ k1]; rfl
      have f1 : w1.frozen? ⟨w.heap.size + 1, 0, none⟩ = false := by simp [World.frozen?, k1]
      have hret : ∀ W', W'.heap[w.heap.size]? = some (.cells #[.slice none 0 0] 30 (0, 0)) → W'.heap[w.heap.size + 1]? = some (.cells #[.int .i64 10] 27 (0, 0)) → Below w.heap.size w W' → readG [bl x.1] o = none → PaX w (pre ++ [x]) W' := fun W' q1 q2 q3 q4 => ⟨hsnoc.trans q4, q1, q2, q3⟩
      have hlt1 : w.heap.size < w1.heap.size := by omega
      have hlt2 : w.heap.size + 1 < w1.heap.size := by omega
      have hlt3 : w.heap.size + 1 + 1 < w1.heap.size := by omega
      have HX := Lib.hid (And.intro hsnoc (And.intro k2 (And.intro k0 (And.intro k1 (And.intro hown1 (And.intro hbw (And.intro hko (And.intro hs1 hS1))))))))
      have hfin : ∀ ob : Obj, readG [bl x.1] o = none → KeepsFrom (w.heap.size + 4) W (((w1.setCell ⟨w.heap.size, 0, none⟩ (.slice none 0 0)).setCell ⟨w.heap.size + 1, 0, none⟩ (.int .i64 10)).alloc ob) ∧ PaX w (pre ++ [x]) (((w1.setCell ⟨w.heap.size, 0, none⟩ (.slice none 0 0)).setCell ⟨w.heap.size + 1, 0, none⟩ (.int .i64 10)).alloc ob) := fun ob hR => by
        refine ⟨(((hko.trans (KeepsOthers.setCell _ _ _)).trans (KeepsOthers.setCell _ _ _)).trans (KeepsOthers.alloc _ ob)).from _, hret _ ?_ ?_ ?_ hR⟩
        · rw [Below.heap_alloc _ _ _ (by simp [World.setCell]; omega), Below.heap_setCell _ _ _ _ (by dsimp only; omega)]
          exact set_row k0 _
        · rw [Below.heap_alloc _ _ _ (by simp [World.setCell]; omega)]
          exact set_row ((Below.heap_setCell _ _ _ _ (by dsimp only; omega)).trans k1) _
        · exact ((hbw.setCell (p := ⟨w.heap.size, 0, none⟩) (Nat.le_refl _) _).setCell (p := ⟨w.heap.size + 1, 0, none⟩) (by dsimp only; omega) _).alloc (by simp [World.setCell]; omega) ob
      have HRT := Lib.hid hfin
      have HSM := Lib.hid h2
      have HO := Lib.hid hcu
      clear RD hsnoc k2 k0 k1 hown1 hbw hko hs1 hS1 hret hfin h1 h2 h3 h4 h5 h6 h7 h8 hr0 hr1 hr2 hr3 hI0 hb0 hcu hb1
      have HB := Lib.hid hbb
      clear hbb
      obtain ⟨mk, mi, mw, mt, mx⟩ := m
      have hN : readG [bl x.1] o = (match lineC (chopN (bl x.1)) with | none => none | some m => if o.length = 300 then none else some (o ++ [m])) := by rw [readG]; rfl
      have HN := Lib.hid hN; clear hN
      unfold encM
      dsimp only
      cases bb with
      | false =>
        have HR := Lib.hid (show readG [bl x.1] o = none by
          rcases HB.out with ⟨h, -⟩ | ⟨-, h⟩
          · cases h
          · rw [HN.out, h])
        gi_wp2_with fail
        exact HRT.out _ HR.out
      | true =>
        have HR := Lib.hid (show lineC (chopN (bl x.1)) = some ⟨mk, mi, mw, mt, mx⟩ by
          rcases HB.out with ⟨-, h⟩ | ⟨h, -⟩
          · exact h
          · cases h)
        by_cases h3 : o.length = 300
        · have d3 : ((o.length : Int) == 300) = true := by simp [h3]
          have d3n : (o.length == 300) = true := by simp [h3]
          have HR2 := Lib.hid (show readG [bl x.1] o = none by rw [HN.out, HR.out]; simp only; rw [if_pos h3])
          gi_wp2_with fail
          exact HRT.out _ HR2.out
        · have d3 : ((o.length : Int) == 300) = false := beq_eq_false_iff_ne.2 (by omega)
          have d3n : (o.length == 300) = false := beq_eq_false_iff_ne.2 h3
          have HR2 := Lib.hid (show readG [bl x.1] o = some (o ++ [⟨mk, mi, mw, mt, mx⟩]) by rw [HN.out, HR.out]; simp only; rw [if_neg h3])
          obtain ⟨i0, hi, hz0, hz1, hz2⟩ := info_parts info_msg
          obtain ⟨hsnoc, k2, k0, k1, hown1, hbw, hko, hs1, hS1⟩ := HX.out
          have hbd := HR.out
          have hol := HSM.out.1
          have hownA := hown1.later ((Below.refl _ _).alloc (Nat.le_refl _) (.cells #[.int .i64 mk, .int .i64 mi, .string (bs mw), .int .i64 mt, .string (bs mx)] 43))
          have hsA : w.heap.size + 4 ≤ (w1.alloc (.cells #[.int .i64 mk, .int .i64 mi, .string (bs mw), .int .i64 mt, .string (bs mx)] 43)).heap.size := by simp; omega
          have HBL := Lib.hid (fun (w3 : World) (hb3 : Below (w.heap.size + 4) (w1.alloc (.cells #[.int .i64 mk, .int .i64 mi, .string (bs mw), .int .i64 mt, .string (bs mx)] 43)) w3) (k : Nat) (hk : k < w.heap.size + 4) => (hb3.block k hk).trans (Below.heap_alloc w1 (.cells #[.int .i64 mk, .int .i64 mi, .string (bs mw), .int .i64 mt, .string (bs mx)] 43) k (by omega)))
          have HYY := Lib.hid (And.intro hsnoc (And.intro k2 (And.intro k0 (And.intro k1 (And.intro hbw (And.intro hko (And.intro hs1 (And.intro hS1 hbd))))))))
          clear hsnoc k2 k0 k1 hown1 hbw hko hs1 hS1 hbd HX HRT
          gi_wp2_with (gi_at_builtin; refine app_oneIn encM_E Tryz.underlying30 hi hz0 hz1 hz2 rfl (by decide) _ _ _ _ o ⟨mk, mi, mw, mt, mx⟩ _ (w.heap.size + 4) _ (by simp) rfl rfl rfl rfl rfl hownA (by omega) hsA ?_; intro v1 w3 hown3 hg3 hb3; obtain ⟨A1, c1', rfl, hc1', -⟩ := OR.cells encM_E hown3; have r2 := (HBL.out w3 hb3 (w.heap.size + 2) (by omega)).trans HYY.out.2.1; have c2' : w3.cell? ⟨w.heap.size + 1 + 1, 0, none⟩ = some (.slice Au o.length cu) := (by rw [cell_of_row _ _ _ _ _ _ r2]; rfl); have f2' : w3.frozen? ⟨w.heap.size + 1 + 1, 0, none⟩ = false := (by simp [World.frozen?, r2]); have HR2' := Lib.hid r2; clear r2)
          obtain ⟨hsnoc, k2, k0, k1, hbw, hko, hs1, hS1, hbd⟩ := HYY.out
          obtain ⟨hbd1, hbd2⟩ := lineC_bd hbd
          have hxl := x.2
          have hcl := chopN_len (bl x.1)
          rw [size_list] at hcl
          have hne3 : ∀ k, k ≠ w.heap.size + 2 → (w3.setCell ⟨w.heap.size + 1 + 1, 0, none⟩ (.slice A1 (o.length + 1) c1')).heap[k]? = w3.heap[k]? := fun k hk => Below.heap_setCell _ _ _ _ (by dsimp only; omega)
          have hb3' := (hbw.alloc (by omega) (.cells #[.int .i64 mk, .int .i64 mi, .string (bs mw), .int .i64 mt, .string (bs mx)] 43)).trans (hb3.mono (by omega))
          refine ⟨?_, ?_, o ++ [⟨mk, mi, mw, mt, mx⟩], .slice A1 (o.length + 1) c1', hsnoc.trans HR2.out, HSM.out.snoc h3 (by omega) (by omega), set_row HR2'.out _, ?_, ?_, ?_, hb3'.setCell (p := ⟨w.heap.size + 1 + 1, 0, none⟩) (by dsimp only; omega) _, ?_⟩
          · refine KeepsOthers.from ((((hko.trans (KeepsOthers.alloc _ _)).trans (KeepsOthers.alloc _ _)).trans (KeepsOthers.of_grownBy hg3 (fun j ob hj ho => ?_))).trans (KeepsOthers.setCell _ _ _)) _
            obtain ⟨-, ob', q1, q2⟩ := own_cells hownA j hj
            rw [Below.heap_alloc _ _ _ (Array.getElem?_eq_some_iff.1 q1).1, q1] at ho
            cases ho; exact q2
          · rw [hne3 _ (by omega), HBL.out w3 hb3 _ (by omega), hS1]
          · have h5 : OM (w.heap.size + 4) (.slice A1 (o.length + 1) c1') (o ++ [⟨mk, mi, mw, mt, mx⟩]) w3 := by simpa using hown3
            exact h5.keep (fun k hk => hne3 k (by have := (own_cells h5 k hk).1; omega))
          · rw [hne3 _ (by omega), HBL.out w3 hb3 _ (by omega), k0]
          · rw [hne3 _ (by omega), HBL.out w3 hb3 _ (by omega), k1]
          · have := hb3.size; simp [World.setCell] at this ⊢; omega
    case done =>
      rintro D ys W hD hS ⟨o, u, h1, h2, h3, h4, h5, h6, h7, h8⟩ hK
      rw [hS, bl_bs] at h1
      have hMC := MC.of_own h4
      have VA := valid_any u o W hMC h2.small
      have c2 : W.cell? ⟨w.heap.size + 1 + 1, 0, none⟩ = some u := by rw [cell_of_row _ _ _ _ _ _ h3]; rfl
      have hVW := HV.out.later h7
      have hDlt := (Array.getElem?_eq_some_iff.1 hK).1
      obtain ⟨Au, cu, rfl, hcu, -⟩ := OR.cells encM_E h4
      have c0 : W.cell? ⟨w.heap.size, 0, none⟩ = some (.slice none 0 0) := by rw [cell_of_row _ _ _ _ _ _ h5]; rfl
      have f0 : W.frozen? ⟨w.heap.size, 0, none⟩ = false := by simp [World.frozen?, h5]
      have c1 : W.cell? ⟨w.heap.size + 1, 0, none⟩ = some (.int .i64 0) := by rw [cell_of_row _ _ _ _ _ _ h6]; rfl
      have f1 : W.frozen? ⟨w.heap.size + 1, 0, none⟩ = false := by simp [World.frozen?, h6]
      have HK := Lib.hid (fun (W' : World) (hb : Below W.heap.size W W') => show (W'.cell? ⟨w.heap.size, 0, none⟩ = some (.slice none 0 0) ∧ W'.frozen? ⟨w.heap.size, 0, none⟩ = false ∧ W'.cell? ⟨w.heap.size + 1, 0, none⟩ = some (.int .i64 0) ∧ W'.frozen? ⟨w.heap.size + 1, 0, none⟩ = false ∧ W'.cell? ⟨w.heap.size + 1 + 1, 0, none⟩ = some (.slice Au o.length cu)) from
        ⟨(World.cell?_of_block (a := ⟨w.heap.size, 0, none⟩) (hb.block w.heap.size (by omega))).trans c0, (frozen_blk (hb.block w.heap.size (by omega))).trans f0, (World.cell?_of_block (a := ⟨w.heap.size + 1, 0, none⟩) (hb.block (w.heap.size + 1) (by omega))).trans c1, (frozen_blk (hb.block (w.heap.size + 1) (by omega))).trans f1, (World.cell?_of_block (a := ⟨w.heap.size + 1 + 1, 0, none⟩) (hb.block (w.heap.size + 1 + 1) (by omega))).trans c2⟩)
      -- what stands behind the stores of a return
      have HRes := Lib.hid (fun (W' : World) (hb : Below W.heap.size W W') (v : Value) (x : Int) (hx : parseE l = x) (hv : OM (w.heap.size + 4) v (parseO l) W) =>
        show ∃ W2, W2 = ((W'.setCell ⟨w.heap.size, 0, none⟩ v).setCell ⟨w.heap.size + 1, 0, none⟩ (.int .i64 x)) ∧ W2.heap[D]? = some (.deferred (some [])) ∧ (W2.putObj D (.deferred none)).cell? ⟨w.heap.size, 0, none⟩ = some v ∧ (W2.putObj D (.deferred none)).cell? ⟨w.heap.size + 1, 0, none⟩ = some (.int .i64 x) ∧
          PsPost l w (.returned (.tuple #[v, .int .i64 x])) (W2.putObj D (.deferred none)) from by
        have hD2 : ((W'.setCell ⟨w.heap.size, 0, none⟩ v).setCell ⟨w.heap.size + 1, 0, none⟩ (.int .i64 x)).heap[D]? = some (.deferred (some [])) := by
          rw [Below.heap_setCell _ _ _ _ (by dsimp only; omega), Below.heap_setCell _ _ _ _ (by dsimp only; omega), hb.block D hDlt]; exact hK
        have hr5 := (hb.block _ (by omega)).trans h5
        have hr6 := (hb.block _ (by omega)).trans h6
        refine ⟨_, rfl, hD2, ?_, ?_, _, by rw [hx], ?_, ?_⟩
        · rw [cell_of_row _ _ _ _ _ _ ((World.putObj_heap_other (by omega)).trans ((Below.heap_setCell _ _ _ _ (by dsimp only; omega)).trans (set_row hr5 v)))]; rfl
        · rw [cell_of_row _ _ _ _ _ _ ((World.putObj_heap_other (by omega)).trans (set_row ((Below.heap_setCell _ _ _ _ (by dsimp only; omega)).trans hr6) (.int .i64 x)))]; rfl
        · have hv2 := hv.keep (w1 := ((W'.setCell ⟨w.heap.size, 0, none⟩ v).setCell ⟨w.heap.size + 1, 0, none⟩ (.int .i64 x)).putObj D (.deferred none)) (fun k hk => by
            obtain ⟨q1, ob, q2, q3⟩ := own_cells hv k hk
            have hkD : k ≠ D := fun e => by subst e; rw [hK] at q2; cases q2; cases q3
            rw [World.putObj_heap_other hkD, Below.heap_setCell _ _ _ _ (by dsimp only; omega), Below.heap_setCell _ _ _ _ (by dsimp only; omega), hb.block k (Array.getElem?_eq_some_iff.1 q2).1])
          exact hv2.mono (by omega)
        · exact ((((h7.trans (hb.mono h7.size)).setCell (p := ⟨w.heap.size, 0, none⟩) (Nat.le_refl _) _).setCell (p := ⟨w.heap.size + 1, 0, none⟩) (by dsimp only; omega) _).trans (belowK_b (w := w) (Nat.le_refl _) _ D _ _ (by omega) hD2 rfl rfl)))
      have hEQv := fun (W' : World) (hb : Below w.heap.size w W') => (HBIN.out.later hb).conv (P := Tryz.prog) (T := 23) (d := 9) Tryz.underlying23 Tryz.underlying5 Tryz.underlying9
      by_cases he : errM o = 0
      · obtain ⟨p1, p2, p3, p4, -, -⟩ := errM_ok.1 he
        have WR := fun (W' : World) (hb : Below W.heap.size W W') => write_any _ o W' (hMC.later hb (Nat.le_refl _)) (fun m hm => ⟨p3 m hm, p4 m hm⟩) p1 p2 (hVW.later hb)
        have HWR := Lib.hid WR
        rw [he] at VA
        have HVA := Lib.hid VA
        have HEQ := Lib.hid hEQv
        have HOW := Lib.hid h4
        have HE0 := Lib.hid he
        have H1 := Lib.hid h1
        have HBW := Lib.hid h7
        clear VA he WR hEQv h1 h2 h3 h4 h5 h6 hMC c0 c1 f0 f1 p1 p2 p3 p4 h7 hVW
        gi_wp2_with fail
        refine ⟨trivial, (callsIn_wide.2 HVA.out).mono ?_⟩
        rintro e w1 ⟨rfl, hb1⟩
        have c2 := (HK.out w1 hb1).2.2.2.2
        gi_wp2_with fail
        refine ⟨trivial, (callsIn_wide.2 (HWR.out w1 hb1)).mono ?_⟩
        rintro e w2 ⟨v2, rfl, hv2, hb2⟩
        have hb3 := hb1.trans (hb2.mono hb1.size)
        obtain ⟨A2, n2, c2', rfl⟩ := hv2.form_
        have EQ := equalB_any _ _ (fmtM o) l w2 (hv2.conv (P := Tryz.prog) (T := 23) (d := 9) Tryz.underlying23 Tryz.underlying5 Tryz.underlying9) (HEQ.out w2 (HBW.out.trans (hb3.mono HBW.out.size)))
        have HEQ2 := Lib.hid EQ
        clear EQ hv2 HEQ HWR hb1 hb2
        gi_wp2_with fail
        refine ⟨trivial, (callsIn_wide.2 HEQ2.out).mono ?_⟩
        rintro e w3 ⟨rfl, rfl⟩
        cases hq : (fmtM o == l) with
        | true =>
          have HP := Lib.hid (show parseE l = 0 ∧ parseO l = o by
            have h := parse_good HE0.out (eq_of_beq hq)
            unfold parseE parseO; rw [if_neg hlim, if_neg hlim, h]; exact ⟨rfl, rfl⟩)
          clear hq
          obtain ⟨c0, f0, c1, f1, c2⟩ := HK.out _ hb3
          obtain ⟨W2, hW2, hD2, r0, r1, hps⟩ := HRes.out _ hb3 (.slice Au o.length cu) 0 HP.out.1 (by rw [HP.out.2]; exact HOW.out)
          have HPS := Lib.hid (And.intro hW2 (And.intro hD2 (And.intro r0 (And.intro r1 hps))))
          clear hW2 hD2 r0 r1 hps
          gi_wp2_with fail
          obtain ⟨hW2, hD2, r0, r1, hps⟩ := HPS.out
          rw [← hW2]
          refine ⟨by simp, .inl ⟨_, _, rfl, run_takeDeferred hD2, ?_⟩⟩
          exact ⟨.tuple #[.slice Au o.length cu, .int .i64 0], by simp [results, Tryz.results11, go_sem, r0, r1]; try rfl, hps⟩
        | false =>
          have HP := Lib.hid (show parseE l = 10 ∧ parseO l = [] by
            have h : parseM l = none := parseC_odd H1.out (fun h => by rw [h.2] at hq; simp at hq)
            unfold parseE parseO; rw [if_neg hlim, if_neg hlim, h]; exact ⟨rfl, rfl⟩)
          clear hq
          obtain ⟨c0, f0, c1, f1, c2⟩ := HK.out _ hb3
          obtain ⟨W2, hW2, hD2, r0, r1, hps⟩ := HRes.out _ hb3 (.slice none 0 0) 10 HP.out.1 (by rw [HP.out.2]; exact OR.nil_ _ _ _)
          have HPS := Lib.hid (And.intro hW2 (And.intro hD2 (And.intro r0 (And.intro r1 hps))))
          clear hW2 hD2 r0 r1 hps
          gi_wp2_with fail
          obtain ⟨hW2, hD2, r0, r1, hps⟩ := HPS.out
          rw [← hW2]
          refine ⟨by simp, .inl ⟨_, _, rfl, run_takeDeferred hD2, ?_⟩⟩
          exact ⟨.tuple #[.slice none 0 0, .int .i64 10], by simp [results, Tryz.results11, go_sem, r0, r1]; try rfl, hps⟩
      · have hne : (errM o != 0) = true := by simpa using he
        have hnone : parseM l = none := parseC_odd h1 (fun h => he h.1)
        have HP := Lib.hid (show parseE l = 10 ∧ parseO l = [] by unfold parseE parseO; rw [if_neg hlim, if_neg hlim, hnone]; exact ⟨rfl, rfl⟩)
        obtain ⟨E, hE⟩ : ∃ E, errM o = E := ⟨_, rfl⟩
        rw [hE] at VA hne
        have HVA := Lib.hid VA
        clear VA hE he hEQv hnone h1 h2 h3 h4 h5 h6 hMC c0 c1 f0 f1
        gi_wp2_with fail
        refine ⟨trivial, (callsIn_wide.2 HVA.out).mono ?_⟩
        rintro e w1 ⟨rfl, hb1⟩
        obtain ⟨c0, f0, c1, f1, c2⟩ := HK.out w1 hb1
        obtain ⟨W2, hW2, hD2, r0, r1, hps⟩ := HRes.out w1 hb1 (.slice none 0 0) 10 HP.out.1 (by rw [HP.out.2]; exact OR.nil_ _ _ _)
        have HPS := Lib.hid (And.intro hW2 (And.intro hD2 (And.intro r0 (And.intro r1 hps))))
        clear hW2 hD2 r0 r1 hps
        gi_wp2_with fail
        refine ⟨trivial, ?_⟩
        gi_wp2_with fail
        refine ⟨trivial, ?_⟩
        gi_wp2_with fail
        obtain ⟨hW2, hD2, r0, r1, hps⟩ := HPS.out
        rw [← hW2]
        refine ⟨by simp, .inl ⟨_, _, rfl, run_takeDeferred hD2, ?_⟩⟩
        exact ⟨.tuple #[.slice none 0 0, .int .i64 10], by simp [results, Tryz.results11, go_sem, r0, r1]; try rfl, hps⟩
    case stop =>
      rintro D pre W hD ⟨r, hS⟩ ⟨h1, h5, h6, h7⟩ hK
      gi_wp2
      refine ⟨by simp, .inl ⟨_, _, rfl, run_takeDeferred hK, ?_⟩⟩
      have c0 : (W.putObj D (.deferred none)).cell? ⟨w.heap.size, 0, none⟩ = some (.slice none 0 0) := by rw [cell_of_row _ _ _ _ _ _ ((World.putObj_heap_other (by omega)).trans h5)]; rfl
      have c1 : (W.putObj D (.deferred none)).cell? ⟨w.heap.size + 1, 0, none⟩ = some (.int .i64 10) := by rw [cell_of_row _ _ _ _ _ _ ((World.putObj_heap_other (by omega)).trans h6)]; rfl
      have hnone : parseM l = none := parseC_bad (by rw [← bl_bs l, hS, readG_app, h1]; rfl)
      refine ⟨.tuple #[.slice none 0 0, .int .i64 10], by simp [results, Tryz.results11, go_sem, c0, c1]; try rfl, ?_⟩
      exact ⟨_, by unfold parseE; rw [if_neg hlim, hnone], by unfold parseO; rw [if_neg hlim, hnone]; exact OR.nil_ _ _ _, h7.trans (belowK_b (w := w) (Nat.le_refl _) W D _ _ (by omega) hK rfl rfl)⟩
end Go.Proofs.YtklnakjmiljmhaaGreatDoor
namespace Go.Proofs.YtklnakjmiljmhaaGreatDoor
set_option linter.unusedVariables false
set_option linter.unusedSimpArgs false
set_option maxRecDepth 100000
open Go.RowKit
/-- A line's head: all in front of its text. -/
def headM (m : Ms) : List UInt8 := wordM m.kind ++ 32 :: (numL m.id ++ 32 :: (numL m.time ++ 32 :: m.who))
theorem lineM_head (m : Ms) : lineM m = headM m ++ tailM m := by unfold lineM headM; simp
theorem bl_app2 (a b : ByteArray) : bl (a ++ b) = bl a ++ bl b := by simp [bl]
/-- What the region that writes a line's head has left. -/
def factH (p B : Nat) (m : Ms) (ws si st sw : ByteArray) (vo : Value) (o : List UInt8) : Nat → Value → World → Prop
  | 0, x, _ => x = vo
  | 1, x, _ => x = .pointer (some ⟨p, 0, none⟩)
  | 2, x, _ => x = .int .i64 m.kind
  | 3, x, _ => x = .string ws
  | 4, x, _ => x = .string (ws ++ ⟨#[32]⟩)
  | 5, x, _ => x = .pointer (some ⟨p, 1, none⟩)
  | 6, x, _ => x = .int .i64 m.id
  | 7, x, _ => x = .string si
  | 8, x, _ => x = .string (ws ++ ⟨#[32]⟩ ++ si)
  | 9, x, _ => x = .string (ws ++ ⟨#[32]⟩ ++ si ++ ⟨#[32]⟩)
  | 10, x, _ => x = .pointer (some ⟨p, 3, none⟩)
  | 11, x, _ => x = .int .i64 m.time
  | 12, x, _ => x = .string st
  | 13, x, _ => x = .string (ws ++ ⟨#[32]⟩ ++ si ++ ⟨#[32]⟩ ++ st)
  | 14, x, _ => x = .string (ws ++ ⟨#[32]⟩ ++ si ++ ⟨#[32]⟩ ++ st ++ ⟨#[32]⟩)
  | 15, x, _ => x = .pointer (some ⟨p, 2, none⟩)
  | 16, x, _ => x = .string sw
  | 17, x, _ => x = .string (ws ++ ⟨#[32]⟩ ++ si ++ ⟨#[32]⟩ ++ st ++ ⟨#[32]⟩ ++ sw)
  | 18, x, w => OB 5 B x (o ++ bl (ws ++ ⟨#[32]⟩ ++ si ++ ⟨#[32]⟩ ++ st ++ ⟨#[32]⟩ ++ sw)) w
  | 19, x, w => OB 5 B x (o ++ bl (ws ++ ⟨#[32]⟩ ++ si ++ ⟨#[32]⟩ ++ st ++ ⟨#[32]⟩ ++ sw)) w
  | _, _, _ => True
theorem factH_later {p B : Nat} {m : Ms} {ws si st sw : ByteArray} {vo : Value} {o : List UInt8} {w w' : World} (hb : Below w.heap.size w w') : ∀ (j : Nat) (x : Value), factH p B m ws si st sw vo o j x w → factH p B m ws si st sw vo o j x w' := by
  intro j x h
  match j with
  | 0 | 1 | 2 | 3 | 4 | 5 | 6 | 7 | 8 | 9 | 10 | 11 | 12 | 13 | 14 | 15 | 16 | 17 => exact h
  | 18 => exact OB.below h hb
  | 19 => exact OB.below h hb
  | _ + 20 => exact trivial
theorem factH_eq {p B : Nat} {m : Ms} {ws si st sw : ByteArray} {vo : Value} {o : List UInt8} {w w' : World} : ∀ (j : Nat) (x : Value), j ≠ 18 → j ≠ 19 → factH p B m ws si st sw vo o j x w → factH p B m ws si st sw vo o j x w' := by
  intro j x h1 h2 h
  match j with
  | 0 | 1 | 2 | 3 | 4 | 5 | 6 | 7 | 8 | 9 | 10 | 11 | 12 | 13 | 14 | 15 | 16 | 17 => exact h
  | 18 => exact absurd rfl h1
  | 19 => exact absurd rfl h2
  | _ + 20 => exact trivial
/-- The message's cells, the row that grows, and what lies below. -/
def StH (p B : Nat) (m : Ms) (vo : Value) (o : List UInt8) (W : World) (f : Nat → Bool) (w : World) : Prop :=
  Below B W w ∧ w.heap[p]? = some (.cells (encM m).toArray 43 (0, 0)) ∧ (f 18 = false → OB 5 B vo o w)
theorem StH.step {p B : Nat} {m : Ms} {vo : Value} {o : List UInt8} {W : World} {f : Nat → Bool} {w w' : World} (h : StH p B m vo o W f w) (i : Nat) (hi : i ≠ 18) (hb : Below w.heap.size w w') (hB : B ≤ W.heap.size) : StH p B m vo o W (upI f i) w' :=
  ⟨h.1.trans (hb.mono (Nat.le_trans hB h.1.size)), (hb.block p (Array.getElem?_eq_some_iff.1 h.2.1).1).trans h.2.1, fun h0 => OB.below (h.2.2 (by rw [← h0]; unfold upI; rw [if_neg (Ne.symm hi)])) hb⟩
theorem StH.cells {p B : Nat} {m : Ms} {vo : Value} {o : List UInt8} {W : World} {f : Nat → Bool} {w : World} (h : StH p B m vo o W f w) :
    w.cell? ⟨p, 0, none⟩ = some (.int .i64 m.kind) ∧ w.cell? ⟨p, 1, none⟩ = some (.int .i64 m.id) ∧ w.cell? ⟨p, 2, none⟩ = some (.string (bs m.who)) ∧ w.cell? ⟨p, 3, none⟩ = some (.int .i64 m.time) ∧ w.cell? ⟨p, 4, none⟩ = some (.string (bs m.text)) := by
  refine ⟨?_, ?_, ?_, ?_, ?_⟩ <;> (rw [cell_of_row _ _ _ _ _ _ h.2.1]; rfl)
/-- What the region that writes a message's text has left. -/
def factT (B : Nat) (W : World) (p : Nat) (vo : Value) (o tx : List UInt8) (f : Nat → Bool) : Nat → Value → World → Prop
  | 0, x, _ => x = vo
  | 1, x, w => ∃ g, x = .slice (some ⟨g, 0, none⟩) 1 1 ∧ W.heap.size ≤ g ∧ (f 2 = false → w.heap[g]? = some (.cells #[.int .u8 32] 5 (0, 0)))
  | 2, x, w => f 7 = false → OB 5 B x (o ++ [32]) w
  | 3, x, _ => x = .pointer (some ⟨p, 4, none⟩)
  | 4, x, _ => x = .string (bs tx)
  | 5, x, w => ∃ g c, x = .slice (some ⟨g, 0, none⟩) (bs tx).size c ∧ (bs tx).size ≤ c ∧ W.heap.size ≤ g ∧ (f 7 = false → RB 5 g tx w)
  | 6, x, w => f 7 = false → OB 5 W.heap.size x (encF escE tx) w
  | 7, x, w => OB 5 B x (o ++ [32] ++ encF escE tx) w
  | 8, x, w => OB 5 B x (o ++ [32] ++ encF escE tx) w
  | _, _, _ => True
/-- All blocks of the region's own stay, and those below. -/
theorem factT_later {B : Nat} {W : World} {p : Nat} {vo : Value} {o tx : List UInt8} {f : Nat → Bool} {i : Nat} {w w' : World} (hi : i ≠ 2) (hi7 : i ≠ 7) (hb : Below w.heap.size w w') : ∀ (j : Nat) (x : Value), factT B W p vo o tx f j x w → factT B W p vo o tx (upI f i) j x w' := by
  have h2 : upI f i 2 = f 2 := by unfold upI; rw [if_neg (Ne.symm hi)]
  have h7 : upI f i 7 = f 7 := by unfold upI; rw [if_neg (Ne.symm hi7)]
  intro j x h
  match j with
  | 0 | 3 | 4 => exact h
  | 1 =>
    obtain ⟨g, e, hg, hx⟩ := h
    exact ⟨g, e, hg, fun h0 => (hb.block g (Array.getElem?_eq_some_iff.1 (hx (h2 ▸ h0))).1).trans (hx (h2 ▸ h0))⟩
  | 2 => exact fun h0 => OB.below (h (h7 ▸ h0)) hb
  | 5 =>
    obtain ⟨g, c, e, hc, hg, hx⟩ := h
    exact ⟨g, c, e, hc, hg, fun h0 => (hx (h7 ▸ h0)).keep (hb.block g (hx (h7 ▸ h0)).lt)⟩
  | 6 => exact fun h0 => OB.below (h (h7 ▸ h0)) hb
  | 7 => exact OB.below h hb
  | 8 => exact OB.below h hb
  | _ + 9 => exact trivial
/-- The row that grows is another block than those of the region's own. -/
theorem factT_grown {B : Nat} {W : World} {p : Nat} {vo : Value} {o tx : List UInt8} {f : Nat → Bool} {w w' : World} (hk : ∀ k, vo.ownBlock = some k → k < W.heap.size) (hg : w.grownBy w' vo.ownBlock) : ∀ (j : Nat) (x : Value), j ≠ 2 → j ≠ 7 → j ≠ 8 → factT B W p vo o tx f j x w → factT B W p vo o tx (upI f 2) j x w' := by
  have h7 : upI f 2 7 = f 7 := rfl
  intro j x h2 h7' h8 h
  match j with
  | 0 | 3 | 4 => exact h
  | 1 =>
    obtain ⟨g, e, hg, hx⟩ := h
    exact ⟨g, e, hg, fun h0 => by rw [show upI f 2 2 = true from rfl] at h0; cases h0⟩
  | 2 => exact absurd rfl h2
  | 5 =>
    obtain ⟨g, c, e, hc, hgw, hx⟩ := h
    exact ⟨g, c, e, hc, hgw, fun h0 => (hx (h7 ▸ h0)).keep (hg.block g (hx (h7 ▸ h0)).lt (fun e => by have := hk g e.symm; omega))⟩
  | 6 =>
    intro h0
    refine OB.keep (h (h7 ▸ h0)) fun k hk' => ?_
    have h1 := World.ownsRow.lt (h (h7 ▸ h0)) k hk'
    exact hg.block k h1.2 (fun e => by have := hk k e.symm; omega)
  | 7 => exact absurd rfl h7'
  | 8 => exact absurd rfl h8
  | _ + 9 => exact trivial
theorem factT_end {B : Nat} {W : World} {p : Nat} {vo : Value} {o tx : List UInt8} {f : Nat → Bool} {w w' : World} (h2 : f 2 = true) : ∀ (j : Nat) (x : Value), j ≠ 7 → j ≠ 8 → factT B W p vo o tx f j x w → factT B W p vo o tx (upI f 7) j x w' := by
  have h72 : upI f 7 2 ≠ false := by rw [show upI f 7 2 = f 2 from rfl, h2]; decide
  have h77 : upI f 7 7 ≠ false := by intro h; cases h
  intro j x h7 h8 h
  match j with
  | 0 | 3 | 4 => exact h
  | 1 =>
    obtain ⟨g, e, hg, -⟩ := h
    exact ⟨g, e, hg, fun h0 => absurd h0 h72⟩
  | 2 => exact fun h0 => absurd h0 h77
  | 5 =>
    obtain ⟨g, c, e, hc, hgw, -⟩ := h
    exact ⟨g, c, e, hc, hgw, fun h0 => absurd h0 h77⟩
  | 6 => exact fun h0 => absurd h0 h77
  | 7 => exact absurd rfl h7
  | 8 => exact absurd rfl h8
  | _ + 9 => exact trivial
/-- The message's cells, the row that grows, and what lies below. -/
def StT (p B : Nat) (m : Ms) (vo : Value) (o : List UInt8) (W0 W : World) (f : Nat → Bool) (w : World) : Prop :=
  Below B W0 w ∧ W.heap.size ≤ w.heap.size ∧ w.heap[p]? = some (.cells (encM m).toArray 43 (0, 0)) ∧ (f 2 = false → OB 5 B vo o w)
theorem StT.step {p B : Nat} {m : Ms} {vo : Value} {o : List UInt8} {W0 W : World} {f : Nat → Bool} {w w' : World} (h : StT p B m vo o W0 W f w) (i : Nat) (hi : i ≠ 2) (hb : Below w.heap.size w w') (hB : B ≤ W0.heap.size) : StT p B m vo o W0 W (upI f i) w' :=
  ⟨h.1.trans (hb.mono (Nat.le_trans hB h.1.size)), Nat.le_trans h.2.1 hb.size, (hb.block p (Array.getElem?_eq_some_iff.1 h.2.2.1).1).trans h.2.2.1, fun h0 => OB.below (h.2.2.2 (by rw [← h0]; unfold upI; rw [if_neg (Ne.symm hi)])) hb⟩
theorem fmtM_len2 : ∀ {l : List Ms}, sizeF l ≤ 65536 → (∀ m ∈ l, wrongM m = false) → (∀ m ∈ l, lateM m = false) → l.length ≤ 300 → (fmtM l).length ≤ 90000000
  | l, h1, h2, h3, h4 => by
    have : ∀ (r : List Ms), (∀ m ∈ r, wrongM m = false) → (∀ m ∈ r, lateM m = false) → (∀ m ∈ r, m.text.length ≤ 65536) → (fmtM r).length ≤ 270000 * r.length := by
      intro r
      induction r with
      | nil => intro _ _ _; simp [fmtM]
      | cons m r ih =>
        intro q1 q2 q3
        have h := ih (fun x hx => q1 x (by simp [hx])) (fun x hx => q2 x (by simp [hx])) (fun x hx => q3 x (by simp [hx]))
        obtain ⟨k1, k3, i1, i2, -, -, hwl, -⟩ := wrongM_no (q1 m (by simp))
        obtain ⟨t1, t2⟩ := lateM_no (q2 m (by simp))
        have hx := q3 m (by simp)
        obtain ⟨kd, id, who, tm, tx⟩ := m
        dsimp only at *
        obtain ⟨ni, rfl⟩ := Int.eq_ofNat_of_zero_le (show 0 ≤ id by omega)
        obtain ⟨nt, rfl⟩ := Int.eq_ofNat_of_zero_le t1
        have hl := line_len kd ni nt who tx (by omega) (by omega) hwl hx
        rw [fmtM, List.length_append, List.length_cons, List.length_cons]
        omega
    have := this l h2 h3 (fun m hm => Nat.le_trans (sizeF_mem hm) h1)
    omega
set_option maxHeartbeats 4000000 in
theorem format_ref (v : Value) (l : List Ms) (w : World) (h : MC v l w) (hs : Small l) : Calls Tryz.prog 8 #[v] w (FmPost l w) := by
  obtain ⟨i0, hi, hz0, hz1, hz2⟩ := info_parts info_u8
  have V := Lib.hid (valid_ref17 v l w h hs)
  have hl := hs.1
  have H := Lib.hid h
  clear hs
  by_cases h0 : errM l = 0
  · rw [h0] at V
    obtain ⟨p1, p2, p3, p4, -, -⟩ := errM_ok.1 h0
    have HF := Lib.hid (show fmtO l = fmtM l by unfold fmtO; rw [if_pos h0])
    have HE0 := Lib.hid h0
    have HP := Lib.hid (And.intro p2 (And.intro p3 p4))
    have hlen := Lib.hid (fmtM_len2 (l := l) p2 p3 p4 p1)
    clear h0 p2 p3 p4
    obtain ⟨A, c, rfl, hc, -⟩ := h
    go_enter Tryz.func8, Tryz.ntmps8
    go_wp2_with fail
    refine V.out.mono ?_
    rintro e w0 ⟨rfl, hb0⟩
    obtain ⟨A', c', hv, -, hcell⟩ := H.out
    injection hv with hv1 hv2 hv3
    rw [← hv1] at hcell
    have HC := Lib.hid hcell
    clear hcell hv1 hv2 hv3 V H
    go_wp2_with fail
    go_loopw [5, 6] (fun v i wr => ∃ (k : Nat) (o : List UInt8), k ≤ l.length ∧ i = .int .i64 (k : Int) ∧ OB 5 w.heap.size v o wr ∧ Below w.heap.size w wr ∧ Hid (o ++ fmtM (l.drop k) = fmtM l)) (fun _ i _ => l.length - (intOf i).toNat)
    case atStart => exact ⟨0, [], by omega, rfl, OB.nil_ _ _ _, hb0, rfl⟩
    case round =>
      obtain ⟨k, o, hk, rfl, hown, hbel, HR⟩ := hrel
      have hol : o.length ≤ 100000000 := by have h1 := congrArg List.length HR.out; rw [List.length_append] at h1; have := hlen.out; omega
      by_cases hlt : k < l.length
      · have hd : decide ((k : Int) < (l.length : Int)) = true := decide_eq_true (by omega)
        have hdn : decide (k < l.length) = true := decide_eq_true hlt
        obtain ⟨g, ff, rfl, hg, hcs⟩ := HC.out.resolve_left (by intro e; rw [e] at hlt; simp at hlt)
        obtain ⟨a0, a1, a2, a3, a4⟩ := (hcs k hlt).later (hbel.block g hg)
        have hw := HP.out.2.1 l[k] (List.getElem_mem hlt)
        have hla := HP.out.2.2 l[k] (List.getElem_mem hlt)
        have hsz := sizeF_mem (List.getElem_mem hlt)
        have hp2 := HP.out.1
        have HDR := Lib.hid (List.drop_eq_getElem_cons hlt)
        clear hcs
        obtain ⟨m, hm⟩ : ∃ m, l[k] = m := ⟨_, rfl⟩
        rw [hm] at a0 a1 a2 a3 a4 hw hla hsz HDR
        obtain ⟨k1, k3, i1, i2, -, -, hwl, hx3⟩ := wrongM_no hw
        obtain ⟨t1, t2⟩ := lateM_no hla
        clear hm hw hla
        obtain ⟨kd, id, who, tm, tx⟩ := m
        dsimp only at a0 a1 a2 a3 a4 k1 k3 i1 i2 hwl hx3 t1 t2 hsz
        obtain ⟨ni, rfl⟩ := Int.eq_ofNat_of_zero_le (show 0 ≤ id by omega)
        obtain ⟨nt, rfl⟩ := Int.eq_ofNat_of_zero_le t1
        have HN := Lib.hid (show o ++ (headM ⟨kd, (ni : Int), who, (nt : Int), tx⟩ ++ (tailM ⟨kd, (ni : Int), who, (nt : Int), tx⟩ ++ 10 :: fmtM (l.drop (k + 1)))) = fmtM l by
          rw [← HR.out, HDR.out, fmtM, lineM_head]; simp)
        have HX := Lib.hid (And.intro hx3 (And.intro hsz hp2))
        clear HR HDR hx3 hsz hp2
        obtain ⟨ws, hws⟩ : ∃ s, s = bs (wordM kd) := ⟨_, rfl⟩
        obtain ⟨si, hsi⟩ : ∃ s, s = bs (Lib.decDigits ni) := ⟨_, rfl⟩
        obtain ⟨st, hst⟩ : ∃ s, s = bs (Lib.decDigits nt) := ⟨_, rfl⟩
        obtain ⟨sw, hsw⟩ : ∃ s, s = bs who := ⟨_, rfl⟩
        have HSZ : Hid (ws.size ≤ 6 ∧ si.size ≤ 11 ∧ st.size ≤ 14 ∧ sw.size ≤ 40) := by
          refine ⟨?_, ?_, ?_, ?_⟩
          · rw [hws, size_bs]; exact wordM_len kd
          · rw [hsi, size_bs]; exact dec_len2 ni 10 (by omega)
          · rw [hst, size_bs]; exact dec_len2 nt 13 (by omega)
          · rw [hsw, size_bs]; omega
        have HEQ : Hid (bl (ws ++ ⟨#[32]⟩ ++ si ++ ⟨#[32]⟩ ++ st ++ ⟨#[32]⟩ ++ sw) = headM ⟨kd, (ni : Int), who, (nt : Int), tx⟩) := by
          show bl _ = _
          rw [hws, hsi, hst, hsw]
          simp only [bl_app2, bl_bs]
          unfold headM numL
          simp [bl]
        have HW4 := Lib.hid (And.intro hws (And.intro hsi (And.intro hst hsw)))
        clear hws hsi hst hsw
        go_upto_region 9 with fail
        obtain ⟨W9, hW9⟩ : ∃ W9 : World, W9 = wr.alloc (.cells #[.int .i64 kd, .int .i64 (ni : Int), .string (bs who), .int .i64 (nt : Int), .string (bs tx)] 43) := ⟨_, rfl⟩
        have hrow : W9.heap[wr.heap.size]? = some (.cells (encM ⟨kd, (ni : Int), who, (nt : Int), tx⟩).toArray 43 (0, 0)) := by rw [hW9]; exact heap_alloc_new wr _
        have hb9 : Below wr.heap.size wr W9 := by rw [hW9]; exact (Below.refl _ _).alloc (Nat.le_refl _) _
        have hbW9 := hbel.trans (hb9.mono hbel.size)
        have hBW : w.heap.size ≤ w.heap.size := Nat.le_refl _
        have hown9 := OB.below hown hb9
        rw [← hW9]
        obtain ⟨vo, hvo⟩ : ∃ vo : Value, vo = u5 := ⟨_, rfl⟩
        rw [← hvo] at hown9 ⊢
        have HVO := Lib.hid hvo
        clear hvo
        have HC9 := Lib.hid hown
        clear hown hW9
        refine wp_region_facts (fun _ => factH wr.heap.size w.heap.size ⟨kd, (ni : Int), who, (nt : Int), tx⟩ ws si st sw vo o) (StH wr.heap.size w.heap.size ⟨kd, (ni : Int), who, (nt : Int), tx⟩ vo o w) (by kernel_rfl) (by kernel_rfl) (by kernel_rfl) ⟨below_drewN hbW9 1, hrow, fun _ => hown9.drewA⟩ ?_ ?_
        · refine FSteps.cons ?_ (FSteps.cons ?_ (FSteps.cons ?_ (FSteps.cons ?_ (FSteps.cons ?_ (FSteps.cons ?_ (FSteps.cons ?_ (FSteps.cons ?_ (FSteps.cons ?_ (FSteps.cons ?_ (FSteps.cons ?_ (FSteps.cons ?_ (FSteps.cons ?_ (FSteps.cons ?_ (FSteps.cons ?_ (FSteps.cons ?_ (FSteps.cons ?_ (FSteps.cons ?_ (FSteps.cons ?_ (FSteps.cons ?_ FSteps.nil)))))))))))))))))))
          all_goals (intro f v w0 h0 hpre hE hF hcl hU hS K hK; simp only [putAll, Act.put, List.setIfInBounds_toArray, List.set_cons_zero, List.set_cons_succ, Nat.zero_add, Nat.reduceAdd] at hK ⊢)
          · have e19 : v 19 = vo := hU 19 5 rfl (closed_not hcl 20 19 0 (by kernel_rfl) h0)
            rw [e19] at hK ⊢
            go_wp2_with fail
            exact hK.out _ _ (hS.step _ (by decide) (Below.refl _ _) hBW) (fun j _ _ h => factH_later (Below.refl _ _) j _ h) rfl
          · go_wp2_with fail
            exact hK.out _ _ (hS.step _ (by decide) (Below.refl _ _) hBW) (fun j _ _ h => factH_later (Below.refl _ _) j _ h) rfl
          · have e1 : v 1 = _ := hE.1 rfl
            rw [e1] at hK ⊢
            have c0 := hS.cells.1
            clear hU
            go_wp2_with fail
            exact hK.out _ _ (hS.step _ (by decide) (Below.refl _ _) hBW) (fun j _ _ h => factH_later (Below.refl _ _) j _ h) rfl
          · have e2 : v 2 = _ := hE.1 rfl
            rw [e2] at hK ⊢
            go_wp2_with fail
            refine (word_ref kd _).mono ?_
            rintro e w1 ⟨rfl, rfl⟩
            go_wp2_with fail
            exact hK.out _ _ (hS.step _ (by decide) (Below.refl _ _) hBW) (fun j _ _ h => factH_later (Below.refl _ _) j _ h) (by show Value.string _ = _; rw [HW4.out.1])
          · have e3 : v 3 = _ := hE.1 rfl
            rw [e3] at hK ⊢
            have hadd := run_string_add_sum (P := Tryz.prog) w0 (ws) (⟨#[32]⟩) (by (try simp only [ByteArray.size_append]); have := HSZ.out; have h32 : ByteArray.size ⟨#[32]⟩ = 1 := rfl; omega)
            go_wp2_with fail
            exact hK.out _ _ (hS.step _ (by decide) (Below.refl _ _) hBW) (fun j _ _ h => factH_later (Below.refl _ _) j _ h) rfl
          · go_wp2_with fail
            exact hK.out _ _ (hS.step _ (by decide) (Below.refl _ _) hBW) (fun j _ _ h => factH_later (Below.refl _ _) j _ h) rfl
          · have e5 : v 5 = _ := hE.1 rfl
            rw [e5] at hK ⊢
            have c1 := hS.cells.2.1
            clear hU
            go_wp2_with fail
            exact hK.out _ _ (hS.step _ (by decide) (Below.refl _ _) hBW) (fun j _ _ h => factH_later (Below.refl _ _) j _ h) rfl
          · have e6 : v 6 = _ := hE.1 rfl
            rw [e6] at hK ⊢
            go_wp2_with fail
            refine (number_ref 10 ni _ (by omega) (by omega) (by omega)).mono ?_
            rintro e w1 ⟨rfl, hb1⟩
            go_wp2_with fail
            exact hK.out _ _ (hS.step _ (by decide) hb1 hBW) (fun j _ _ h => factH_later hb1 j _ h) (by show Value.string _ = _; rw [HW4.out.2.1])
          · have e4 : v 4 = _ := hE.1 rfl
            have e7 : v 7 = _ := hE.2.1 rfl
            rw [e4, e7] at hK ⊢
            have hadd := run_string_add_sum (P := Tryz.prog) w0 (ws ++ ⟨#[32]⟩) (si) (by (try simp only [ByteArray.size_append]); have := HSZ.out; have h32 : ByteArray.size ⟨#[32]⟩ = 1 := rfl; omega)
            go_wp2_with fail
            exact hK.out _ _ (hS.step _ (by decide) (Below.refl _ _) hBW) (fun j _ _ h => factH_later (Below.refl _ _) j _ h) rfl
          · have e8 : v 8 = _ := hE.1 rfl
            rw [e8] at hK ⊢
            have hadd := run_string_add_sum (P := Tryz.prog) w0 (ws ++ ⟨#[32]⟩ ++ si) (⟨#[32]⟩) (by (try simp only [ByteArray.size_append]); have := HSZ.out; have h32 : ByteArray.size ⟨#[32]⟩ = 1 := rfl; omega)
            go_wp2_with fail
            exact hK.out _ _ (hS.step _ (by decide) (Below.refl _ _) hBW) (fun j _ _ h => factH_later (Below.refl _ _) j _ h) rfl
          · go_wp2_with fail
            exact hK.out _ _ (hS.step _ (by decide) (Below.refl _ _) hBW) (fun j _ _ h => factH_later (Below.refl _ _) j _ h) rfl
          · have e10 : v 10 = _ := hE.1 rfl
            rw [e10] at hK ⊢
            have c3 := hS.cells.2.2.2.1
            clear hU
            go_wp2_with fail
            exact hK.out _ _ (hS.step _ (by decide) (Below.refl _ _) hBW) (fun j _ _ h => factH_later (Below.refl _ _) j _ h) rfl
          · have e11 : v 11 = _ := hE.1 rfl
            rw [e11] at hK ⊢
            go_wp2_with fail
            refine (number_ref 13 nt _ (by omega) (by omega) (by omega)).mono ?_
            rintro e w1 ⟨rfl, hb1⟩
            go_wp2_with fail
            exact hK.out _ _ (hS.step _ (by decide) hb1 hBW) (fun j _ _ h => factH_later hb1 j _ h) (by show Value.string _ = _; rw [HW4.out.2.2.1])
          · have e9 : v 9 = _ := hE.1 rfl
            have e12 : v 12 = _ := hE.2.1 rfl
            rw [e9, e12] at hK ⊢
            have hadd := run_string_add_sum (P := Tryz.prog) w0 (ws ++ ⟨#[32]⟩ ++ si ++ ⟨#[32]⟩) (st) (by (try simp only [ByteArray.size_append]); have := HSZ.out; have h32 : ByteArray.size ⟨#[32]⟩ = 1 := rfl; omega)
            go_wp2_with fail
            exact hK.out _ _ (hS.step _ (by decide) (Below.refl _ _) hBW) (fun j _ _ h => factH_later (Below.refl _ _) j _ h) rfl
          · have e13 : v 13 = _ := hE.1 rfl
            rw [e13] at hK ⊢
            have hadd := run_string_add_sum (P := Tryz.prog) w0 (ws ++ ⟨#[32]⟩ ++ si ++ ⟨#[32]⟩ ++ st) (⟨#[32]⟩) (by (try simp only [ByteArray.size_append]); have := HSZ.out; have h32 : ByteArray.size ⟨#[32]⟩ = 1 := rfl; omega)
            go_wp2_with fail
            exact hK.out _ _ (hS.step _ (by decide) (Below.refl _ _) hBW) (fun j _ _ h => factH_later (Below.refl _ _) j _ h) rfl
          · go_wp2_with fail
            exact hK.out _ _ (hS.step _ (by decide) (Below.refl _ _) hBW) (fun j _ _ h => factH_later (Below.refl _ _) j _ h) rfl
          · have e15 : v 15 = _ := hE.1 rfl
            rw [e15] at hK ⊢
            have c2 := hS.cells.2.2.1
            clear hU
            go_wp2_with fail
            exact hK.out _ _ (hS.step _ (by decide) (Below.refl _ _) hBW) (fun j _ _ h => factH_later (Below.refl _ _) j _ h) (by show Value.string _ = _; rw [HW4.out.2.2.2])
          · have e14 : v 14 = _ := hE.1 rfl
            have e16 : v 16 = _ := hE.2.1 rfl
            rw [e14, e16] at hK ⊢
            have hadd := run_string_add_sum (P := Tryz.prog) w0 (ws ++ ⟨#[32]⟩ ++ si ++ ⟨#[32]⟩ ++ st ++ ⟨#[32]⟩) (sw) (by (try simp only [ByteArray.size_append]); have := HSZ.out; have h32 : ByteArray.size ⟨#[32]⟩ = 1 := rfl; omega)
            go_wp2_with fail
            exact hK.out _ _ (hS.step _ (by decide) (Below.refl _ _) hBW) (fun j _ _ h => factH_later (Below.refl _ _) j _ h) rfl
          · have e0 : v 0 = _ := hE.1 rfl
            have e17 : v 17 = _ := hE.2.1 rfl
            rw [e0, e17] at hK ⊢
            have hown := hS.2.2 h0
            go_wp2_with (at_builtin; refine app_textG Tryz.underlying23 Tryz.underlying9 hi hz0 hz1 hz2 _ _ vo o _ w.heap.size rfl rfl rfl rfl hown (by (try simp only [ByteArray.size_append]); have := HSZ.out; have h32 : ByteArray.size ⟨#[32]⟩ = 1 := rfl; omega) (Nat.le_trans hBW hS.1.size) ?_; intro v' w1 hown1 hg1)
            exact hK.out _ _ ⟨hS.1.trans (gb_below hown hg1 (Nat.le_trans hBW hS.1.size)), (hg1.block _ (Array.getElem?_eq_some_iff.1 hS.2.1).1 (own_ne hown hS.2.1 (by decide)).symm).trans hS.2.1, fun h => by rw [show upI f 18 18 = true from rfl] at h; cases h⟩ (fun j hj hfj h => factH_eq j _ hj (by rintro rfl; rw [closed_not hcl 20 19 18 (by kernel_rfl) h0] at hfj; cases hfj) h) hown1
          · have e18 := hE.1 rfl
            go_wp2_with fail
            exact hK.out _ _ (hS.step _ (by decide) (Below.refl _ _) hBW) (fun j _ _ h => factH_later (Below.refl _ _) j _ h) e18
        · intro f v w' hall hF hS
          have e19 := hF 19 (by decide)
          have e19' : OB 5 w.heap.size (v 19) (o ++ headM ⟨kd, (ni : Int), who, (nt : Int), tx⟩) w' := by rw [← HEQ.out]; exact e19
          simp only [putAll, Act.put, List.setIfInBounds_toArray, List.set_cons_zero, List.set_cons_succ, Nat.zero_add, Nat.reduceAdd]
          have HL10 : Hid ((o ++ headM ⟨kd, (ni : Int), who, (nt : Int), tx⟩).length ≤ 100000000 ∧ tx.length ≤ 65536) := by
            refine ⟨?_, by have := HX.out.2; omega⟩
            have h1 := congrArg List.length HN.out
            simp only [List.length_append] at h1 ⊢
            have := hlen.out
            omega
          have HS := Lib.hid hS
          obtain ⟨o2, ho2⟩ : ∃ o2, o2 = o ++ headM ⟨kd, (ni : Int), who, (nt : Int), tx⟩ := ⟨_, rfl⟩
          rw [← ho2] at e19' HL10
          have HO2 := Lib.hid ho2
          clear hF hall e19 hS hbW9 hb9 hrow hown9 ho2
          obtain ⟨W10, hW10⟩ : ∃ W10 : World, W10 = w' := ⟨_, rfl⟩
          rw [← hW10] at HS e19' ⊢
          clear hW10
          obtain ⟨vo2, hvo2⟩ : ∃ vo2 : Value, vo2 = v 19 := ⟨_, rfl⟩
          rw [← hvo2] at e19' ⊢
          clear hvo2
          have hE10 := e19'
          clear e19'
          have c0 := HS.out.cells.1
          apply_assumption
          by_cases e3 : kd = 3
          · have d3 : (kd != 3) = false := by simp [e3]
            have HE := Lib.hid (show (o2 ++ [10]) ++ fmtM (l.drop (k + 1)) = fmtM l by
              rw [← HN.out, HO2.out, show tailM ⟨kd, (ni : Int), who, (nt : Int), tx⟩ = [] from if_pos e3]; simp)
            have hb10 := HS.out.1
            clear e3
            go_wp2_with (at_builtin; refine app_u8 Tryz.underlying23 hi hz0 hz1 hz2 _ _ _ _ _ (10 : UInt8) w.heap.size rfl rfl rfl rfl hE10 rfl (by have := HL10.out; omega) (Nat.le_trans hBW hb10.size) ?_; intro v1 w3 hown3 hb3 _ _)
            go_roundw
            case rel => exact ⟨k + 1, _, by omega, by go_num, hown3, hb10.trans hb3, HE⟩
            case measure => simp [intOf]; omega
          · have d3 : (kd != 3) = true := by simpa using e3
            have HE := Lib.hid (show (o2 ++ [32] ++ encF escE tx ++ [10]) ++ fmtM (l.drop (k + 1)) = fmtM l by
              rw [← HN.out, HO2.out, show tailM ⟨kd, (ni : Int), who, (nt : Int), tx⟩ = 32 :: encF escE tx from if_neg e3]; simp)
            have hk10 : ∀ q, vo2.ownBlock = some q → q < W10.heap.size := fun q hq => (World.ownsRow.lt hE10 q hq).2
            have hel := encEsc_len tx
            clear e3
            go_upto_region 11 with fail
            clear c0
            refine wp_region_facts (factT w.heap.size W10 wr.heap.size vo2 o2 tx) (StT wr.heap.size w.heap.size ⟨kd, (ni : Int), who, (nt : Int), tx⟩ vo2 o2 w W10) (by kernel_rfl) (by kernel_rfl) (by kernel_rfl) ⟨below_drewN HS.out.1 1, Nat.le_refl _, HS.out.2.1, fun _ => hE10.drewA⟩ ?_ ?_
            · refine FSteps.cons ?_ (FSteps.cons ?_ (FSteps.cons ?_ (FSteps.cons ?_ (FSteps.cons ?_ (FSteps.cons ?_ (FSteps.cons ?_ (FSteps.cons ?_ (FSteps.cons ?_ FSteps.nil))))))))
              all_goals (intro f v w0 h0 hpre hE hF hcl hU hS K hK; simp only [putAll, Act.put, List.setIfInBounds_toArray, List.set_cons_zero, List.set_cons_succ, Nat.zero_add, Nat.reduceAdd] at hK ⊢)
              · have e8 : v 8 = vo2 := hU 8 5 rfl (closed_not hcl 20 8 0 (by kernel_rfl) h0)
                rw [e8] at hK ⊢
                clear hU
                go_wp2_with fail
                exact hK.out _ _ (hS.step _ (by decide) (Below.refl _ _) hBW) (fun j _ _ h => factT_later (by decide) (by decide) (Below.refl _ _) j _ h) rfl
              · go_wp2_with fail
                have hb1 : Below w0.heap.size w0 (w0.alloc (.cells #[.int .u8 32] 5)) := (Below.refl _ _).alloc (Nat.le_refl _) _
                exact hK.out _ _ (hS.step _ (by decide) hb1 hBW) (fun j _ _ h => factT_later (by decide) (by decide) hb1 j _ h) ⟨w0.heap.size, rfl, hS.2.1, fun _ => heap_alloc_new w0 _⟩
              · have e0 : v 0 = _ := hE.1 rfl
                obtain ⟨g1, e1, hg1, hr⟩ := hE.2.1 rfl
                have hr1 := hr h0
                rw [e0, e1] at hK ⊢
                have hown := hS.2.2.2 h0
                have hc1 : ∀ j (h : j < ([32] : List UInt8).length), w0.cell? ⟨g1, j, none⟩ = some (.int .u8 (([32] : List UInt8)[j]).toNat) := by
                  intro j hj
                  obtain rfl : j = 0 := by simp at hj; omega
                  rw [cell_of_row _ _ _ _ _ _ hr1]; rfl
                have hl1 : o2.length + ([32] : List UInt8).length < 1000000000 := by have := HL10.out; simp; omega
                have hbs1 : w.heap.size ≤ w0.heap.size := Nat.le_trans hBW hS.1.size
                have hr' := hr
                clear hr
                go_wp2_with (at_builtin; refine app_rowG Tryz.underlying23 hi hz0 hz1 hz2 _ _ vo2 o2 [32] g1 1 1 w.heap.size rfl rfl rfl rfl rfl hown hc1 hl1 hbs1 ?_; intro v' w1 hown1 hgr)
                exact hK.out _ _ ⟨hS.1.trans (gb_below hown hgr (Nat.le_trans hBW hS.1.size)), Nat.le_trans hS.2.1 hgr.size, (hgr.block _ (Array.getElem?_eq_some_iff.1 hS.2.2.1).1 (own_ne hown hS.2.2.1 (by decide)).symm).trans hS.2.2.1, fun h => by rw [show upI f 2 2 = true from rfl] at h; cases h⟩ (fun j hj hfj h => factT_grown hk10 hgr j _ hj (by rintro rfl; rw [closed_not hcl 20 7 2 (by kernel_rfl) h0] at hfj; cases hfj) (by rintro rfl; rw [closed_not hcl 20 8 2 (by kernel_rfl) h0] at hfj; cases hfj) h) (fun _ => hown1)
              · go_wp2_with fail
                exact hK.out _ _ (hS.step _ (by decide) (Below.refl _ _) hBW) (fun j _ _ h => factT_later (by decide) (by decide) (Below.refl _ _) j _ h) rfl
              · have e3 : v 3 = _ := hE.1 rfl
                rw [e3] at hK ⊢
                have c4 : w0.cell? ⟨wr.heap.size, 4, none⟩ = some (.string (bs tx)) := by rw [cell_of_row _ _ _ _ _ _ hS.2.2.1]; rfl
                clear hU
                go_wp2_with fail
                exact hK.out _ _ (hS.step _ (by decide) (Below.refl _ _) hBW) (fun j _ _ h => factT_later (by decide) (by decide) (Below.refl _ _) j _ h) rfl
              · have e4 : v 4 = _ := hE.1 rfl
                rw [e4] at hK ⊢
                have hcv := fun w => Lib.run_convert_string_bytes (P := Tryz.prog) w 9 23 5 (bs tx) Tryz.underlying9 Tryz.underlying23 Tryz.underlying5
                obtain ⟨W4, C4, B4, hW4, hC4, hB4, hrb, hbb4, hsz4⟩ := RB.names w0 5 (bs tx)
                rw [bl_bs] at hrb
                go_wp2_with fail
                rw [← hW4, ← hC4, ← hB4]
                have hbb5 : Below w0.heap.size w0 W4 := by rw [← hB4]; exact hbb4
                exact hK.out _ _ (hS.step _ (by decide) hbb5 hBW) (fun j _ _ h => factT_later (by decide) (by decide) hbb5 j _ h) ⟨B4, C4, rfl, by rw [hC4]; exact grownCap_ge _ _ _ _, by rw [hB4]; exact hS.2.1, fun _ => hrb⟩
              · obtain ⟨g5, c5, e5, hc5, hg5, hrb5⟩ := hE.1 rfl
                have hbin := BIn.of_RB (hrb5 (closed_not hcl 20 7 6 (by kernel_rfl) h0)) (size_bs _) hc5
                rw [e5] at hK ⊢
                go_wp2_with fail
                refine (Encoded_ref 4 (by decide) _ tx w0 (by have := HL10.out; omega) hbin).mono ?_
                rintro e w1 ⟨v1, rfl, hv1, hb1⟩
                go_wp2_with fail
                exact hK.out _ _ (hS.step _ (by decide) hb1 hBW) (fun j _ _ h => factT_later (by decide) (by decide) hb1 j _ h) (fun _ => OB.mono hv1 hS.2.1)
              · have hown := hE.1 rfl h0
                have hy := hE.2.1 rfl h0
                have hf2 : f 2 = true := hpre.1 rfl
                go_wp2_with (at_builtin; refine app_OBG Tryz.underlying23 hi hz0 hz1 hz2 _ _ (v 2) (v 6) _ _ w.heap.size W10.heap.size rfl rfl rfl rfl hown hy (by have := HL10.out; simp; omega) (Nat.le_trans hBW hS.1.size) ?_; intro v' w1 hown1 hgr)
                exact hK.out _ _ ⟨hS.1.trans (gb_below hown hgr (Nat.le_trans hBW hS.1.size)), Nat.le_trans hS.2.1 hgr.size, (hgr.block _ (Array.getElem?_eq_some_iff.1 hS.2.2.1).1 (own_ne hown hS.2.2.1 (by decide)).symm).trans hS.2.2.1, fun h => by rw [show upI f 7 2 = f 2 from rfl, hf2] at h; cases h⟩ (fun j hj hfj h => factT_end hf2 j _ hj (by rintro rfl; rw [closed_not hcl 20 8 7 (by kernel_rfl) h0] at hfj; cases hfj) h) hown1
              · have e7 := hE.1 rfl
                go_wp2_with fail
                exact hK.out _ _ (hS.step _ (by decide) (Below.refl _ _) hBW) (fun j _ _ h => factT_later (by decide) (by decide) (Below.refl _ _) j _ h) e7
            · intro f v w' hall hF hS
              have e8 := hF 8 (by decide)
              have e8' : OB 5 w.heap.size (v 8) (o2 ++ [32] ++ encF escE tx) w' := e8
              simp only [putAll, Act.put, List.setIfInBounds_toArray, List.set_cons_zero, List.set_cons_succ, Nat.zero_add, Nat.reduceAdd]
              have hb11 := hS.1
              clear hF hall e8 hS hE10 HS
              obtain ⟨W11, hW11⟩ : ∃ W11 : World, W11 = w' := ⟨_, rfl⟩
              rw [← hW11] at hb11 e8' ⊢
              clear hW11
              apply_assumption
              go_wp2_with (at_builtin; refine app_u8 Tryz.underlying23 hi hz0 hz1 hz2 _ _ _ _ _ (10 : UInt8) w.heap.size rfl rfl rfl rfl e8' rfl (by have := HL10.out; simp; omega) (Nat.le_trans hBW hb11.size) ?_; intro v1 w3 hown3 hb3 _ _)
              go_roundw
              case rel => exact ⟨k + 1, _, by omega, by go_num, hown3, hb11.trans hb3, HE⟩
              case measure => simp [intOf]; omega
      · obtain rfl : k = l.length := by omega
        have hd : decide ((l.length : Int) < (l.length : Int)) = false := decide_eq_false (by omega)
        have hdn : decide (l.length < l.length) = false := decide_eq_false (by omega)
        have HO := Lib.hid (show o = fmtO l by rw [HF.out, ← HR.out, List.drop_length]; simp [fmtM])
        clear HR
        go_wp2_with fail
        go_ret2
        exact ⟨_, by rw [HE0.out]; rfl, HO.out ▸ hown, hbel⟩
  · have HF := Lib.hid (show fmtO l = [] by unfold fmtO; rw [if_neg h0])
    have d0 : (errM l != 0) = true := by simpa using h0
    have HE0 := Lib.hid h0
    clear h0
    obtain ⟨A, c, rfl, hc, -⟩ := h
    go_enter Tryz.func8, Tryz.ntmps8
    go_wp2_with fail
    refine V.out.mono ?_
    rintro e w0 ⟨rfl, hb0⟩
    go_wp2_with fail
    go_ret2
    exact ⟨_, rfl, by rw [HF.out]; exact OB.nil_ _ _ _, hb0⟩
end Go.Proofs.YtklnakjmiljmhaaGreatDoor
