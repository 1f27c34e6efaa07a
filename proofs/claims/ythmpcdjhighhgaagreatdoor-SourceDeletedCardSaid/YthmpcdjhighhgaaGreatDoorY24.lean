/- What the code's Parse needs beside its walk: sizes of what is read, what stands between two rounds. · Walks: what the code reads out of bytes. -/
import Derived.Test.YthmpcdjhighhgaaGreatDoorY17
import Derived.Test.YthmpcdjhighhgaaGreatDoorY20
import Derived.Test.YthmpcdjhighhgaaGreatDoorY23
namespace Go.Proofs.YthmpcdjhighhgaaGreatDoor
set_option linter.unusedVariables false
set_option linter.unusedSimpArgs false
set_option maxRecDepth 100000
open Go.RowKit
theorem escO_bd : ∀ (n : Nat) (l o x : List UInt8), l.length ≤ n → decEsc l o = some x → x.length ≤ o.length + l.length := by
  intro n
  induction n with
  | zero =>
    intro l o x hl h
    have : l = [] := List.length_eq_zero_iff.1 (by omega)
    subst this
    rw [decEsc] at h; cases h; simp
  | succ n ih =>
    intro l o x hl h
    match l with
    | [] => rw [decEsc] at h; cases h; simp
    | c :: r =>
      simp only [List.length_cons] at hl ⊢
      by_cases hc : c = 92
      · subst hc
        match r with
        | [] => rw [decEsc_end] at h; cases h
        | d :: r' =>
          simp only [List.length_cons] at hl ⊢
          rw [decEsc_esc] at h
          unfold escO at h
          split at h
          · have := ih r' _ x (by omega) h; simp at this; omega
          · split at h
            · have := ih r' _ x (by omega) h; simp at this; omega
            · split at h
              · have := ih r' _ x (by omega) h; simp at this; omega
              · split at h
                · have := ih r' _ x (by omega) h; simp at this; omega
                · split at h
                  · split at h
                    · cases h
                    · have := ih (r'.drop 2) _ x (by rw [List.length_drop]; omega) h
                      rw [List.length_drop] at this; simp at this; omega
                  · cases h
      · rw [decEsc_own c r o hc] at h
        have := ih r _ x (by omega) h; simp at this; omega
theorem textF_bd {e x : List UInt8} (h : textF e = some x) : x.length ≤ e.length := by
  unfold textF at h
  split at h
  · cases h
  · have := escO_bd _ e [] x (Nat.le_refl _) h; simpa using this
theorem lineC_bd {s : List UInt8} {m : Ms} (h : lineC s = some m) : m.who.length ≤ s.length ∧ m.text.length ≤ s.length := by
  unfold lineC at h
  have hm := fun x (hx : x ∈ Lib.splitN s [32] 5) => splitN_mem hx
  generalize Lib.splitN s [32] 5 = ws at h hm
  unfold lineW at h
  split at h
  · split at h
    · cases h; exact ⟨hm _ (by simp), by simp⟩
    · cases h
  · split at h
    · next hx =>
      cases h
      exact ⟨hm _ (by simp), Nat.le_trans (textF_bd hx) (hm _ (by simp))⟩
    · cases h
  · cases h
theorem readG_app : ∀ (a b : List (List UInt8)) (o : List Ms), readG (a ++ b) o = (readG a o).bind (readG b)
  | [], b, o => rfl
  | x :: a, b, o => by
    rw [List.cons_append, readG, readG]
    cases lineC (chopN x) with
    | none => rfl
    | some m =>
      simp only
      split
      · rfl
      · exact readG_app a b _
/-- What is read is small. -/
def SmO (o : List Ms) : Prop := o.length ≤ 300 ∧ ∀ m ∈ o, m.who.length ≤ 1000000 ∧ m.text.length ≤ 1000000
theorem SmO.small {o : List Ms} (h : SmO o) : Small o := ⟨by have := h.1; omega, h.2⟩
theorem SmO.snoc {o : List Ms} {m : Ms} (h : SmO o) (h3 : ¬ o.length = 300) (h1 : m.who.length ≤ 1000000) (h2 : m.text.length ≤ 1000000) : SmO (o ++ [m]) := by
  refine ⟨by have := h.1; simp; omega, fun x hx => ?_⟩
  rcases List.mem_append.1 hx with hx | hx
  · exact h.2 x hx
  · simp at hx; subst hx; exact ⟨h1, h2⟩
def parseE (l : List UInt8) : Int := if 524288 < l.length then 3 else match parseM l with | none => 10 | some _ => 0
def parseO (l : List UInt8) : List Ms := if 524288 < l.length then [] else (parseM l).getD []
def PsPost (l : List UInt8) (w : World) (e : Ending) (w' : World) : Prop := ∃ v, e = .returned (.tuple #[v, .int .i64 (parseE l)]) ∧ OM w.heap.size v (parseO l) w' ∧ Below w.heap.size w w'
/-- 'out = append(out, x)' of one struct, in a round. -/
theorem app_oneIn {α : Type} {enc : α → List Value} {n : Nat} {F : Fence} {m : Nat} (E : EncS enc n) {P : Program} {T e : TypeId} {i0 : TypeInfo} {z : Value} {by_ : Nat} (ht : P.underlying T = some (.slice e)) (hi : P.info? e = some i0) (hz0 : i0.zero = some z) (hz1 : i0.size = n) (hz2 : i0.bytes = by_) (hzs : z.cells.size = n) (hby : by_ ≤ 1000)
    {w : World} {ops : Array Oper} {rest : List Oper} {op : Oper} {a : Act} {Q : Exit → Act → World → Prop} (s x : Operand) (v : Value) (c : Nat) (o : List α) (r : α) (cs : Array Value) (B g : Nat) (hgw : g = w.heap.size)
    (hgd : op.guard = none) (ho : op.op = .call { callee := .builtin .append, args := #[s, x], argTypes := #[T, T] })
    (hs : a.eval s = v) (hx : a.eval x = .slice (some ⟨g, 0, none⟩) 1 c) (hcs : cs = (enc r).toArray) (hown : OR e n enc B v o w) (hl : o.length ≤ 1000000) (hB : B ≤ w.heap.size)
    (h : ∀ v' w1, OR e n enc B v' (o ++ [r]) w1 → (w.alloc (.cells cs e)).grownBy w1 v.ownBlock → Below B w w1 → wpListIn F m P ops Q rest (a.put op.dst v') w1) :
    wpListIn F m P ops Q (op :: rest) a (w.alloc (.cells cs e)) := by
  subst hcs hgw
  refine wpListIn_append_own _ hgd s x T ho B e i0 z n by_ ht hi hz0 hz1 hz2 hzs E.pos v o.length _ hs (World.ownsRow.alloc hown _) ⟨w.heap.size, 0, none⟩ 1 c (enc r) hx (by rw [E.len]; omega) ?_ (E.one r) (by unfold maxLen; omega) ?_ (by simp; omega) ?_
  · intro j u hj
    rw [Addr.add_lit, Nat.zero_add, World.cell?_alloc_mark]
    simpa using hj
  · have : (o.length + 1) * by_ ≤ (o.length + 1) * 1000 := Nat.mul_le_mul_left _ hby
    omega
  · intro v' w1 hown1 hg _
    refine h v' w1 ?_ hg (((Below.refl B w).alloc hB (.cells (enc r).toArray e)).grown hg (by simp; omega) (fun k hk => (World.ownsRow.lt hown k hk).1))
    show w1.ownsRow B e n v' (o ++ [r]).length (rowF enc (o ++ [r]))
    rw [rowF_app, rowF_single, List.length_append]; exact hown1
theorem BIn.conv {P : Program} {T e d : TypeId} {B n c : Nat} {A : Option Addr} {l : List UInt8} {w : World} (h : BIn B w (.slice A n c) l) (hs : P.underlying T = some (.slice e)) (he : P.underlying e = some (.int .u8)) (hd : P.underlying d = some .string) :
    (convert T d (.slice A n c)).run P w = .ok (.string (bs l)) w := by
  obtain ⟨A', n', c', hv, hn, -, hcell⟩ := h
  injection hv with h1 h2 h3
  subst h1 h2 h3 hn
  rcases hcell with h0 | ⟨ad, rfl, -, hc⟩
  · have : l = [] := List.length_eq_zero_iff.1 h0
    subst this
    cases A with
    | none => exact run_convert_bytes_nil w T e hs he _ _ d hd
    | some ad => exact run_convert_bytes_back w T d e ad c [] hs he hd (fun j hj => by simp at hj)
  · exact run_convert_bytes_back w T d e ad c l hs he hd hc
theorem equalB_any (v u : Value) (x y : List UInt8) (w : World) (hx : (convert 30 9 v).run Tryz.prog w = .ok (.string (bs x)) w) (hy : (convert 30 9 u).run Tryz.prog w = .ok (.string (bs y)) w) :
    Calls Tryz.prog 40 #[v, u] w fun e w' => e = .returned (.bool (x == y)) ∧ w = w' := by
  go_enter Tryz.func40, Tryz.ntmps40
  go_wp2
  go_ret
  exact ⟨ret_bool (by rw [toList_bs', toList_bs']), rfl⟩
end Go.Proofs.YthmpcdjhighhgaaGreatDoor
namespace Go.Proofs.YthmpcdjhighhgaaGreatDoor
set_option linter.unusedVariables false
set_option linter.unusedSimpArgs false
set_option maxRecDepth 100000
open Go.RowKit Go.Shelf
attribute [local go_sem] Oper.semAt_some
/-- Between two rounds: what was read so far, in a box; the results' cells. -/
def PaI (w : World) (pre : List Ln) (W : World) : Prop :=
  ∃ o v, readG (lnL pre) [] = some o ∧ SmO o ∧ W.heap[w.heap.size + 2]? = some (.cells #[v] 29 (0, 0)) ∧ OM (w.heap.size + 4) v o W ∧ W.heap[w.heap.size]? = some (.cells #[.slice none 0 0] 29 (0, 0)) ∧
    W.heap[w.heap.size + 1]? = some (.cells #[.int .i64 0] 31 (0, 0)) ∧ Below w.heap.size w W ∧ w.heap.size + 4 ≤ W.heap.size
/-- The reading has ended early. -/
def PaX (w : World) (pre : List Ln) (W : World) : Prop :=
  readG (lnL pre) [] = none ∧ W.heap[w.heap.size]? = some (.cells #[.slice none 0 0] 29 (0, 0)) ∧ W.heap[w.heap.size + 1]? = some (.cells #[.int .i64 10] 31 (0, 0)) ∧ Below w.heap.size w W
theorem grown_lt {W W' : World} {row : Option Nat} {B k : Nat} {ob : Obj} (hg : W.grownBy W' row) (hr : ∀ r, row = some r → B ≤ r ∧ ∃ o : Obj, W.heap[r]? = some o ∧ o.isCells = false) (hk : k < B) (h : W.heap[k]? = some ob) : W'.heap[k]? = some ob :=
  (hg.block k (Array.getElem?_eq_some_iff.1 h).1 (fun e => by have := (hr k e.symm).1; omega)).trans h
theorem PaI.own (w : World) : OwnFrom (w.heap.size + 4) (PaI w) := by
  rintro s W W' row ⟨o, v, h1, h2, h3, h4, h5, h6, h7, h8⟩ hg hr
  refine ⟨o, v, h1, h2, grown_lt hg hr (by omega) h3, h4.keep (fun k hk => ?_), grown_lt hg hr (by omega) h5, grown_lt hg hr (by omega) h6, h7.grown hg h7.size (fun k hk => by have := (hr k hk).1; omega), Nat.le_trans h8 hg.size⟩
  obtain ⟨-, ob, q1, q2⟩ := own_cells h4 k hk
  exact grownBy_keeps_cells hg (fun r e => (hr r e).2) q1 q2
theorem PaX.own (w : World) : OwnFrom (w.heap.size + 4) (PaX w) := by
  rintro s W W' row ⟨h1, h5, h6, h7⟩ hg hr
  exact ⟨h1, grown_lt hg hr (by omega) h5, grown_lt hg hr (by omega) h6, h7.grown hg h7.size (fun k hk => by have := (hr k hk).1; omega)⟩
theorem PaI.set (w : World) (s : List Ln) (A : World) (v : Value) (h : PaI w s A) : PaI w s (A.setCell ⟨w.heap.size + 1 + 1 + 1, 0, none⟩ v) := by
  obtain ⟨o, u, h1, h2, h3, h4, h5, h6, h7, h8⟩ := h
  have q : ∀ k, k ≠ w.heap.size + 3 → (A.setCell ⟨w.heap.size + 1 + 1 + 1, 0, none⟩ v).heap[k]? = A.heap[k]? := fun k hk => Below.heap_setCell _ _ _ _ (by dsimp only; omega)
  refine ⟨o, u, h1, h2, (q _ (by omega)).trans h3, h4.keep (fun k hk => q k ?_), (q _ (by omega)).trans h5, (q _ (by omega)).trans h6, h7.setCell (p := ⟨w.heap.size + 1 + 1 + 1, 0, none⟩) (by dsimp only; omega) _, by simpa [World.setCell] using h8⟩
  have := (own_cells h4 k hk).1; omega
set_option maxRecDepth 100000 in
set_option maxHeartbeats 2000000 in
theorem parse_any (v : Value) (l : List UInt8) (w : World) (hv : BIn w.heap.size w v l) (hl : l.length ≤ 1000000000) (hV : VrOK w) : Calls Tryz.prog 23 #[v] w (PsPost l w) := by
  have hv0 := hv
  obtain ⟨A, n, c, rfl, rfl, hnc, -⟩ := hv0
  by_cases hlim : 524288 < l.length
  · have hd : decide ((524288 : Int) < (l.length : Int)) = true := decide_eq_true (by omega)
    have hdn : decide (524288 < l.length) = true := decide_eq_true hlim
    have HE := Lib.hid (show parseE l = 3 ∧ parseO l = [] by unfold parseE parseO; rw [if_pos hlim, if_pos hlim]; exact ⟨rfl, rfl⟩)
    clear hv hV hlim
    go_enter Tryz.func23, Tryz.ntmps23
    go_wp2_with fail
    refine bodyPost_ret (v := .tuple #[.slice none 0 0, .int .i64 3]) (by simp [results, Tryz.results23, go_sem]; try rfl) rfl ?_
    exact ⟨_, by rw [HE.out.1], by rw [HE.out.2]; exact OR.nil_ _ _ _, ((Below.refl _ w).alloc (Nat.le_refl _) _).alloc (by simp) _⟩
  · have hd : decide ((524288 : Int) < (l.length : Int)) = false := decide_eq_false (by omega)
    have hdn : decide (524288 < l.length) = false := decide_eq_false hlim
    have hcv := (hv.later ((((Below.refl _ w).alloc (Nat.le_refl _) (.cells #[.slice none 0 0] 29)).alloc (by simp) (.cells #[.int .i64 0] 31)).alloc (by simp; omega) (.cells #[.slice none 0 0] 29))).conv (P := Tryz.prog) (T := 30) (d := 9) Tryz.underlying30 Tryz.underlying5 Tryz.underlying9
    refine (callsIn_wide (n := 9)).1 ?_
    refine callsIn_of_wp_marks Tryz.func23 rfl trivial ?_ rfl
    simp only [Tryz.ntmps23, List.size_toArray, List.length_cons, List.length_nil, Nat.reduceAdd, Nat.reduceSub, Array.replicate_succ, Array.replicate_zero, List.push_toArray, List.append_toArray, List.nil_append, List.cons_append]
    gi_wp2_with (refine ⟨trivial, ?_⟩; gi_at_call 37; refine (lines_in _ _ trivial rfl _ _).mono ?_; rintro e w' ⟨rfl, rfl⟩)
    generalize hw0 : ((((w.alloc (Obj.cells #[Value.slice none 0 0] 29)).alloc (Obj.cells #[Value.int IntKind.i64 0] 31)).alloc (Obj.cells #[Value.slice none 0 0] 29)).alloc (Obj.cells #[Value.string (bs l)] 9)) = w0
    have hsz : w0.heap.size = w.heap.size + 4 := by rw [← hw0]; simp
    have hb0 : Below w.heap.size w w0 := by rw [← hw0]; exact (((((Below.refl _ w).alloc (Nat.le_refl _) _).alloc (by simp) _).alloc (by simp; omega) _).alloc (by simp; omega) _)
    have hr0 : w0.heap[w.heap.size]? = some (.cells #[.slice none 0 0] 29 (0, 0)) := by
      rw [← hw0, Below.heap_alloc _ _ _ (by simp; omega), Below.heap_alloc _ _ _ (by simp; omega), Below.heap_alloc _ _ _ (by simp)]; exact World.alloc_heap_new w _
    have hr1 : w0.heap[w.heap.size + 1]? = some (.cells #[.int .i64 0] 31 (0, 0)) := by
      rw [← hw0, Below.heap_alloc _ _ _ (by simp), Below.heap_alloc _ _ _ (by simp)]
      rw [show w.heap.size + 1 = (w.alloc (Obj.cells #[Value.slice none 0 0] 29)).heap.size by simp]; exact World.alloc_heap_new _ _
    have hr2 : w0.heap[w.heap.size + 2]? = some (.cells #[.slice none 0 0] 29 (0, 0)) := by
      rw [← hw0, Below.heap_alloc _ _ _ (by simp)]
      rw [show w.heap.size + 2 = ((w.alloc (Obj.cells #[Value.slice none 0 0] 29)).alloc (Obj.cells #[Value.int IntKind.i64 0] 31)).heap.size by simp]; exact World.alloc_heap_new _ _
    have hr3 : w0.heap[w.heap.size + 1 + 1 + 1]? = some (.cells #[.string (bs l)] 9 (0, 0)) := by
      rw [← hw0]
      rw [show w.heap.size + 1 + 1 + 1 = (((w.alloc (Obj.cells #[Value.slice none 0 0] 29)).alloc (Obj.cells #[Value.int IntKind.i64 0] 31)).alloc (Obj.cells #[Value.slice none 0 0] 29)).heap.size by simp]; exact World.alloc_heap_new _ _
    have HV := Lib.hid hV
    have HBIN := Lib.hid hv
    clear hw0 hcv hV hv
    have hI0 : PaI w [] w0 := ⟨[], .slice none 0 0, rfl, ⟨by simp, fun m hm => by cases hm⟩, hr2, OR.nil_ _ _ _, hr0, hr1, hb0, by omega⟩
    refine wp_rangeBox rfl (by omega) (gf := 77) (lb := #[.pointer (some ⟨w.heap.size + 1 + 1 + 1, 0, none⟩)]) rfl trivial (enters_of Tryz.func77 (by kernel_rfl) rfl) (b := w.heap.size + 1 + 1 + 1) (by omega)
      (lines1_seq _ (w.heap.size + 1 + 1 + 1) (by omega) (bs l) (by rw [size_bs]; omega) w0 (by omega) (by rw [cell_of_row _ _ _ _ _ _ hr3]; rfl) (by simp [World.frozen?, hr3])) (fun _ => rfl)
      (PaI w) (PaX w) (hsz ▸ PaI.own w) (hsz ▸ PaX.own w) (PaI.set w) hI0
      (fun x => { tmps := #[.slice A l.length c, undef, .pointer (some ⟨w.heap.size, 0, none⟩), .pointer (some ⟨w.heap.size + 1, 0, none⟩), .pointer (some ⟨w.heap.size + 1 + 1, 0, none⟩), .string x.1, undef, undef, .slice A l.length c, .int .i64 (l.length : Int), .bool false, .slice A l.length c, .string (bs l),
        .func (.func 77) #[] #[.pointer (some ⟨w.heap.size + 1 + 1 + 1, 0, none⟩)], .string x.1, undef, undef, undef, undef, undef, undef, undef, undef, undef, undef, undef, undef, undef, undef, undef, undef, undef, undef, undef, undef, undef, undef, undef, undef, undef, undef, undef], defers := [] }) ?assign ?body ?done ?stop
    case assign =>
      intro q x W K hK
      gi_wp2
      exact hK
    case body =>
      rintro q pre x W ⟨o, u, h1, h2, h3, h4, h5, h6, h7, h8⟩ hpre hsW
      have RD : Calls Tryz.prog 38 #[.string x.1] W (RdPost (lineC (chopN (bl x.1))) W) := read_any (bl x.1) W (HV.out.later h7) (by rw [size_list]; exact x.2)
      gi_wp2_with fail
      refine ⟨trivial, (CallsIn.inRound q (callsIn_wide.2 RD)).mono ?_⟩
      rintro e w1 ⟨⟨m, bb, rfl, hbb⟩, hb1⟩
      have hsnoc : readG (lnL (pre ++ [x])) [] = readG [bl x.1] o := by rw [lnL_app, readG_app, h1]; rfl
      obtain ⟨Au, cu, rfl, hcu, -⟩ := OR.cells encM_E h4
      have k2 := (hb1.block _ (by omega)).trans h3
      have k0 := (hb1.block _ (by omega)).trans h5
      have k1 := (hb1.block _ (by omega)).trans h6
      have hown1 := h4.later hb1
      have hbw := h7.trans (hb1.mono h7.size)
      have hko : KeepsOthers W w1 := ⟨hb1.size, fun k ob hk _ => (hb1.block k (Array.getElem?_eq_some_iff.1 hk).1).trans hk⟩
      have hs1 : w.heap.size + 4 ≤ w1.heap.size := Nat.le_trans h8 hb1.size
      have hS1 : w1.heap[w.heap.size + 1 + 1 + 1]? = W.heap[w.heap.size + 1 + 1 + 1]? := hb1.block _ (by omega)
      have c2 : w1.cell? ⟨w.heap.size + 1 + 1, 0, none⟩ = some (.slice Au o.length cu) := by rw [cell_of_row _ _ _ _ _ _ k2]; rfl
      have f2 : w1.frozen? ⟨w.heap.size + 1 + 1, 0, none⟩ = false := by simp [World.frozen?, k2]
      have c0 : w1.cell? ⟨w.heap.size, 0, none⟩ = some (.slice none 0 0) := by rw [cell_of_row _ _ _ _ _ _ k0]; rfl
      have f0 : w1.frozen? ⟨w.heap.size, 0, none⟩ = false := by simp [World.frozen?, k0]
      have c1 : w1.cell? ⟨w.heap.size + 1, 0, none⟩ = some (.int .i64 0) := by rw [cell_of_row _ _ _ _ _ _ k1]; rfl
      have f1 : w1.frozen? ⟨w.heap.size + 1, 0, none⟩ = false := by simp [World.frozen?, k1]
      have hret : ∀ W', W'.heap[w.heap.size]? = some (.cells #[.slice none 0 0] 29 (0, 0)) → W'.heap[w.heap.size + 1]? = some (.cells #[.int .i64 10] 31 (0, 0)) → Below w.heap.size w W' → readG [bl x.1] o = none → PaX w (pre ++ [x]) W' := fun W' q1 q2 q3 q4 => ⟨hsnoc.trans q4, q1, q2, q3⟩
      have hlt1 : w.heap.size < w1.heap.size := by omega
      have hlt2 : w.heap.size + 1 < w1.heap.size := by omega
      have hlt3 : w.heap.size + 1 + 1 < w1.heap.size := by omega
      have HX := Lib.hid (And.intro hsnoc (And.intro k2 (And.intro k0 (And.intro k1 (And.intro hown1 (And.intro hbw (And.intro hko (And.intro hs1 hS1))))))))
      have hfin : ∀ ob : Obj, readG [bl x.1] o = none → KeepsFrom (w.heap.size + 4) W (((w1.setCell ⟨w.heap.size, 0, none⟩ (.slice none 0 0)).setCell ⟨w.heap.size + 1, 0, none⟩ (.int .i64 10)).alloc ob) ∧ PaX w (pre ++ [x]) (((w1.setCell ⟨w.heap.size, 0, none⟩ (.slice none 0 0)).setCell ⟨w.heap.size + 1, 0, none⟩ (.int .i64 10)).alloc ob) := fun ob hR => by
        refine ⟨(((hko.trans (KeepsOthers.setCell _ _ _)).trans (KeepsOthers.setCell _ _ _)).trans (KeepsOthers.alloc _ ob)).from _, hret _ ?_ ?_ ?_ hR⟩
        · rw [Below.heap_alloc _ _ _ (by simp [World.setCell]; omega), Below.heap_setCell _ _ _ _ (by dsimp only; omega)]
          exact set_row k0 _
        · rw [Below.heap_alloc _ _ _ (by simp [World.setCell]; omega)]
          exact set_row ((Below.heap_setCell _ _ _ _ (by dsimp only; omega)).trans k1) _
        · exact ((hbw.setCell (p := ⟨w.heap.size, 0, none⟩) (Nat.le_refl _) _).setCell (p := ⟨w.heap.size + 1, 0, none⟩) (by dsimp only; omega) _).alloc (by simp [World.setCell]; omega) ob
      have HRT := Lib.hid hfin
      have HSM := Lib.hid h2
      have HO := Lib.hid hcu
      clear RD hsnoc k2 k0 k1 hown1 hbw hko hs1 hS1 hret hfin h1 h2 h3 h4 h5 h6 h7 h8 hr0 hr1 hr2 hr3 hI0 hb0 hcu hb1
      have HB := Lib.hid hbb
      clear hbb
      obtain ⟨mk, mi, mw, mt, mx⟩ := m
      have hN : readG [bl x.1] o = (match lineC (chopN (bl x.1)) with | none => none | some m => if o.length = 300 then none else some (o ++ [m])) := by rw [readG]; rfl
      have HN := Lib.hid hN; clear hN
      unfold encM
      dsimp only
      cases bb with
      | false =>
        have HR := Lib.hid (show readG [bl x.1] o = none by
          rcases HB.out with ⟨h, -⟩ | ⟨-, h⟩
          · cases h
          · rw [HN.out, h])
        gi_wp2_with fail
        exact HRT.out _ HR.out
      | true =>
        have HR := Lib.hid (show lineC (chopN (bl x.1)) = some ⟨mk, mi, mw, mt, mx⟩ by
          rcases HB.out with ⟨-, h⟩ | ⟨h, -⟩
          · exact h
          · cases h)
        by_cases h3 : o.length = 300
        · have d3 : ((o.length : Int) == 300) = true := by simp [h3]
          have d3n : (o.length == 300) = true := by simp [h3]
          have HR2 := Lib.hid (show readG [bl x.1] o = none by rw [HN.out, HR.out]; simp only; rw [if_pos h3])
          gi_wp2_with fail
          exact HRT.out _ HR2.out
        · have d3 : ((o.length : Int) == 300) = false := beq_eq_false_iff_ne.2 (by omega)
          have d3n : (o.length == 300) = false := beq_eq_false_iff_ne.2 h3
          have HR2 := Lib.hid (show readG [bl x.1] o = some (o ++ [⟨mk, mi, mw, mt, mx⟩]) by rw [HN.out, HR.out]; simp only; rw [if_neg h3])
          obtain ⟨i0, hi, hz0, hz1, hz2⟩ := info_parts info_msg
          obtain ⟨hsnoc, k2, k0, k1, hown1, hbw, hko, hs1, hS1⟩ := HX.out
          have hbd := HR.out
          have hol := HSM.out.1
          have hownA := hown1.later ((Below.refl _ _).alloc (Nat.le_refl _) (.cells #[.int .i64 mk, .int .i64 mi, .string (bs mw), .int .i64 mt, .string (bs mx)] 28))
          have hsA : w.heap.size + 4 ≤ (w1.alloc (.cells #[.int .i64 mk, .int .i64 mi, .string (bs mw), .int .i64 mt, .string (bs mx)] 28)).heap.size := by simp; omega
          have HBL := Lib.hid (fun (w3 : World) (hb3 : Below (w.heap.size + 4) (w1.alloc (.cells #[.int .i64 mk, .int .i64 mi, .string (bs mw), .int .i64 mt, .string (bs mx)] 28)) w3) (k : Nat) (hk : k < w.heap.size + 4) => (hb3.block k hk).trans (Below.heap_alloc w1 (.cells #[.int .i64 mk, .int .i64 mi, .string (bs mw), .int .i64 mt, .string (bs mx)] 28) k (by omega)))
          have HYY := Lib.hid (And.intro hsnoc (And.intro k2 (And.intro k0 (And.intro k1 (And.intro hbw (And.intro hko (And.intro hs1 (And.intro hS1 hbd))))))))
          clear hsnoc k2 k0 k1 hown1 hbw hko hs1 hS1 hbd HX HRT
          gi_wp2_with (gi_at_builtin; refine app_oneIn encM_E Tryz.underlying29 hi hz0 hz1 hz2 rfl (by decide) _ _ _ _ o ⟨mk, mi, mw, mt, mx⟩ _ (w.heap.size + 4) _ (by simp) rfl rfl rfl rfl rfl hownA (by omega) hsA ?_; intro v1 w3 hown3 hg3 hb3; obtain ⟨A1, c1', rfl, hc1', -⟩ := OR.cells encM_E hown3; have r2 := (HBL.out w3 hb3 (w.heap.size + 2) (by omega)).trans HYY.out.2.1; have c2' : w3.cell? ⟨w.heap.size + 1 + 1, 0, none⟩ = some (.slice Au o.length cu) := (by rw [cell_of_row _ _ _ _ _ _ r2]; rfl); have f2' : w3.frozen? ⟨w.heap.size + 1 + 1, 0, none⟩ = false := (by simp [World.frozen?, r2]); have HR2' := Lib.hid r2; clear r2)
          obtain ⟨hsnoc, k2, k0, k1, hbw, hko, hs1, hS1, hbd⟩ := HYY.out
          obtain ⟨hbd1, hbd2⟩ := lineC_bd hbd
          have hxl := x.2
          have hcl := chopN_len (bl x.1)
          rw [size_list] at hcl
          have hne3 : ∀ k, k ≠ w.heap.size + 2 → (w3.setCell ⟨w.heap.size + 1 + 1, 0, none⟩ (.slice A1 (o.length + 1) c1')).heap[k]? = w3.heap[k]? := fun k hk => Below.heap_setCell _ _ _ _ (by dsimp only; omega)
          have hb3' := (hbw.alloc (by omega) (.cells #[.int .i64 mk, .int .i64 mi, .string (bs mw), .int .i64 mt, .string (bs mx)] 28)).trans (hb3.mono (by omega))
          refine ⟨?_, ?_, o ++ [⟨mk, mi, mw, mt, mx⟩], .slice A1 (o.length + 1) c1', hsnoc.trans HR2.out, HSM.out.snoc h3 (by omega) (by omega), set_row HR2'.out _, ?_, ?_, ?_, hb3'.setCell (p := ⟨w.heap.size + 1 + 1, 0, none⟩) (by dsimp only; omega) _, ?_⟩
          · refine KeepsOthers.from ((((hko.trans (KeepsOthers.alloc _ _)).trans (KeepsOthers.alloc _ _)).trans (KeepsOthers.of_grownBy hg3 (fun j ob hj ho => ?_))).trans (KeepsOthers.setCell _ _ _)) _
            obtain ⟨-, ob', q1, q2⟩ := own_cells hownA j hj
            rw [Below.heap_alloc _ _ _ (Array.getElem?_eq_some_iff.1 q1).1, q1] at ho
            cases ho; exact q2
          · rw [hne3 _ (by omega), HBL.out w3 hb3 _ (by omega), hS1]
          · have h5 : OM (w.heap.size + 4) (.slice A1 (o.length + 1) c1') (o ++ [⟨mk, mi, mw, mt, mx⟩]) w3 := by simpa using hown3
            exact h5.keep (fun k hk => hne3 k (by have := (own_cells h5 k hk).1; omega))
          · rw [hne3 _ (by omega), HBL.out w3 hb3 _ (by omega), k0]
          · rw [hne3 _ (by omega), HBL.out w3 hb3 _ (by omega), k1]
          · have := hb3.size; simp [World.setCell] at this ⊢; omega
    case done =>
      rintro D ys W hD hS ⟨o, u, h1, h2, h3, h4, h5, h6, h7, h8⟩ hK
      rw [hS, bl_bs] at h1
      have hMC := MC.of_own h4
      have VA := valid_any u o W hMC h2.small
      have c2 : W.cell? ⟨w.heap.size + 1 + 1, 0, none⟩ = some u := by rw [cell_of_row _ _ _ _ _ _ h3]; rfl
      have hVW := HV.out.later h7
      have hDlt := (Array.getElem?_eq_some_iff.1 hK).1
      obtain ⟨Au, cu, rfl, hcu, -⟩ := OR.cells encM_E h4
      have c0 : W.cell? ⟨w.heap.size, 0, none⟩ = some (.slice none 0 0) := by rw [cell_of_row _ _ _ _ _ _ h5]; rfl
      have f0 : W.frozen? ⟨w.heap.size, 0, none⟩ = false := by simp [World.frozen?, h5]
      have c1 : W.cell? ⟨w.heap.size + 1, 0, none⟩ = some (.int .i64 0) := by rw [cell_of_row _ _ _ _ _ _ h6]; rfl
      have f1 : W.frozen? ⟨w.heap.size + 1, 0, none⟩ = false := by simp [World.frozen?, h6]
      have HK := Lib.hid (fun (W' : World) (hb : Below W.heap.size W W') => show (W'.cell? ⟨w.heap.size, 0, none⟩ = some (.slice none 0 0) ∧ W'.frozen? ⟨w.heap.size, 0, none⟩ = false ∧ W'.cell? ⟨w.heap.size + 1, 0, none⟩ = some (.int .i64 0) ∧ W'.frozen? ⟨w.heap.size + 1, 0, none⟩ = false ∧ W'.cell? ⟨w.heap.size + 1 + 1, 0, none⟩ = some (.slice Au o.length cu)) from
        ⟨(World.cell?_of_block (a := ⟨w.heap.size, 0, none⟩) (hb.block w.heap.size (by omega))).trans c0, (frozen_blk (hb.block w.heap.size (by omega))).trans f0, (World.cell?_of_block (a := ⟨w.heap.size + 1, 0, none⟩) (hb.block (w.heap.size + 1) (by omega))).trans c1, (frozen_blk (hb.block (w.heap.size + 1) (by omega))).trans f1, (World.cell?_of_block (a := ⟨w.heap.size + 1 + 1, 0, none⟩) (hb.block (w.heap.size + 1 + 1) (by omega))).trans c2⟩)
      -- what stands behind the stores of a return
      have HRes := Lib.hid (fun (W' : World) (hb : Below W.heap.size W W') (v : Value) (x : Int) (hx : parseE l = x) (hv : OM (w.heap.size + 4) v (parseO l) W) =>
        show ∃ W2, W2 = ((W'.setCell ⟨w.heap.size, 0, none⟩ v).setCell ⟨w.heap.size + 1, 0, none⟩ (.int .i64 x)) ∧ W2.heap[D]? = some (.deferred (some [])) ∧ (W2.putObj D (.deferred none)).cell? ⟨w.heap.size, 0, none⟩ = some v ∧ (W2.putObj D (.deferred none)).cell? ⟨w.heap.size + 1, 0, none⟩ = some (.int .i64 x) ∧
          PsPost l w (.returned (.tuple #[v, .int .i64 x])) (W2.putObj D (.deferred none)) from by
        have hD2 : ((W'.setCell ⟨w.heap.size, 0, none⟩ v).setCell ⟨w.heap.size + 1, 0, none⟩ (.int .i64 x)).heap[D]? = some (.deferred (some [])) := by
          rw [Below.heap_setCell _ _ _ _ (by dsimp only; omega), Below.heap_setCell _ _ _ _ (by dsimp only; omega), hb.block D hDlt]; exact hK
        have hr5 := (hb.block _ (by omega)).trans h5
        have hr6 := (hb.block _ (by omega)).trans h6
        refine ⟨_, rfl, hD2, ?_, ?_, _, by rw [hx], ?_, ?_⟩
        · rw [cell_of_row _ _ _ _ _ _ ((World.putObj_heap_other (by omega)).trans ((Below.heap_setCell _ _ _ _ (by dsimp only; omega)).trans (set_row hr5 v)))]; rfl
        · rw [cell_of_row _ _ _ _ _ _ ((World.putObj_heap_other (by omega)).trans (set_row ((Below.heap_setCell _ _ _ _ (by dsimp only; omega)).trans hr6) (.int .i64 x)))]; rfl
        · have hv2 := hv.keep (w1 := ((W'.setCell ⟨w.heap.size, 0, none⟩ v).setCell ⟨w.heap.size + 1, 0, none⟩ (.int .i64 x)).putObj D (.deferred none)) (fun k hk => by
            obtain ⟨q1, ob, q2, q3⟩ := own_cells hv k hk
            have hkD : k ≠ D := fun e => by subst e; rw [hK] at q2; cases q2; cases q3
            rw [World.putObj_heap_other hkD, Below.heap_setCell _ _ _ _ (by dsimp only; omega), Below.heap_setCell _ _ _ _ (by dsimp only; omega), hb.block k (Array.getElem?_eq_some_iff.1 q2).1])
          exact hv2.mono (by omega)
        · exact ((((h7.trans (hb.mono h7.size)).setCell (p := ⟨w.heap.size, 0, none⟩) (Nat.le_refl _) _).setCell (p := ⟨w.heap.size + 1, 0, none⟩) (by dsimp only; omega) _).trans (belowK_b (w := w) (Nat.le_refl _) _ D _ _ (by omega) hD2 rfl rfl)))
      have hEQv := fun (W' : World) (hb : Below w.heap.size w W') => (HBIN.out.later hb).conv (P := Tryz.prog) (T := 30) (d := 9) Tryz.underlying30 Tryz.underlying5 Tryz.underlying9
      by_cases he : errM o = 0
      · obtain ⟨p1, p2, p3, p4, -, -⟩ := errM_ok.1 he
        have WR := fun (W' : World) (hb : Below W.heap.size W W') => write_any _ o W' (hMC.later hb (Nat.le_refl _)) (fun m hm => ⟨p3 m hm, p4 m hm⟩) p1 p2 (hVW.later hb)
        have HWR := Lib.hid WR
        rw [he] at VA
        have HVA := Lib.hid VA
        have HEQ := Lib.hid hEQv
        have HOW := Lib.hid h4
        have HE0 := Lib.hid he
        have H1 := Lib.hid h1
        have HBW := Lib.hid h7
        clear VA he WR hEQv h1 h2 h3 h4 h5 h6 hMC c0 c1 f0 f1 p1 p2 p3 p4 h7 hVW
        gi_wp2_with fail
        refine ⟨trivial, (callsIn_wide.2 HVA.out).mono ?_⟩
        rintro e w1 ⟨rfl, hb1⟩
        have c2 := (HK.out w1 hb1).2.2.2.2
        gi_wp2_with fail
        refine ⟨trivial, (callsIn_wide.2 (HWR.out w1 hb1)).mono ?_⟩
        rintro e w2 ⟨v2, rfl, hv2, hb2⟩
        have hb3 := hb1.trans (hb2.mono hb1.size)
        obtain ⟨A2, n2, c2', rfl⟩ := hv2.form_
        have EQ := equalB_any _ _ (fmtM o) l w2 (hv2.conv (P := Tryz.prog) (T := 30) (d := 9) Tryz.underlying30 Tryz.underlying5 Tryz.underlying9) (HEQ.out w2 (HBW.out.trans (hb3.mono HBW.out.size)))
        have HEQ2 := Lib.hid EQ
        clear EQ hv2 HEQ HWR hb1 hb2
        gi_wp2_with fail
        refine ⟨trivial, (callsIn_wide.2 HEQ2.out).mono ?_⟩
        rintro e w3 ⟨rfl, rfl⟩
        cases hq : (fmtM o == l) with
        | true =>
          have HP := Lib.hid (show parseE l = 0 ∧ parseO l = o by
            have h := parse_good HE0.out (eq_of_beq hq)
            unfold parseE parseO; rw [if_neg hlim, if_neg hlim, h]; exact ⟨rfl, rfl⟩)
          clear hq
          obtain ⟨c0, f0, c1, f1, c2⟩ := HK.out _ hb3
          obtain ⟨W2, hW2, hD2, r0, r1, hps⟩ := HRes.out _ hb3 (.slice Au o.length cu) 0 HP.out.1 (by rw [HP.out.2]; exact HOW.out)
          have HPS := Lib.hid (And.intro hW2 (And.intro hD2 (And.intro r0 (And.intro r1 hps))))
          clear hW2 hD2 r0 r1 hps
          gi_wp2_with fail
          obtain ⟨hW2, hD2, r0, r1, hps⟩ := HPS.out
          rw [← hW2]
          refine ⟨by simp, .inl ⟨_, _, rfl, run_takeDeferred hD2, ?_⟩⟩
          exact ⟨.tuple #[.slice Au o.length cu, .int .i64 0], by simp [results, Tryz.results23, go_sem, r0, r1]; try rfl, hps⟩
        | false =>
          have HP := Lib.hid (show parseE l = 10 ∧ parseO l = [] by
            have h : parseM l = none := parseC_odd H1.out (fun h => by rw [h.2] at hq; simp at hq)
            unfold parseE parseO; rw [if_neg hlim, if_neg hlim, h]; exact ⟨rfl, rfl⟩)
          clear hq
          obtain ⟨c0, f0, c1, f1, c2⟩ := HK.out _ hb3
          obtain ⟨W2, hW2, hD2, r0, r1, hps⟩ := HRes.out _ hb3 (.slice none 0 0) 10 HP.out.1 (by rw [HP.out.2]; exact OR.nil_ _ _ _)
          have HPS := Lib.hid (And.intro hW2 (And.intro hD2 (And.intro r0 (And.intro r1 hps))))
          clear hW2 hD2 r0 r1 hps
          gi_wp2_with fail
          obtain ⟨hW2, hD2, r0, r1, hps⟩ := HPS.out
          rw [← hW2]
          refine ⟨by simp, .inl ⟨_, _, rfl, run_takeDeferred hD2, ?_⟩⟩
          exact ⟨.tuple #[.slice none 0 0, .int .i64 10], by simp [results, Tryz.results23, go_sem, r0, r1]; try rfl, hps⟩
      · have hne : (errM o != 0) = true := by simpa using he
        have hnone : parseM l = none := parseC_odd h1 (fun h => he h.1)
        have HP := Lib.hid (show parseE l = 10 ∧ parseO l = [] by unfold parseE parseO; rw [if_neg hlim, if_neg hlim, hnone]; exact ⟨rfl, rfl⟩)
        obtain ⟨E, hE⟩ : ∃ E, errM o = E := ⟨_, rfl⟩
        rw [hE] at VA hne
        have HVA := Lib.hid VA
        clear VA hE he hEQv hnone h1 h2 h3 h4 h5 h6 hMC c0 c1 f0 f1
        gi_wp2_with fail
        refine ⟨trivial, (callsIn_wide.2 HVA.out).mono ?_⟩
        rintro e w1 ⟨rfl, hb1⟩
        obtain ⟨c0, f0, c1, f1, c2⟩ := HK.out w1 hb1
        obtain ⟨W2, hW2, hD2, r0, r1, hps⟩ := HRes.out w1 hb1 (.slice none 0 0) 10 HP.out.1 (by rw [HP.out.2]; exact OR.nil_ _ _ _)
        have HPS := Lib.hid (And.intro hW2 (And.intro hD2 (And.intro r0 (And.intro r1 hps))))
        clear hW2 hD2 r0 r1 hps
        gi_wp2_with fail
        refine ⟨trivial, ?_⟩
        gi_wp2_with fail
        refine ⟨trivial, ?_⟩
        gi_wp2_with fail
        obtain ⟨hW2, hD2, r0, r1, hps⟩ := HPS.out
        rw [← hW2]
        refine ⟨by simp, .inl ⟨_, _, rfl, run_takeDeferred hD2, ?_⟩⟩
        exact ⟨.tuple #[.slice none 0 0, .int .i64 10], by simp [results, Tryz.results23, go_sem, r0, r1]; try rfl, hps⟩
    case stop =>
      rintro D pre W hD ⟨r, hS⟩ ⟨h1, h5, h6, h7⟩ hK
      gi_wp2
      refine ⟨by simp, .inl ⟨_, _, rfl, run_takeDeferred hK, ?_⟩⟩
      have c0 : (W.putObj D (.deferred none)).cell? ⟨w.heap.size, 0, none⟩ = some (.slice none 0 0) := by rw [cell_of_row _ _ _ _ _ _ ((World.putObj_heap_other (by omega)).trans h5)]; rfl
      have c1 : (W.putObj D (.deferred none)).cell? ⟨w.heap.size + 1, 0, none⟩ = some (.int .i64 10) := by rw [cell_of_row _ _ _ _ _ _ ((World.putObj_heap_other (by omega)).trans h6)]; rfl
      have hnone : parseM l = none := parseC_bad (by rw [← bl_bs l, hS, readG_app, h1]; rfl)
      refine ⟨.tuple #[.slice none 0 0, .int .i64 10], by simp [results, Tryz.results23, go_sem, c0, c1]; try rfl, ?_⟩
      exact ⟨_, by unfold parseE; rw [if_neg hlim, hnone], by unfold parseO; rw [if_neg hlim, hnone]; exact OR.nil_ _ _ _, h7.trans (belowK_b (w := w) (Nat.le_refl _) W D _ _ (by omega) hK rfl rfl)⟩
end Go.Proofs.YthmpcdjhighhgaaGreatDoor
