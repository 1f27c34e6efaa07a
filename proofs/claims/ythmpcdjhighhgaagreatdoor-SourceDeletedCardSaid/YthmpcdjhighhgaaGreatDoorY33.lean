/- Archives: bytes in pieces as they are. · Archives: the example's entry. -/
import Derived.Test.YthmpcdjhighhgaaGreatDoorY32
import Derived.Test.YthmpcdjhighhgaaGreatDoorY24
import Derived.Test.YthmpcdjhighhgaaGreatDoorY13
namespace Go.Proofs.YthmpcdjhighhgaaGreatDoor
set_option linter.unusedVariables false
set_option linter.unusedSimpArgs false
set_option maxRecDepth 100000
open Go.RowKit Go.Shelf
attribute [local go_sem] Oper.semAt_some
theorem chunkP_in (F : Fence) (n : Nat) (h54 : F.fn 107) (hro : F.round = none) (a : Option Addr) (len cap : Nat) (w : World) :
    CallsIn F n Tryz.prog 107 #[.slice a len cap, .int .i64 128] w fun e w' => e = .returned (.func (.func 167) #[] #[.pointer (some ⟨w.heap.size, 0, none⟩), .pointer (some ⟨w.heap.size + 1, 0, none⟩)]) ∧
      w' = (w.alloc (.cells #[.slice a len cap] 30)).alloc (.cells #[.int .i64 128] 3) := by
  refine callsIn_of_wp Tryz.func107 rfl h54 ?_ hro
  simp only [Tryz.ntmps107, List.size_toArray, List.length_cons, List.length_nil, Nat.reduceAdd, Nat.reduceSub, Array.replicate_succ, Array.replicate_zero, List.push_toArray, List.append_toArray, List.nil_append, List.cons_append]
  gi_wp2
  go_ret
  exact ⟨rfl, rfl⟩
set_option maxRecDepth 100000 in
set_option maxHeartbeats 2000000 in
theorem chunk1P_in (F : Fence) (n : Nat) (h71 : F.fn 167) (hro : F.round = none) (hn : 1 ≤ n) (l s m : Nat) (ad : Addr) (len cap : Nat) (hlc : len ≤ cap) (hl : len ≤ 100000) (J Jx : List Nat → World → Prop)
    (hJa : ∀ pre (A : World), J pre A → J pre A.drew)
    (hY : ∀ pre x W, J pre W → pre.length < (len + 127) / 128 → YieldAt F (n - 1) Tryz.prog l #[.slice (some (ad.add (128 * x))) (min 128 (len - 128 * x)) (min 128 (len - 128 * x))] W fun e W' =>
      (e = .returned (.bool true) ∧ J (pre ++ [x]) W' ∧ KpC s m W W') ∨ (e = .returned (.bool false) ∧ Jx (pre ++ [x]) W'))
    (W : World) (hs : W.cell? ⟨s, 0, none⟩ = some (.slice (some ad) len cap)) (hm : W.cell? ⟨m, 0, none⟩ = some (.int .i64 128)) (h0 : J [] W) :
    CallsIn F n Tryz.prog 167 #[.func (.yield l) #[] #[], .pointer (some ⟨s, 0, none⟩), .pointer (some ⟨m, 0, none⟩)] W fun e W' => (∃ v, e = .returned v) ∧
      ((∃ ys, ys = List.range ((len + 127) / 128) ∧ J ys W') ∨ (∃ pre, True ∧ Jx pre W')) := by
  refine callsIn_of_wp Tryz.func167 rfl h71 ?_ hro
  simp only [Tryz.ntmps167, List.size_toArray, List.length_cons, List.length_nil, Nat.reduceAdd, Nat.reduceSub, Array.replicate_succ, Array.replicate_zero, List.push_toArray, List.append_toArray, List.nil_append, List.cons_append]
  gi_wp2
  gi_loopw [4] (fun i wr => ∃ k : Nat, 128 * k < len + 128 ∧ i = .int .i64 (128 * (k : Int)) ∧ J (List.range k) wr ∧ KpC s m W wr)
    (fun i _ => len - (intOf i).toNat)
  case atStart => exact ⟨0, by omega, rfl, h0, KpC.refl _ _ _⟩
  case round =>
    obtain ⟨k, hk, rfl, hJs, hkp⟩ := hrel
    have hs1 : wr.cell? ⟨s, 0, none⟩ = some (.slice (some ad) len cap) := (World.cell?_of_block hkp.1).trans hs
    have hm1 : wr.cell? ⟨m, 0, none⟩ = some (.int .i64 128) := (World.cell?_of_block hkp.2).trans hm
    by_cases hlt : 128 * k < len
    · have hd : decide (128 * (k : Int) < len) = true := decide_eq_true (by omega)
      obtain ⟨fn, tmps, assign, body, hy, hR⟩ := hY _ k wr.drew (hJa _ _ hJs) (by rw [List.length_range]; omega)
      have hmx : Tryz.prog.follows .mixedOrders = true := by kernel_rfl
      have e1 : (128 * (k : Int) + min 128 ((len - 128 * k : Nat) : Int)).toNat - 128 * k = min 128 (len - 128 * k) := by omega
      rw [← e1] at hy
      have hck : ¬ cap = 128 * k := by omega
      clear e1
      gi_wp2
      gi_region
      all_goals
        gi_wp2
        refine hR.mono ?_
        rintro e W3 (⟨rfl, hJ3, hk3⟩ | ⟨rfl, hJx3⟩)
        · have hm3 : W3.cell? ⟨m, 0, none⟩ = some (.int .i64 128) := (World.cell?_of_block hk3.2).trans hm1
          gi_wp2
          go_roundw
          case rel => exact ⟨k + 1, by omega, by go_num, by rw [List.range_succ]; exact hJ3, KpC.trans hkp hk3⟩
          case measure => simp [intOf]; omega
        · gi_wp2
          refine bodyPost_ret (results_none rfl _ _ _) rfl ?_
          exact ⟨⟨_, rfl⟩, .inr ⟨_, trivial, hJx3⟩⟩
    · have hd : decide (128 * (k : Int) < len) = false := decide_eq_false (by omega)
      have hkk : k = (len + 127) / 128 := by omega
      have HKK := Lib.hid hkk; clear hkk
      gi_wp2
      go_end0
      exact ⟨⟨_, rfl⟩, .inl ⟨_, by rw [HKK.out], hJs⟩⟩
theorem chunkP_stops (F : Fence) (n : Nat) (h71 : F.fn 167) (hro : F.round = none) (hn : 1 ≤ n) (s m : Nat) (A : Option Addr) (ad : Addr) (len cap : Nat) (hlc : len ≤ cap) (hl : len ≤ 100000) (hA : len = 0 ∨ A = some ad) (w : World)
    (hs : w.cell? ⟨s, 0, none⟩ = some (.slice A len cap)) (hm : w.cell? ⟨m, 0, none⟩ = some (.int .i64 128)) (hsw : s < w.heap.size) (hmw : m < w.heap.size) :
    SeqStopsK F n Tryz.prog 167 #[.pointer (some ⟨s, 0, none⟩), .pointer (some ⟨m, 0, none⟩)] (fun x : Nat => #[Value.slice (some (ad.add (128 * x))) (min 128 (len - 128 * x)) (min 128 (len - 128 * x))]) (KpC s m)
      (fun ys => ys = List.range ((len + 127) / 128)) (fun _ => True) ((len + 127) / 128) w := fun l J Jx W hW hJ _ hY h0 => by
  have hs' := (hW.cell (p := ⟨s, 0, none⟩) hsw).trans hs
  have hm' := (hW.cell (p := ⟨m, 0, none⟩) hmw).trans hm
  by_cases h : len = 0
  · subst h
    exact (chunk0_in F n h71 hro l s m A cap J W hs' h0).mono fun e W' ⟨he, hj⟩ => ⟨he, .inl ⟨[], rfl, hj⟩⟩
  · obtain rfl := hA.resolve_left h
    exact chunk1P_in F n h71 hro hn l s m ad len cap hlc hl J Jx (fun pre A hA => hJ pre A A.drew none hA ⟨rfl, rfl, rfl, Nat.le_refl _, fun _ _ _ => rfl⟩ (fun r e => by cases e)) hY W hs' hm' h0
/-- 'append(out, row...)' of bytes in a round. -/
theorem app_cellsIn {F : Fence} {m : Nat} {P : Program} {T e : TypeId} {i0 : TypeInfo} (ht : P.underlying T = some (.slice e)) (hi : P.info? e = some i0) (hz0 : i0.zero = some (.int .u8 0)) (hz1 : i0.size = 1) (hz2 : i0.bytes = 1)
    {w : World} {ops : Array Oper} {rest : List Oper} {o : Oper} {a : Act} {Q : Exit → Act → World → Prop} (s x : Operand) (v : Value) (l r : List UInt8) (ad : Addr) (k cap : Nat) (B : Nat)
    (hgd : o.guard = none) (ho : o.op = .call { callee := .builtin .append, args := #[s, x], argTypes := #[T, T] })
    (hs : a.eval s = v) (hx : a.eval x = .slice (some ad) k cap) (hm : k = r.length) (hown : OB e B v l w) (hc : ∀ j (h : j < r.length), w.cell? (ad.add j) = some (.int .u8 r[j].toNat)) (hl : l.length + r.length < 1000000000) (hB : B ≤ w.heap.size)
    (h : ∀ v' w1, OB e B v' (l ++ r) w1 → w.grownBy w1 v.ownBlock → Below B w w1 → wpListIn F m P ops Q rest (a.put o.dst v') w1) :
    wpListIn F m P ops Q (o :: rest) a w := by
  subst hm
  refine wpListIn_append_own _ hgd s x T ho B e i0 (.int .u8 0) 1 1 ht hi hz0 hz1 hz2 rfl (by decide) v l.length _ hs hown ad r.length cap (r.map fun c => Value.int .u8 c.toNat) hx (by simp) ?_ (oneCell_bytes r) ?_ ?_ hB ?_
  · intro j u hj
    rw [List.getElem?_map] at hj
    obtain ⟨y, hy, rfl⟩ := Option.map_eq_some_iff.1 hj
    obtain ⟨hjl, rfl⟩ := List.getElem?_eq_some_iff.1 hy
    exact hc j hjl
  · unfold maxLen; omega
  · omega
  · intro v' w1 hown1 hg _
    exact h v' w1 (by simpa [OB] using hown1) hg ((Below.refl B w).grown hg hB (fun k hk => (hown.lt k hk).1))
def chnkP (l : List UInt8) (x : Nat) : List UInt8 := (l.drop (128 * x)).take 128
theorem chnkP_len (l : List UInt8) (x : Nat) : (chnkP l x).length = min 128 (l.length - 128 * x) := by simp [chnkP]
/-- One less than a piece's length, as a byte. -/
def lenB (g : List UInt8) : UInt8 := UInt8.ofNat ((g.length + 255) % 256)
theorem lenB_nat (g : List UInt8) : ((lenB g).toNat : Int) = ((g.length : Int) - 1) % 256 := by unfold lenB; rw [UInt8.toNat_ofNat']; omega
def flatP (l : List UInt8) (pre : List Nat) : List UInt8 := (pre.map fun x => lenB (chnkP l x) :: chnkP l x).flatten
theorem flatP_snoc (l : List UInt8) (pre : List Nat) (x : Nat) : flatP l (pre ++ [x]) = (flatP l pre ++ [lenB (chnkP l x)]) ++ chnkP l x := by simp [flatP]
theorem flatP_len (l : List UInt8) (pre : List Nat) : (flatP l pre).length ≤ 129 * pre.length := by
  induction pre with
  | nil => simp [flatP]
  | cons x r ih => simp only [flatP, List.map_cons, List.flatten_cons, List.length_append, List.length_cons] at ih ⊢; have := chnkP_len l x; omega
/-- Bytes in pieces as they are. -/
def plainP (l : List UInt8) : List UInt8 := flatP l (List.range ((l.length + 127) / 128))
/-- Between two pieces. -/
def PlnI (w : World) (l : List UInt8) (pre : List Nat) (W : World) : Prop := (∃ v, W.heap[w.heap.size]? = some (.cells #[v] 30 (0, 0)) ∧ OB 5 (w.heap.size + 3) v (flatP l pre) W) ∧ (Below w.heap.size w W ∧ w.heap.size + 3 ≤ W.heap.size)
theorem PlnI.own (w : World) (l : List UInt8) : OwnFrom (w.heap.size + 3) (PlnI w l) := by
  rintro s W W' row ⟨⟨v, h1, h2⟩, h3, h4⟩ hg hr
  refine ⟨⟨v, (hg.block _ (Array.getElem?_eq_some_iff.1 h1).1 (fun e => by have := (hr _ e.symm).1; omega)).trans h1, OB.keep h2 (fun k hk => ?_)⟩, h3.grown hg h3.size (fun k hk => by have := (hr k hk).1; omega), Nat.le_trans h4 hg.size⟩
  obtain ⟨-, ob, q1, q2⟩ := own_cells h2 k hk
  exact grownBy_keeps_cells hg (fun r e => (hr r e).2) q1 q2
set_option maxRecDepth 100000 in
set_option maxHeartbeats 2000000 in
theorem plain_any (v : Value) (l : List UInt8) (w : World) (hl : l.length ≤ 100000) (hv : BIn w.heap.size w v l) :
    Calls Tryz.prog 55 #[v] w fun e w' => ∃ u, e = .returned u ∧ OB 5 w.heap.size u (plainP l) w' ∧ Below w.heap.size w w' := by
  obtain ⟨i0, hi, hz0, hz1, hz2⟩ := info_parts info_u8
  obtain ⟨A, n, c, rfl, rfl, hnc, hcell⟩ := hv
  obtain ⟨ad, hA⟩ : ∃ ad : Addr, l.length = 0 ∨ (A = some ad ∧ ad.block < w.heap.size ∧ ∀ j (h : j < l.length), w.cell? (ad.add j) = some (.int .u8 l[j].toNat)) := by
    rcases hcell with h | ⟨ad, h⟩
    · exact ⟨⟨0, 0, none⟩, .inl h⟩
    · exact ⟨ad, .inr h⟩
  clear hcell
  refine (callsIn_wide (n := 5)).1 ?_
  refine callsIn_of_wp_marks Tryz.func55 rfl trivial ?_ rfl
  simp only [Tryz.ntmps55, List.size_toArray, List.length_cons, List.length_nil, Nat.reduceAdd, Nat.reduceSub, Array.replicate_succ, Array.replicate_zero, List.push_toArray, List.append_toArray, List.nil_append, List.cons_append]
  gi_wp2_with (refine ⟨trivial, ?_⟩; gi_at_call 107; refine (chunkP_in _ _ trivial rfl _ _ _ _).mono ?_; rintro e w' ⟨rfl, rfl⟩)
  generalize hw0 : (((w.alloc (Obj.cells #[Value.slice none 0 0] 30)).alloc (Obj.cells #[Value.slice A l.length c] 30)).alloc (Obj.cells #[Value.int IntKind.i64 128] 3)) = w0
  have hsz : w0.heap.size = w.heap.size + 3 := by rw [← hw0]; simp
  have hb0 : Below w.heap.size w w0 := by rw [← hw0]; exact (((Below.refl _ w).alloc (Nat.le_refl _) _).alloc (by simp) _).alloc (by simp; omega) _
  have hbb : w0.heap[w.heap.size]? = some (.cells #[.slice none 0 0] 30 (0, 0)) := by
    rw [← hw0, Below.heap_alloc _ _ _ (by simp; omega), Below.heap_alloc _ _ _ (by simp)]; exact World.alloc_heap_new w _
  have hss : w0.cell? ⟨w.heap.size + 1, 0, none⟩ = some (.slice A l.length c) := by
    rw [← hw0, World.cell?_alloc_lt _ _ _ (by simp)]
    rw [show w.heap.size + 1 = (w.alloc (Obj.cells #[Value.slice none 0 0] 30)).heap.size by simp, World.cell?_alloc_mark]; rfl
  have hmm : w0.cell? ⟨w.heap.size + 1 + 1, 0, none⟩ = some (.int .i64 128) := by
    rw [← hw0]
    rw [show w.heap.size + 1 + 1 = ((w.alloc (Obj.cells #[Value.slice none 0 0] 30)).alloc (Obj.cells #[Value.slice A l.length c] 30)).heap.size by simp, World.cell?_alloc_mark]; rfl
  have HSZ := Lib.hid hsz
  clear hw0
  refine wpIn_rangeFunc_ownG rfl (by omega) (gf := 167) (lb := #[.pointer (some ⟨w.heap.size + 1, 0, none⟩), .pointer (some ⟨w.heap.size + 1 + 1, 0, none⟩)]) rfl trivial (enters_of Tryz.func167 (by kernel_rfl) rfl)
    (chunkP_stops Fence.wide _ trivial rfl (by omega) (w.heap.size + 1) (w.heap.size + 1 + 1) A ad l.length c hnc hl (hA.imp id (·.1)) w0 hss hmm (by omega) (by omega)) KpC.trans
    (fun W q o o' hq hW _ _ => ⟨World.putObj_heap_other (by omega), World.putObj_heap_other (by omega)⟩) (Below.refl _ _) (fun _ => rfl)
    (PlnI w l) (fun _ _ _ => False) (hsz ▸ PlnI.own w l) (fun _ _ _ _ _ hs _ _ => hs)
    ⟨⟨_, hbb, OB.nil_ _ _ _⟩, hb0, by omega⟩
    (fun x => { tmps := #[.slice A l.length c, undef, .slice none 0 0, .pointer (some ⟨w.heap.size, 0, none⟩), Value.slice (some (ad.add (128 * x))) (min 128 (l.length - 128 * x)) (min 128 (l.length - 128 * x)), .slice A l.length c,
      .func (.func 167) #[] #[.pointer (some ⟨w.heap.size + 1, 0, none⟩), .pointer (some ⟨w.heap.size + 1 + 1, 0, none⟩)], Value.slice (some (ad.add (128 * x))) (min 128 (l.length - 128 * x)) (min 128 (l.length - 128 * x)), undef, undef, undef, undef, undef, undef, undef, undef, undef, undef], defers := [] }) ?assign ?body ?done ?stop
  case assign =>
    intro q x W K hK
    gi_wp2
    exact hK
  case body =>
    rintro q pre x W ⟨⟨v, h1, h2⟩, h3, hsW⟩ hpre
    have hcs : ∀ j (h : j < (chnkP l x).length), W.cell? ((ad.add (128 * x)).add j) = some (.int .u8 ((chnkP l x)[j]).toNat) := by
      intro j hj
      have hj2 : 128 * x + j < l.length := by rw [chnkP_len] at hj; omega
      obtain ⟨-, hab, hc⟩ := hA.resolve_left (by omega)
      rw [Addr.add_add]
      rw [(World.cell?_of_block (by rw [Reads_block]; exact h3.block ad.block hab)).trans (hc (128 * x + j) hj2)]
      simp [chnkP]
    have hab : (chnkP l x).length = 0 ∨ (ad.add (128 * x)).block < w.heap.size := hA.imp (fun h => by rw [chnkP_len]; omega) (fun h => by rw [Reads_block]; exact h.2.1)
    have hnl := chnkP_len l x
    rw [← hnl]
    have h128 : (chnkP l x).length ≤ 128 := by omega
    have hol := flatP_len l pre
    have hout := Lib.hid (flatP_snoc l pre x)
    have hob : (flatP l pre).length ≤ 500000 := by omega
    clear hol hnl hA hpre hbb hss hmm hb0 hsz
    have c0 : W.cell? ⟨w.heap.size, 0, none⟩ = some v := by rw [cell_of_row _ _ _ _ _ _ h1]; rfl
    obtain ⟨A0, n0, c0', rfl⟩ := h2.form_
    have hlt0 := (Array.getElem?_eq_some_iff.1 h1).1
    have hlb := lenB_nat (chnkP l x)
    have HLB := Lib.hid hlb
    have HH := Lib.hid (And.intro h1 h3)
    clear h1 h3 hlb
    generalize ad.add (128 * x) = ax at *
    generalize chnkP l x = g at *
    generalize flatP l pre = o at *
    have hb1 : Below W.heap.size W (W.alloc (.cells #[.int .u8 (((g.length : Int) - 1) % 256)] 5)) := (Below.refl _ _).alloc (Nat.le_refl _) _
    have h21 := h2.after hb1
    have hc1 : ∀ j (h : j < [lenB g].length), (W.alloc (.cells #[.int .u8 (((g.length : Int) - 1) % 256)] 5)).cell? ((⟨W.heap.size, 0, none⟩ : Addr).add j) = some (.int .u8 ([lenB g])[j].toNat) := by
      intro j hj
      obtain rfl : j = 0 := by simp at hj; omega
      rw [Addr.add_lit, World.cell?_alloc_mark]
      simp [HLB.out]
    have HC := Lib.hid (show ∀ w1, Below (w.heap.size + 3) W w1 → ∀ j (h : j < g.length), w1.cell? (ax.add j) = some (.int .u8 g[j].toNat) from fun w1 hb j hj => (World.cell?_of_block (by rw [Reads_block]; exact hb.block _ (by rcases hab with h | h <;> omega))).trans (hcs j hj))
    have hb13 := hb1.mono hsW
    clear hcs
    gi_wp2_with (gi_at_builtin; first | (refine app_cellsIn Tryz.underlying30 hi hz0 hz1 hz2 _ _ _ o [lenB g] ⟨W.heap.size, 0, none⟩ 1 1 (w.heap.size + 3) rfl rfl rfl rfl rfl h21 hc1 (by simp; omega) (by simp; omega) ?_; intro v1 w1 hown1 hg1 hb1'; obtain ⟨A1, n1, c1', rfl⟩ := hown1.form_) | (refine app_cellsIn Tryz.underlying30 hi hz0 hz1 hz2 _ _ _ (o ++ [lenB g]) g ax g.length _ (w.heap.size + 3) rfl rfl rfl rfl rfl hown1 (HC.out _ (hb13.trans hb1')) (by simp; omega) (Nat.le_trans hsW (hb13.trans hb1').size) ?_; intro v2 w2 hown2 hg2 hb2'; obtain ⟨A2, n2, c2', rfl⟩ := hown2.form_; have hbA := (hb13.trans hb1').trans hb2'; have r2 := (hbA.block w.heap.size (by omega)).trans HH.out.1; have c2x : w2.cell? ⟨w.heap.size, 0, none⟩ = some (.slice A0 n0 c0') := (by rw [cell_of_row _ _ _ _ _ _ r2]; rfl); have f2x : w2.frozen? ⟨w.heap.size, 0, none⟩ = false := (by simp [World.frozen?, r2]); have HR2 := Lib.hid r2; clear r2))
    have hko : KeepsOthers W (w2.setCell ⟨w.heap.size, 0, none⟩ (.slice A2 n2 c2')) := by
      refine (((KeepsOthers.alloc _ _).trans (KeepsOthers.of_grownBy hg1 (fun j ob hj ho => ?_))).trans (KeepsOthers.of_grownBy hg2 (fun j ob hj ho => ?_))).trans (KeepsOthers.setCell _ _ _)
      · obtain ⟨-, ob', q1, q2⟩ := own_cells h21 j hj
        rw [q1] at ho
        cases ho; exact q2
      · obtain ⟨-, ob', q1, q2⟩ := own_cells hown1 j hj
        rw [q1] at ho
        cases ho; exact q2
    have hz2 : w.heap.size + 3 ≤ w2.heap.size := Nat.le_trans hsW hbA.size
    refine ⟨hko.from _, ⟨(Below.heap_setCell _ _ _ _ (by dsimp only; omega)).trans (hbA.block _ (by omega)), (Below.heap_setCell _ _ _ _ (by dsimp only; omega)).trans (hbA.block _ (by omega))⟩, ⟨.slice A2 n2 c2', set_row HR2.out _, ?_⟩, (HH.out.2.trans (hbA.mono (by omega))).setCell (p := ⟨w.heap.size, 0, none⟩) (Nat.le_refl _) _, by simpa [World.setCell] using hz2⟩
    rw [hout.out]
    exact OB.keep hown2 (fun k hk => Below.heap_setCell _ _ _ _ (by have := (own_cells hown2 k hk).1; dsimp only; omega))
  case done =>
    rintro D ys W hD rfl ⟨⟨v, h1, h2⟩, h3, hsW⟩ hK
    have c0 : W.cell? ⟨w.heap.size, 0, none⟩ = some v := by rw [cell_of_row _ _ _ _ _ _ h1]; rfl
    obtain ⟨A0, n0, c0', rfl⟩ := h2.form_
    gi_wp2
    refine ⟨by simp, .inl ⟨_, _, rfl, run_takeDeferred hK, ?_⟩⟩
    have hv2 := OB.keep h2 (w1 := W.putObj D (.deferred none)) (fun k hk => by
      obtain ⟨q1, ob, q2, q3⟩ := own_cells h2 k hk
      have hkD : k ≠ D := fun e => by subst e; rw [hK] at q2; cases q2; cases q3
      rw [World.putObj_heap_other hkD])
    exact ⟨_, results_tmp rfl _ _ _, _, rfl, obMono hv2 (by omega), h3.trans (belowK_b (w := w) (Nat.le_refl _) W D _ _ (by omega) hK rfl rfl)⟩
  case stop =>
    rintro D c pre W _ _ h _
    exact h.elim
end Go.Proofs.YthmpcdjhighhgaaGreatDoor
namespace Go.Proofs.YthmpcdjhighhgaaGreatDoor
set_option linter.unusedVariables false
set_option linter.unusedSimpArgs false
set_option maxRecDepth 100000
open Go.RowKit
set_option maxHeartbeats 2000000 in
theorem pack1_any (ad : Addr) (c : Nat) (w : World) (hc : 1 ≤ c) (hlt : ad.block < w.heap.size) (h0 : w.cell? ad = some (.int .u8 120)) : Calls Tryz.prog 30 #[.slice (some ad) 1 c] w fun e w' => ∃ u, e = .returned u ∧ OB 5 w.heap.size u [0, 120] w' ∧ Below w.heap.size w w' := by
  obtain ⟨i0, hi, hz0, hz1, hz2⟩ := info_parts info_u8
  go_enter Tryz.func30, Tryz.ntmps30
  go_wp2
  go_loopw [0, 3, 4] (fun b x v wr => x = .slice none 0 0 ∧ Below w.heap.size w wr ∧ ((b = .slice (some ad) 1 c ∧ v = .slice none 0 0) ∨ (∃ A c', b = .slice A 0 c' ∧ OB 5 w.heap.size v [120] wr))) (fun b _ _ _ => match b with | .slice _ n _ => n | _ => 0)
  case atStart => exact ⟨rfl, Below.refl _ _, .inl ⟨rfl, rfl⟩⟩
  case round =>
    obtain ⟨rfl, hb, ⟨rfl, rfl⟩ | ⟨A, c', rfl, hv⟩⟩ := hrel
    · have h0' := (World.cell?_of_block (hb.block ad.block hlt)).trans h0
      have HB := Lib.hid hb
      clear hb
      go_wp2_with fail
      refine (row1_any ad c _ h0').mono ?_
      rintro e w1 ⟨rfl, hb1⟩
      have hb2 := HB.out.trans (hb1.mono HB.out.size)
      have h01 := (World.cell?_of_block (hb2.block ad.block hlt)).trans h0
      have hn0 := OB.nil_ 5 w.heap.size w1
      have h011 : ∀ j (h : j < [(120 : UInt8)].length), w1.cell? (ad.add j) = some (.int .u8 ([(120 : UInt8)])[j].toNat) := by
        intro j hj
        obtain rfl : j = 0 := by simp at hj; omega
        exact (congrArg _ (show ad.add 0 = ad by cases ad with | mk x y z => cases z <;> simp [Addr.add])).trans h01
      have HB2 := Lib.hid hb2
      clear hb1 hb2 HB h0'
      go_wp2_with (at_builtin; refine app_BIn Tryz.underlying30 hi hz0 hz1 hz2 _ _ _ [] [120] ad 1 _ w.heap.size rfl rfl rfl rfl rfl hn0 h011 (by simp) HB2.out.size ?_; intro v1 w2 hown1 hb3)
      go_roundw
      case rel => exact ⟨rfl, HB2.out.trans hb3, .inr ⟨_, _, rfl, hown1⟩⟩
      case measure => simp
    · have hbi := BIn.of_OB hv
      have HB := Lib.hid hb
      clear hb
      go_wp2_with fail
      refine (plain_any _ _ _ (by simp) hbi).mono ?_
      rintro e w1 ⟨u, rfl, hu, hb1⟩
      have hn0 := OB.nil_ 5 w.heap.size w1
      have hb2 := HB.out.trans (hb1.mono HB.out.size)
      have hpl : plainP [120] = [0, 120] := by decide
      rw [hpl] at hu
      obtain ⟨A1, n1, c1, rfl⟩ := hu.form_
      have HB2 := Lib.hid hb2
      clear hb1 hb2 HB
      go_wp2_with (at_builtin; refine app_OB Tryz.underlying30 hi hz0 hz1 hz2 _ _ _ _ [] [0, 120] w.heap.size _ rfl rfl rfl rfl hn0 hu (by simp) HB2.out.size ?_; intro v1 w2 hown1 hb3)
      go_ret
      exact ⟨_, rfl, hown1, HB2.out.trans hb3⟩
theorem indexE0_any (A : Option Addr) (c : Nat) (f : Value) (w : World) : Calls Tryz.prog 106 #[.slice A 0 c, f] w fun e w' => e = .returned (.int .i64 (-1)) ∧ w' = w := by
  go_enter Tryz.func106, Tryz.ntmps106
  go_wp2
  refine wp_loop_rounds 1 ?_
  rw [rounds_succ]
  go_wp2
  go_ret
  exact ⟨rfl, rfl⟩
theorem containsE0_any (A : Option Addr) (c : Nat) (f : Value) (w : World) : Calls Tryz.prog 52 #[.slice A 0 c, f] w fun e w' => e = .returned (.bool false) ∧ w' = w := by
  go_enter Tryz.func52, Tryz.ntmps52
  go_wp2_with fail
  refine (indexE0_any A c f w).mono ?_
  rintro e w1 ⟨rfl, rfl⟩
  go_wp2
  go_ret
  exact ⟨rfl, rfl⟩
/-- The example's name. -/
def nmA : ByteArray := ⟨#[97]⟩
set_option maxHeartbeats 2000000 in
theorem valid1_any (g c : Nat) (A : Option Addr) (c' : Nat) (w : World) (hc : 1 ≤ c) (hlt : g < w.heap.size) (h0 : w.cell? ⟨g, 0, none⟩ = some (.string ⟨#[97]⟩)) (h1 : w.cell? ⟨g, 1, none⟩ = some (.slice A 1 c')) : Calls Tryz.prog 28 #[.slice (some ⟨g, 0, none⟩) 1 c] w fun e w' => e = .returned (.int .i64 0) ∧ Below w.heap.size w w' := by
  have hlt0 := hlt
  go_enter Tryz.func28, Tryz.ntmps28
  go_wp2_with fail
  refine wp_loop_rounds 2 ?_
  rw [rounds_succ]
  go_wp2_with fail
  rw [rounds_succ]
  go_wp2_with fail
  refine wp_loop_rounds 2 ?_
  rw [rounds_succ]
  go_wp2_with fail
  refine (arcNamed_any _ _ (by decide)).mono ?_
  rintro e w1 ⟨rfl, hb1⟩
  have hb2 := (((Below.refl w.heap.size w).alloc (Nat.le_refl _) (.cells #[.string ⟨#[97]⟩, .slice A 1 c'] 55)).alloc (by simp) (.cells #[.string ⟨#[97]⟩, .slice A 1 c'] 55)).trans (hb1.mono (by simp; omega))
  have hok : arcOK (bl ⟨#[97]⟩) = true := by decide
  rw [hok]
  have h0' := (hb2.cell (p := ⟨g, 0, none⟩) hlt0).trans h0
  have h1' := (hb2.cell (p := ⟨g, 1, none⟩) hlt0).trans h1
  have HB2 := Lib.hid hb2
  clear hb1 hb2 h0 h1
  go_wp2_with fail
  rw [rounds_succ]
  go_wp2_with fail
  refine wp_loop_rounds 2 ?_
  rw [rounds_succ]
  go_wp2_with fail
  refine (containsE0_any _ _ _ _).mono ?_
  rintro e w2 ⟨rfl, rfl⟩
  go_wp2_with fail
  rw [rounds_succ]
  go_wp2_with fail
  go_ret
  exact ⟨rfl, HB2.out.alloc HB2.out.size _⟩
end Go.Proofs.YthmpcdjhighhgaaGreatDoor
