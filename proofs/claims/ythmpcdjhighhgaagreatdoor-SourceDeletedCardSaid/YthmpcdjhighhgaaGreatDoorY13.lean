/- The walk of the code's encoder of the second coding: a range over chunks. -/
import Derived.Test.YthmpcdjhighhgaaGreatDoorY12
import Derived.Test.YthmpcdjhighhgaaGreatDoorY10
import Derived.Shelf.Strings.BuilderK
namespace Go.Proofs.YthmpcdjhighhgaaGreatDoor
set_option linter.unusedVariables false
set_option linter.unusedSimpArgs false
set_option maxRecDepth 100000
open Go.RowKit Go.Shelf
attribute [local go_sem] Oper.semAt_some
theorem chunk0_in (F : Fence) (n : Nat) (h71 : F.fn 167) (hro : F.round = none) (l s m : Nat) (A : Option Addr) (cap : Nat) (J : List Nat → World → Prop)
    (W : World) (hs : W.cell? ⟨s, 0, none⟩ = some (.slice A 0 cap)) (h0 : J [] W) :
    CallsIn F n Tryz.prog 167 #[.func (.yield l) #[] #[], .pointer (some ⟨s, 0, none⟩), .pointer (some ⟨m, 0, none⟩)] W fun e W' => (∃ v, e = .returned v) ∧ J [] W' := by
  refine callsIn_of_wp Tryz.func167 rfl h71 ?_ hro
  simp only [Tryz.ntmps167, List.size_toArray, List.length_cons, List.length_nil, Nat.reduceAdd, Nat.reduceSub, Array.replicate_succ, Array.replicate_zero, List.push_toArray, List.append_toArray, List.nil_append, List.cons_append]
  gi_wp2
  gi_loopw [4] (fun i wr => i = .int .i64 0 ∧ wr = W) (fun _ _ => 0)
  case atStart => exact ⟨rfl, rfl⟩
  case round =>
    obtain ⟨rfl, rfl⟩ := hrel
    gi_wp2
    go_end0
    exact ⟨⟨_, rfl⟩, h0⟩
theorem chunk_stops (F : Fence) (n : Nat) (h71 : F.fn 167) (hro : F.round = none) (hn : 1 ≤ n) (s m : Nat) (A : Option Addr) (ad : Addr) (len cap : Nat) (hlc : len ≤ cap) (hl : len ≤ 100000) (hA : len = 0 ∨ A = some ad) (w : World)
    (hs : w.cell? ⟨s, 0, none⟩ = some (.slice A len cap)) (hm : w.cell? ⟨m, 0, none⟩ = some (.int .i64 3)) (hsw : s < w.heap.size) (hmw : m < w.heap.size) :
    SeqStopsK F n Tryz.prog 167 #[.pointer (some ⟨s, 0, none⟩), .pointer (some ⟨m, 0, none⟩)] (fun x : Nat => #[Value.slice (some (ad.add (3 * x))) (min 3 (len - 3 * x)) (min 3 (len - 3 * x))]) (KpC s m)
      (fun ys => ys = List.range ((len + 2) / 3)) (fun _ => True) ((len + 2) / 3) w := fun l J Jx W hW hJ _ hY h0 => by
  have hs' := (hW.cell (p := ⟨s, 0, none⟩) hsw).trans hs
  have hm' := (hW.cell (p := ⟨m, 0, none⟩) hmw).trans hm
  by_cases h : len = 0
  · subst h
    exact (chunk0_in F n h71 hro l s m A cap J W hs' h0).mono fun e W' ⟨he, hj⟩ => ⟨he, .inl ⟨[], rfl, hj⟩⟩
  · obtain rfl := hA.resolve_left h
    exact chunk1_in F n h71 hro hn l s m ad len cap hlc hl J Jx (fun pre A hA => hJ pre A A.drew none hA ⟨rfl, rfl, rfl, Nat.le_refl _, fun _ _ _ => rfl⟩ (fun r e => by cases e)) hY W hs' hm' h0
/-! A group of up to three bytes. -/
def acc64 (g : List UInt8) : Nat → Int
  | 0 => 0
  | k + 1 => acc64 g k * 256 + ((g.getD k 0).toNat : Int)
theorem acc64_bd (g : List UInt8) : 0 ≤ acc64 g 0 ∧ acc64 g 0 < 1 ∧ 0 ≤ acc64 g 1 ∧ acc64 g 1 < 256 ∧ 0 ≤ acc64 g 2 ∧ acc64 g 2 < 65536 ∧ 0 ≤ acc64 g 3 ∧ acc64 g 3 < 16777216 := by
  have h0 := (g.getD 0 0).toNat_lt
  have h1 := (g.getD 1 0).toNat_lt
  have h2 := (g.getD 2 0).toNat_lt
  simp only [acc64]
  omega
def sgn64 (g : List UInt8) (i : Nat) : UInt8 := if g.length < i then 61 else sgnB (acc64 g 3 / 2 ^ (18 - 6 * i) % 64)
def grpE (g : List UInt8) : List UInt8 := [sgn64 g 0, sgn64 g 1, sgn64 g 2, sgn64 g 3]
def chnk (l : List UInt8) (x : Nat) : List UInt8 := (l.drop (3 * x)).take 3
theorem chnk_len (l : List UInt8) (x : Nat) : (chnk l x).length = min 3 (l.length - 3 * x) := by simp [chnk]
def flat64 (l : List UInt8) (pre : List Nat) : List UInt8 := (pre.map fun x => grpE (chnk l x)).flatten
theorem flat64_snoc (l : List UInt8) (pre : List Nat) (x : Nat) : flat64 l (pre ++ [x]) = flat64 l pre ++ grpE (chnk l x) := by simp [flat64]
theorem flat64_len (l : List UInt8) (pre : List Nat) : (flat64 l pre).length = 4 * pre.length := by
  induction pre with
  | nil => rfl
  | cons x r ih => simp only [flat64, List.map_cons, List.flatten_cons, List.length_append, List.length_cons] at ih ⊢; rw [ih]; simp [grpE]; omega
theorem grpE_1 (a : UInt8) : grpE [a] = b64E [a] := by
  have ha := a.toNat_lt
  simp only [grpE, sgn64, b64E, acc64, List.length_cons, List.length_nil, List.getD, List.getElem?_cons_zero, List.getElem?_cons_succ, List.getElem?_nil, Option.getD]
  simp
  refine ⟨?_, ?_⟩ <;> (congr 1; omega)
theorem grpE_2 (a b : UInt8) : grpE [a, b] = b64E [a, b] := by
  have ha := a.toNat_lt
  have hb := b.toNat_lt
  simp only [grpE, sgn64, b64E, acc64, List.length_cons, List.length_nil, List.getD, List.getElem?_cons_zero, List.getElem?_cons_succ, List.getElem?_nil, Option.getD]
  simp
  refine ⟨?_, ?_, ?_⟩ <;> (congr 1; omega)
theorem grpE_3 (a b c : UInt8) (r : List UInt8) : grpE [a, b, c] ++ b64E r = b64E (a :: b :: c :: r) := by
  have ha := a.toNat_lt
  have hb := b.toNat_lt
  have hc := c.toNat_lt
  simp only [grpE, sgn64, b64E, acc64, List.length_cons, List.length_nil, List.getD, List.getElem?_cons_zero, List.getElem?_cons_succ, List.getElem?_nil, Option.getD]
  simp
  refine ⟨?_, ?_, ?_, ?_⟩ <;> (congr 1; omega)
theorem flat64_cons (a b c : UInt8) (r : List UInt8) (n : Nat) : flat64 (a :: b :: c :: r) (List.range (n + 1)) = grpE [a, b, c] ++ flat64 r (List.range n) := by
  rw [List.range_succ_eq_map]
  simp only [flat64, List.map_cons, List.flatten_cons, List.map_map]
  congr 1
theorem b64E_flat (l : List UInt8) : flat64 l (List.range ((l.length + 2) / 3)) = b64E l := by
  match l with
  | [] => rfl
  | [a] => rw [← grpE_1]; simp [flat64, chnk]
  | [a, b] => rw [← grpE_2]; simp [flat64, chnk]
  | a :: b :: c :: r =>
    have h : ((a :: b :: c :: r).length + 2) / 3 = (r.length + 2) / 3 + 1 := by simp; omega
    rw [h, flat64_cons, b64E_flat r, grpE_3]
theorem idx_sgnB0 : ∀ n : Fin 64, signs[n.val]'(Nat.lt_of_lt_of_eq n.isLt (by decide)) = sgnB (n.val : Int) := by decide +kernel
theorem idx_sgnB (k : IntKind) (y : Int) (h0 : 0 ≤ y) (h1 : y < 64) (w : World) : (Instr.index 9 (.string signs) (.int k y)).run Tryz.prog w = .ok (.int .u8 (sgnB y).toNat) w := by
  obtain ⟨n, rfl⟩ := Int.eq_ofNat_of_zero_le h0
  have hn : n < 64 := by omega
  have h := run_idx_str (P := Tryz.prog) Tryz.underlying9 signs n (Nat.lt_of_lt_of_eq hn (by decide)) k (n : Int) rfl w
  rw [idx_sgnB0 ⟨n, hn⟩] at h
  exact h
theorem builder_string_k (B b : Nat) (l : List UInt8) (w : World) (h : Lib.IsBuilder 208 5 B b (Lib.byteCells l) w) (hBw : B ≤ w.heap.size) :
    Calls Tryz.prog 135 #[.pointer (some ⟨b, 0, none⟩)] w fun e w' => e = .returned (.string (bs l)) ∧ Below B w w' ∧ Lib.OthersKept 5 (some b) w w' :=
  (Any.Builder_String_any_k lays169 Builder_Extra_169 B b l w (Lib.IsBuilderF.of h) hBw).mono fun _ _ ⟨h1, _, h2, h3⟩ => ⟨h1, h2, h3⟩
set_option maxRecDepth 100000 in
set_option maxHeartbeats 2000000 in
theorem encodeBase64_any (v : Value) (l : List UInt8) (w : World) (hl : l.length ≤ 100000) (hv : BIn w.heap.size w v l) :
    Calls Tryz.prog 148 #[v] w fun e w' => e = .returned (.string (bs (b64E l))) ∧ Below w.heap.size w w' := by
  obtain ⟨A, n, c, rfl, rfl, hnc, hcell⟩ := hv
  obtain ⟨ad, hA⟩ : ∃ ad : Addr, l.length = 0 ∨ (A = some ad ∧ ad.block < w.heap.size ∧ ∀ j (h : j < l.length), w.cell? (ad.add j) = some (.int .u8 l[j].toNat)) := by
    rcases hcell with h | ⟨ad, h⟩
    · exact ⟨⟨0, 0, none⟩, .inl h⟩
    · exact ⟨ad, .inr h⟩
  clear hcell
  refine (callsIn_wide (n := 5)).1 ?_
  refine callsIn_of_wp_marks Tryz.func148 rfl trivial ?_ rfl
  simp only [Tryz.ntmps148, List.size_toArray, List.length_cons, List.length_nil, Nat.reduceAdd, Nat.reduceSub, Array.replicate_succ, Array.replicate_zero, List.push_toArray, List.append_toArray, List.nil_append, List.cons_append]
  gi_wp2_with (refine ⟨trivial, ?_⟩; gi_at_call 107; refine (chunk_in _ _ trivial rfl _ _ _ _).mono ?_; rintro e w' ⟨rfl, rfl⟩)
  generalize hw0 : (((w.alloc (Obj.cells #[Value.pointer none, Value.slice none 0 0] 208)).alloc (Obj.cells #[Value.slice A l.length c] 30)).alloc (Obj.cells #[Value.int IntKind.i64 3] 3)) = w0
  have hsz : w0.heap.size = w.heap.size + 3 := by rw [← hw0]; simp
  have hb0 : Below w.heap.size w w0 := by rw [← hw0]; exact (((Below.refl _ w).alloc (Nat.le_refl _) _).alloc (by simp) _).alloc (by simp; omega) _
  have hbb : w0.heap[w.heap.size]? = some (.cells #[.pointer none, .slice none 0 0] 208 (0, 0)) := by
    rw [← hw0, Below.heap_alloc _ _ _ (by simp; omega), Below.heap_alloc _ _ _ (by simp)]; exact World.alloc_heap_new w _
  have hss : w0.cell? ⟨w.heap.size + 1, 0, none⟩ = some (.slice A l.length c) := by
    rw [← hw0, World.cell?_alloc_lt _ _ _ (by simp)]
    rw [show w.heap.size + 1 = (w.alloc (Obj.cells #[Value.pointer none, Value.slice none 0 0] 208)).heap.size by simp, World.cell?_alloc_mark]; rfl
  have hmm : w0.cell? ⟨w.heap.size + 1 + 1, 0, none⟩ = some (.int .i64 3) := by
    rw [← hw0]
    rw [show w.heap.size + 1 + 1 = ((w.alloc (Obj.cells #[Value.pointer none, Value.slice none 0 0] 208)).alloc (Obj.cells #[Value.slice A l.length c] 30)).heap.size by simp, World.cell?_alloc_mark]; rfl
  have HSZ := Lib.hid hsz
  clear hw0
  refine wpIn_rangeFunc_ownG rfl (by omega) (gf := 167) (lb := #[.pointer (some ⟨w.heap.size + 1, 0, none⟩), .pointer (some ⟨w.heap.size + 1 + 1, 0, none⟩)]) rfl trivial (enters_of Tryz.func167 (by kernel_rfl) rfl)
    (chunk_stops Fence.wide _ trivial rfl (by omega) (w.heap.size + 1) (w.heap.size + 1 + 1) A ad l.length c hnc hl (hA.imp id (·.1)) w0 hss hmm (by omega) (by omega)) KpC.trans
    (fun W q o o' hq hW _ _ => ⟨World.putObj_heap_other (by omega), World.putObj_heap_other (by omega)⟩) (Below.refl _ _) (fun _ => rfl)
    (fun pre W => BuC w.heap.size (w.heap.size + 3) (flat64 l pre) W ∧ Below w.heap.size w W)
    (fun _ _ _ => False)
    (OwnFrom.and (Own.from (I := fun pre W => BuC w.heap.size (w.heap.size + 3) (flat64 l pre) W) (fun s A B row hs hg hr => BuC.turn hs hg hr) _) (ownFrom_below (Nat.le_refl _) (by omega)))
    (fun _ _ _ _ _ hs _ _ => hs)
    ⟨BuC.fresh (by omega) (by omega) hbb, hb0⟩
    (fun x => { tmps := #[.slice A l.length c, undef, .string ⟨#[]⟩, .pointer (some ⟨w.heap.size, 0, none⟩), Value.slice (some (ad.add (3 * x))) (min 3 (l.length - 3 * x)) (min 3 (l.length - 3 * x)), undef, undef, undef, .slice A l.length c,
      .func (.func 167) #[] #[.pointer (some ⟨w.heap.size + 1, 0, none⟩), .pointer (some ⟨w.heap.size + 1 + 1, 0, none⟩)], Value.slice (some (ad.add (3 * x))) (min 3 (l.length - 3 * x)) (min 3 (l.length - 3 * x)), undef, undef, undef, undef, undef, undef, undef, undef, undef, undef, undef, undef, undef, undef, undef, undef, undef, undef, undef, undef, undef, undef, undef, undef, undef, undef, undef, undef, undef, undef, undef, undef, undef, undef, undef], defers := [] }) ?assign ?body ?done ?stop
  case assign =>
    intro q x W K hK
    gi_wp2
    exact hK
  case body =>
    rintro q pre x W ⟨hbu, hbe⟩ hpre
    have hcs : ∀ j (h : j < (chnk l x).length), W.cell? ((ad.add (3 * x)).add j) = some (.int .u8 ((chnk l x).getD j 0).toNat) := by
      intro j hj
      have hj2 : 3 * x + j < l.length := by rw [chnk_len] at hj; omega
      obtain ⟨-, hab, hc⟩ := hA.resolve_left (by omega)
      rw [Addr.add_add]
      rw [(World.cell?_of_block (by rw [Reads_block]; exact hbe.block ad.block hab)).trans (hc (3 * x + j) hj2)]
      simp [chnk, List.getElem?_take, List.getD, hj2, show j < 3 by rw [chnk_len] at hj; omega]
    have hnl := chnk_len l x
    rw [← hnl]
    have h3 : (chnk l x).length ≤ 3 := by omega
    have hol := flat64_len l pre
    have hout := Lib.hid (flat64_snoc l pre x)
    have hob : (flat64 l pre).length ≤ 500000 := by omega
    clear hol hnl hA hpre hbb hss hmm hb0 hsz
    generalize ad.add (3 * x) = ax at *
    generalize chnk l x = g at *
    generalize flat64 l pre = o at *
    obtain ⟨hB0, hB1, hB2, hB3, hB4, hB5, hB6, hB7⟩ := acc64_bd g
    gi_wp2
    gi_loop [5, 11] (fun bv i => ∃ k : Nat, k ≤ 3 ∧ i = .int .i64 (k : Int) ∧ bv = .int .i64 (acc64 g k)) (fun _ i => (3 - intOf i).toNat)
    case atStart => exact ⟨0, by omega, rfl, rfl⟩
    case round =>
      obtain ⟨k, hk, rfl, rfl⟩ := hrel
      by_cases hlt : k < 3
      · have hd : decide ((k : Int) < 3) = true := decide_eq_true (by omega)
        have hb : 0 ≤ acc64 g k ∧ acc64 g k < 65536 := by rcases (show k = 0 ∨ k = 1 ∨ k = 2 by omega) with rfl | rfl | rfl <;> omega
        have hst : acc64 g (k + 1) = acc64 g k * 256 + ((g.getD k 0).toNat : Int) := rfl
        clear hB0 hB1 hB2 hB3 hB4 hB5 hB6 hB7
        by_cases hg : k < g.length
        · have hc := hcs k hg
          obtain ⟨c', hc', hc0, hc1⟩ := (⟨_, rfl, by omega, byte_lt _⟩ : ∃ c : Int, ((g.getD k 0).toNat : Int) = c ∧ 0 ≤ c ∧ c < 256)
          rw [hc'] at hc hst
          have hor : bits .or .i64 (acc64 g k * 256) c' = acc64 g k * 256 + c' := or_sum (acc64 g k) c' 256 8 (by decide) hb.1 hc0 (by omega) (by omega)
          have HST := Lib.hid hst; clear hst hc'
          generalize acc64 g k = N at *
          obtain ⟨hN0, hN1⟩ := hb
          have hd2 : decide ((k : Int) < g.length) = true := decide_eq_true (by omega)
          clear hcs
          gi_wp2
          go_round
          case rel => exact ⟨k + 1, by omega, by go_num, by rw [HST.out]⟩
          case measure => simp [intOf]; omega
        · have h0 : g.getD k 0 = 0 := by rw [List.getD_eq_getElem?_getD, List.getElem?_eq_none (by omega)]; rfl
          rw [h0] at hst
          have HST := Lib.hid hst; clear hst
          generalize acc64 g k = N at *
          obtain ⟨hN0, hN1⟩ := hb
          have hd2 : decide ((k : Int) < g.length) = false := decide_eq_false (by omega)
          clear hcs h0
          gi_wp2
          go_round
          case rel => exact ⟨k + 1, by omega, by go_num, by rw [HST.out]; simp⟩
          case measure => simp [intOf]; omega
      · obtain rfl : k = 3 := by omega
        clear hcs
        have hgr : grpE g = [sgn64 g 0, sgn64 g 1, sgn64 g 2, sgn64 g 3] := rfl
        have hyes : ∀ i, g.length < i → sgn64 g i = 61 := fun i h => by unfold sgn64; rw [if_pos h]
        have hnot : ∀ i, ¬ g.length < i → sgn64 g i = sgnB (acc64 g 3 / 2 ^ (18 - 6 * i) % 64) := fun i h => by unfold sgn64; rw [if_neg h]
        have HG := Lib.hid hgr; have HY := Lib.hid hyes; have HN := Lib.hid hnot
        clear hgr hyes hnot hB0 hB1 hB2 hB3 hB4 hB5
        generalize acc64 g 3 = N at *
        gi_wp2
        gi_loopw [28] (fun i wr => ∃ k : Nat, k ≤ 4 ∧ i = .int .i64 (k : Int) ∧ BuC w.heap.size (w.heap.size + 3) (o ++ (grpE g).take k) wr ∧ Ch w.heap.size (w.heap.size + 3) W wr) (fun i _ => (4 - intOf i).toNat)
        case atStart => exact ⟨0, by omega, rfl, by simpa using hbu, Ch.refl _ _ _⟩
        case round =>
          obtain ⟨k, hk, rfl, hbk, hch⟩ := hrel
          have hlk : (o ++ (grpE g).take k).length < 1000000000 := by simp; omega
          rcases (show k = 0 ∨ k = 1 ∨ k = 2 ∨ k = 3 ∨ k = 4 by omega) with rfl | rfl | rfl | rfl | rfl
          · have HT := Lib.hid (show (grpE g).take 1 = (grpE g).take 0 ++ [sgn64 g 0] from rfl)
            · have HV := Lib.hid (HN.out 0 (by omega))
              have hd2 : decide ((g.length : Int) < 0) = false := decide_eq_false (by omega)
              obtain ⟨y, hy⟩ : ∃ y, N / 2 ^ (18 - 6 * 0) % 64 = y := ⟨_, rfl⟩
              have hm : bits .and .i64 (N / 262144) 63 = y := by rw [and_rem _ 63 64 6 (by decide) (by decide) (by decide) (by omega) (by omega), ← hy]; rfl
              have hy0 : 0 ≤ y := by omega
              have hy1 : y < 64 := by omega
              rw [hy] at HV
              have hix := idx_sgnB .i64 y hy0 hy1
              unfold signs at hix
              clear hy
              gi_wp2_with (refine ⟨trivial, ?_⟩; gi_at_call 194; refine (CallsIn.inRound q (callsIn_wide.2 (byte_C _ _ _ _ (sgnB y) rfl _ hbk hlk))).mono ?_; rintro e w1 ⟨rfl, hbk1, hch1⟩)
              go_roundw
              case rel => exact ⟨1, by omega, by go_num, by rw [HT.out, HV.out, ← List.append_assoc]; exact hbk1, hch.trans hch1⟩
              case measure => simp [intOf]
          · have HT := Lib.hid (show (grpE g).take 2 = (grpE g).take 1 ++ [sgn64 g 1] from rfl)
            by_cases hg : g.length < 1
            · have HV := Lib.hid (HY.out 1 hg)
              have hd2 : decide ((g.length : Int) < 1) = true := decide_eq_true (by omega)
              gi_wp2_with (refine ⟨trivial, ?_⟩; gi_at_call 194; refine (CallsIn.inRound q (callsIn_wide.2 (byte_C _ _ _ _ 61 rfl _ hbk hlk))).mono ?_; rintro e w1 ⟨rfl, hbk1, hch1⟩)
              go_roundw
              case rel => exact ⟨2, by omega, by go_num, by rw [HT.out, HV.out, ← List.append_assoc]; exact hbk1, hch.trans hch1⟩
              case measure => simp [intOf]
            · have HV := Lib.hid (HN.out 1 hg)
              have hd2 : decide ((g.length : Int) < 1) = false := decide_eq_false (by omega)
              obtain ⟨y, hy⟩ : ∃ y, N / 2 ^ (18 - 6 * 1) % 64 = y := ⟨_, rfl⟩
              have hm : bits .and .i64 (N / 4096) 63 = y := by rw [and_rem _ 63 64 6 (by decide) (by decide) (by decide) (by omega) (by omega), ← hy]; rfl
              have hy0 : 0 ≤ y := by omega
              have hy1 : y < 64 := by omega
              rw [hy] at HV
              have hix := idx_sgnB .i64 y hy0 hy1
              unfold signs at hix
              clear hy
              gi_wp2_with (refine ⟨trivial, ?_⟩; gi_at_call 194; refine (CallsIn.inRound q (callsIn_wide.2 (byte_C _ _ _ _ (sgnB y) rfl _ hbk hlk))).mono ?_; rintro e w1 ⟨rfl, hbk1, hch1⟩)
              go_roundw
              case rel => exact ⟨2, by omega, by go_num, by rw [HT.out, HV.out, ← List.append_assoc]; exact hbk1, hch.trans hch1⟩
              case measure => simp [intOf]
          · have HT := Lib.hid (show (grpE g).take 3 = (grpE g).take 2 ++ [sgn64 g 2] from rfl)
            by_cases hg : g.length < 2
            · have HV := Lib.hid (HY.out 2 hg)
              have hd2 : decide ((g.length : Int) < 2) = true := decide_eq_true (by omega)
              gi_wp2_with (refine ⟨trivial, ?_⟩; gi_at_call 194; refine (CallsIn.inRound q (callsIn_wide.2 (byte_C _ _ _ _ 61 rfl _ hbk hlk))).mono ?_; rintro e w1 ⟨rfl, hbk1, hch1⟩)
              go_roundw
              case rel => exact ⟨3, by omega, by go_num, by rw [HT.out, HV.out, ← List.append_assoc]; exact hbk1, hch.trans hch1⟩
              case measure => simp [intOf]
            · have HV := Lib.hid (HN.out 2 hg)
              have hd2 : decide ((g.length : Int) < 2) = false := decide_eq_false (by omega)
              obtain ⟨y, hy⟩ : ∃ y, N / 2 ^ (18 - 6 * 2) % 64 = y := ⟨_, rfl⟩
              have hm : bits .and .i64 (N / 64) 63 = y := by rw [and_rem _ 63 64 6 (by decide) (by decide) (by decide) (by omega) (by omega), ← hy]; rfl
              have hy0 : 0 ≤ y := by omega
              have hy1 : y < 64 := by omega
              rw [hy] at HV
              have hix := idx_sgnB .i64 y hy0 hy1
              unfold signs at hix
              clear hy
              gi_wp2_with (refine ⟨trivial, ?_⟩; gi_at_call 194; refine (CallsIn.inRound q (callsIn_wide.2 (byte_C _ _ _ _ (sgnB y) rfl _ hbk hlk))).mono ?_; rintro e w1 ⟨rfl, hbk1, hch1⟩)
              go_roundw
              case rel => exact ⟨3, by omega, by go_num, by rw [HT.out, HV.out, ← List.append_assoc]; exact hbk1, hch.trans hch1⟩
              case measure => simp [intOf]
          · have HT := Lib.hid (show (grpE g).take 4 = (grpE g).take 3 ++ [sgn64 g 3] from rfl)
            by_cases hg : g.length < 3
            · have HV := Lib.hid (HY.out 3 hg)
              have hd2 : decide ((g.length : Int) < 3) = true := decide_eq_true (by omega)
              gi_wp2_with (refine ⟨trivial, ?_⟩; gi_at_call 194; refine (CallsIn.inRound q (callsIn_wide.2 (byte_C _ _ _ _ 61 rfl _ hbk hlk))).mono ?_; rintro e w1 ⟨rfl, hbk1, hch1⟩)
              go_roundw
              case rel => exact ⟨4, by omega, by go_num, by rw [HT.out, HV.out, ← List.append_assoc]; exact hbk1, hch.trans hch1⟩
              case measure => simp [intOf]
            · have HV := Lib.hid (HN.out 3 hg)
              have hd2 : decide ((g.length : Int) < 3) = false := decide_eq_false (by omega)
              obtain ⟨y, hy⟩ : ∃ y, N / 2 ^ (18 - 6 * 3) % 64 = y := ⟨_, rfl⟩
              have hm : bits .and .i64 (N) 63 = y := by rw [and_rem _ 63 64 6 (by decide) (by decide) (by decide) (by omega) (by omega), ← hy]; simp
              have hy0 : 0 ≤ y := by omega
              have hy1 : y < 64 := by omega
              rw [hy] at HV
              have hix := idx_sgnB .i64 y hy0 hy1
              unfold signs at hix
              clear hy
              gi_wp2_with (refine ⟨trivial, ?_⟩; gi_at_call 194; refine (CallsIn.inRound q (callsIn_wide.2 (byte_C _ _ _ _ (sgnB y) rfl _ hbk hlk))).mono ?_; rintro e w1 ⟨rfl, hbk1, hch1⟩)
              go_roundw
              case rel => exact ⟨4, by omega, by go_num, by rw [HT.out, HV.out, ← List.append_assoc]; exact hbk1, hch.trans hch1⟩
              case measure => simp [intOf]
          · gi_wp2
            refine ⟨hch.keeps.from _, ⟨hch.low _ (by omega) (by omega), hch.low _ (by omega) (by omega)⟩, ?_, hbe.trans (hch.below (Nat.le_refl _) (by omega))⟩
            rw [hout.out]
            exact hbk
  case done =>
    rintro D ys W hD rfl ⟨hbu, hbe⟩ hK
    gi_wp2_with (refine ⟨trivial, ?_⟩; gi_at_call 135; refine (callsIn_wide.2 (builder_string_k _ _ _ _ hbu.isB.1 hbu.isB.2)).mono ?_; rintro e w1 ⟨rfl, hb1, hko⟩)
    have hK1 := hko D _ hK (by intro e; injection e with e; omega) (fun c fz => by simp)
    refine ⟨by simp, .inl ⟨_, _, rfl, run_takeDeferred hK1, ?_⟩⟩
    exact ⟨_, results_tmp rfl _ _ _, by rw [b64E_flat]; rfl, (hbe.trans hb1).trans (belowK_b (w := w) (Nat.le_refl _) _ D _ _ (by omega) hK1 rfl rfl)⟩
  case stop =>
    rintro D c pre W _ _ h _
    exact h.elim
end Go.Proofs.YthmpcdjhighhgaaGreatDoor
