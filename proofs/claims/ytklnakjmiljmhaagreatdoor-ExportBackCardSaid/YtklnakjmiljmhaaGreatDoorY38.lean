/- Walk: a library of kinds. · Walk: messages that are valid. -/
import Derived.Test.YtklnakjmiljmhaaGreatDoorY36
import Derived.Test.YtklnakjmiljmhaaGreatDoorY37
import Derived.Test.YtklnakjmiljmhaaGreatDoorY10
import Derived.Test.YtklnakjmiljmhaaGreatDoorY01
import Derived.Test.YtklnakjmiljmhaaGreatDoorY09
import Derived.Test.YtklnakjmiljmhaaGreatDoorY02
import Derived.Test.YtklnakjmiljmhaaGreatDoorY25
import Derived.Test.YtklnakjmiljmhaaGreatDoorY21
namespace Go.Proofs.YtklnakjmiljmhaaGreatDoor
set_option linter.unusedVariables false
set_option linter.unusedSimpArgs false
set_option maxRecDepth 100000
open Go.RowKit
theorem Pat.form {b : Nat} {w : World} : ∀ {d m : Nat} {vs : List Value}, Pat b w d m vs → ∃ u : KC, vs = u.pat
  | 0, _, _, h => h.elim
  | d + 1, m, vs, ⟨v1, v2, mn, mx, ⟨⟨A, a1, a2, e1⟩, ⟨B, b1, b2, e2⟩⟩, h⟩ => by
    subst e1 e2
    have : ∃ o : Int, vs = [.int .i64 o, .slice A a1 a2, .slice B b1 b2, .int .i64 mn, .int .i64 mx] := by
      rcases h with ⟨h1, -⟩ | ⟨h1, -⟩ | ⟨h1, -⟩ | ⟨h1, -⟩ <;> exact ⟨_, h1⟩
    obtain ⟨o, rfl⟩ := this
    exact ⟨⟨ByteArray.empty, o, A, a1, a2, B, b1, b2, mn, mx, false, 0, 0, none, 0, 0, 0⟩, rfl⟩
theorem KdV.kcs {b : Nat} {w : World} {n d m c g : Nat} (h : KdV b w (Pat b w d m) n (.slice (some ⟨g, 0, none⟩) n c)) : ∃ V : Nat → KC, b < g ∧ g < w.heap.size ∧
    (∀ j, j < n → w.cell? ⟨g, j * 5, none⟩ = some (.int .i64 (V j).op)) ∧ (∀ j, j < n → w.cell? ⟨g, j * 5 + 1, none⟩ = some (.slice (V j).a1 (V j).n1 (V j).c1)) ∧ (∀ j, j < n → w.cell? ⟨g, j * 5 + 2, none⟩ = some (.slice (V j).a2 (V j).n2 (V j).c2)) ∧ (∀ j, j < n → w.cell? ⟨g, j * 5 + 3, none⟩ = some (.int .i64 (V j).mn)) ∧ (∀ j, j < n → w.cell? ⟨g, j * 5 + 4, none⟩ = some (.int .i64 (V j).mx)) ∧
    (∀ j, j < n → Pat b w d m (V j).pat) := by
  obtain ⟨g', f, c', hv, h1, h2, h3, h5⟩ := h
  injection hv with e1 e2 e3
  injection e1 with e1
  injection e1 with e1 e4
  subst e1 e4
  have h6 : ∀ j, ∃ u : KC, j < n → (w.cell? ⟨g, j * 5, none⟩ = some (.int .i64 u.op) ∧ w.cell? ⟨g, j * 5 + 1, none⟩ = some (.slice u.a1 u.n1 u.c1) ∧ w.cell? ⟨g, j * 5 + 2, none⟩ = some (.slice u.a2 u.n2 u.c2) ∧ w.cell? ⟨g, j * 5 + 3, none⟩ = some (.int .i64 u.mn) ∧ w.cell? ⟨g, j * 5 + 4, none⟩ = some (.int .i64 u.mx) ∧ Pat b w d m u.pat) := by
    intro j
    by_cases hj : j < n
    · obtain ⟨u0, u1, u2, u3, u4, q0, q1, q2, q3, q4, hp⟩ := h5 j hj
      obtain ⟨u, hu⟩ := hp.form
      rw [hu] at hp
      simp only [KC.pat, List.cons.injEq, and_true] at hu
      obtain ⟨rfl, rfl, rfl, rfl, rfl⟩ := hu
      rw [Nat.zero_add] at q0 q1 q2 q3 q4
      exact ⟨u, fun _ => ⟨q0, q1, q2, q3, q4, hp⟩⟩
    · exact ⟨⟨ByteArray.empty, 0, none, 0, 0, none, 0, 0, 0, 0, false, 0, 0, none, 0, 0, 0⟩, fun h => absurd h hj⟩
  obtain ⟨V, hV⟩ := Classical.axiomOfChoice h6
  exact ⟨V, h1, h2, fun j hj => (hV j hj).1, fun j hj => (hV j hj).2.1, fun j hj => (hV j hj).2.2.1, fun j hj => (hV j hj).2.2.2.1, fun j hj => (hV j hj).2.2.2.2.1, fun j hj => (hV j hj).2.2.2.2.2⟩
/-- A row of the block K that is left alone gives its cells. -/
theorem krow {w : World} {K : Nat} {e : TypeId} (h : w.heap[K]? = some (.cells #[.string ByteArray.empty, .int .i64 0, .slice none 0 0, .slice none 0 0, .int .i64 0, .int .i64 0, .bool false, .int .i64 0, .int .i64 0, .slice none 0 0, .int .i64 0] e (0, 0))) :
    (w.cell? ⟨K, 0, none⟩ = some (.string ByteArray.empty) ∧ w.cell? ⟨K, 1, none⟩ = some (.int .i64 0) ∧ w.cell? ⟨K, 2, none⟩ = some (.slice none 0 0) ∧ w.cell? ⟨K, 3, none⟩ = some (.slice none 0 0) ∧ w.cell? ⟨K, 4, none⟩ = some (.int .i64 0) ∧ w.cell? ⟨K, 5, none⟩ = some (.int .i64 0) ∧ w.cell? ⟨K, 6, none⟩ = some (.bool false) ∧ w.cell? ⟨K, 7, none⟩ = some (.int .i64 0) ∧ w.cell? ⟨K, 8, none⟩ = some (.int .i64 0) ∧ w.cell? ⟨K, 9, none⟩ = some (.slice none 0 0) ∧ w.cell? ⟨K, 10, none⟩ = some (.int .i64 0)) ∧ ∀ j, w.frozen? ⟨K, j, none⟩ = false := by
  refine ⟨⟨?_, ?_, ?_, ?_, ?_, ?_, ?_, ?_, ?_, ?_, ?_⟩, fun j => by simp [World.frozen?, h]⟩ <;> (rw [cell_of_row _ _ _ _ _ _ h]; rfl)
def ZK (e : TypeId) : Obj := .cells #[.string ByteArray.empty, .int .i64 0, .slice none 0 0, .slice none 0 0, .int .i64 0, .int .i64 0, .bool false, .int .i64 0, .int .i64 0, .slice none 0 0, .int .i64 0] e (0, 0)
theorem KR.step {b K : Nat} {w w' : World} {o : Obj} (h : w.heap[K]? = some o) (hf : Fr b w w') (hb : b < K) : w'.heap[K]? = some o :=
  (hf.block K (Array.getElem?_eq_some_iff.1 h).1 (by intro e; injection e; omega)).trans h
theorem fr_mark {b : Nat} {w w' : World} {cs : Array Value} {e : TypeId} : Fr b (w.alloc (.cells cs e)) w' ↔ (Fr b (w.alloc (.cells cs e)) w' ∧ (b < w.heap.size → w'.heap[w.heap.size]? = some (.cells cs e (0, 0)))) :=
  ⟨fun hf => ⟨hf, fun hb => KR.step (heap_alloc_new w _) hf hb⟩, fun h => h.1⟩
theorem info_kind : (Tryz.prog.info? 64).map (fun i => (i.zero, i.size, i.bytes)) = some (some (.agg #[.string ⟨#[]⟩, .int .i64 0, .slice none 0 0, .slice none 0 0, .int .i64 0, .int .i64 0, .bool false, .int .i64 0, .int .i64 0, .slice none 0 0, .int .i64 0]), 11, 144) := by kernel_rfl
/-- A kind is stored into a block. -/
theorem st11 {w : World} {K : Nat} {e : TypeId} {old : Array Value} (h : w.heap[K]? = some (.cells old e (0, 0))) (ho : old.size = 11) (wh : Bool) (nm : ByteArray) (op : Int) (a1 : Option Addr) (n1 c1 : Nat) (a2 : Option Addr) (n2 c2 : Nat) (mn mx : Int) (ck en : Int) (a3 : Option Addr) (n3 c3 : Nat) (nr : Int) :
    (storeCells ⟨K, 0, none⟩ [.string nm, .int .i64 op, .slice a1 n1 c1, .slice a2 n2 c2, .int .i64 mn, .int .i64 mx, .bool wh, .int .i64 ck, .int .i64 en, .slice a3 n3 c3, .int .i64 nr] 0).run Tryz.prog w = .ok () (w.setRow K (KC.cs ⟨nm, op, a1, n1, c1, a2, n2, c2, mn, mx, wh, ck, en, a3, n3, c3, nr⟩).toArray) :=
  run_storeCells_from K e (KC.cs ⟨nm, op, a1, n1, c1, a2, n2, c2, mn, mx, wh, ck, en, a3, n3, c3, nr⟩) 0 old w h (by rw [ho]; rfl) (encKC.one _)
theorem fr_row {b K : Nat} {cs : Array Value} {w w' : World} (h : Fr b w w') (hK : w.heap.size ≤ K) : Fr b w (w'.setRow K cs) :=
  ⟨h.os, h.tape, h.output, by rw [size_setRow]; exact h.size, fun k hk hne => (setRow_other _ _ _ _ (by omega)).trans (h.block k hk hne)⟩
theorem tape_row {b K : Nat} {cs : Array Value} {w : World} (h : TapeOK b w) (hK : b < K) : TapeOK b (w.setRow K cs) := h.keep fun k hk => setRow_other _ _ _ _ (by omega)
theorem KR.cells {w : World} {K : Nat} {e : TypeId} {u : KC} (h : w.heap[K]? = some (.cells u.cs.toArray e (0, 0))) :
    (w.cell? ⟨K, 0, none⟩ = some (.string u.nm) ∧ w.cell? ⟨K, 1, none⟩ = some (.int .i64 u.op) ∧ w.cell? ⟨K, 2, none⟩ = some (.slice u.a1 u.n1 u.c1) ∧ w.cell? ⟨K, 3, none⟩ = some (.slice u.a2 u.n2 u.c2) ∧ w.cell? ⟨K, 4, none⟩ = some (.int .i64 u.mn) ∧ w.cell? ⟨K, 5, none⟩ = some (.int .i64 u.mx) ∧ w.cell? ⟨K, 6, none⟩ = some (.bool u.wh) ∧ w.cell? ⟨K, 7, none⟩ = some (.int .i64 u.ck) ∧ w.cell? ⟨K, 8, none⟩ = some (.int .i64 u.en) ∧ w.cell? ⟨K, 9, none⟩ = some (.slice u.a3 u.n3 u.c3) ∧ w.cell? ⟨K, 10, none⟩ = some (.int .i64 u.nr)) ∧ ∀ j, w.frozen? ⟨K, j, none⟩ = false := by
  refine ⟨⟨?_, ?_, ?_, ?_, ?_, ?_, ?_, ?_, ?_, ?_, ?_⟩, fun j => by simp [World.frozen?, h]⟩ <;> (rw [cell_of_row _ _ _ _ _ _ h]; rfl)
theorem fr_set2 {b K j : Nat} {v : Value} {w w' : World} (h : Fr b w w') (hK : w.heap.size ≤ K) (hb : b < K) (ht : TapeOK b w') : Fr b w (w'.setCell ⟨K, j, none⟩ v) ∧ TapeOK b (w'.setCell ⟨K, j, none⟩ v) := ⟨fr_set h hK, tape_set ht hb⟩
set_option maxHeartbeats 8000000 in
theorem kinds_any (b : Nat) (w : World) (ht : TapeOK b w) :
    Calls Tryz.prog 10 #[.pointer (some ⟨b, 0, none⟩)] w fun e w' => ∃ v, e = .returned v ∧ KnV b w' v ∧ TapeOK b w' ∧ Fr b w w' := by
  have hbs := ht.lt
  have HT := Lib.hid ht; clear ht
  go_enter Tryz.func10, Tryz.ntmps10
  go_wp2_with fail
  refine (shapes_any b w hbs).mono ?_
  rintro e w1 ⟨g, rfl, hkd, hb1⟩
  have ht1 := HT.out.below hb1
  have hf1 : Fr b w w1 := Fr.of_below hb1
  obtain ⟨V, hbg, hgl, k0, k1, k2, k3, k4, kP⟩ := hkd.kcs
  have HK := Lib.hid (fun (w' : World) (hs : Stay b w1 w') => show ((∀ j, j < 6 → w'.cell? ⟨g, j * 5, none⟩ = some (.int .i64 (V j).op)) ∧ (∀ j, j < 6 → w'.cell? ⟨g, j * 5 + 1, none⟩ = some (.slice (V j).a1 (V j).n1 (V j).c1)) ∧ (∀ j, j < 6 → w'.cell? ⟨g, j * 5 + 2, none⟩ = some (.slice (V j).a2 (V j).n2 (V j).c2)) ∧ (∀ j, j < 6 → w'.cell? ⟨g, j * 5 + 3, none⟩ = some (.int .i64 (V j).mn)) ∧ (∀ j, j < 6 → w'.cell? ⟨g, j * 5 + 4, none⟩ = some (.int .i64 (V j).mx))) from
    ⟨fun j hj => (hs.cell hbg hgl).trans (k0 j hj), fun j hj => (hs.cell hbg hgl).trans (k1 j hj), fun j hj => (hs.cell hbg hgl).trans (k2 j hj), fun j hj => (hs.cell hbg hgl).trans (k3 j hj), fun j hj => (hs.cell hbg hgl).trans (k4 j hj)⟩)
  have HP := Lib.hid (fun (w' : World) (hs : Stay b w1 w') (j : Nat) (hj : j < 6) => (kP j hj).later hs)
  have BT := Lib.hid (between_any b 1 3 w1 (by omega) (by omega) (by omega) (by omega) ht1)
  clear hkd k0 k1 k2 k3 k4 kP ht1
  go_wp2_with fail
  refine BT.out.mono ?_
  rintro e w2 ⟨r, rfl, hr0, hr1, ht2, hf2⟩
  obtain ⟨rn, hrn⟩ : ∃ rn : Nat, r = (rn : Int) := ⟨r.toNat, by omega⟩
  subst hrn
  have hfw2 := hf1.trans hf2
  have H2 := Lib.hid (And.intro ht2 (And.intro hf2 hfw2))
  clear BT ht2 hf1 hf2 hb1 hfw2
  go_wp2_with fail
  go_loopw [3, 5] (fun v i wr => ∃ (k : Nat) (o : List KC), k ≤ rn ∧ i = .int .i64 (k : Int) ∧ k + o.length = rn ∧ OR 64 11 KC.cs w2.heap.size v o wr ∧ (∀ u ∈ o, ∃ j, j < 6 ∧ u.pat = (V j).pat) ∧ TapeOK b wr ∧ Fr b w2 wr) (fun _ i _ => (intOf i).toNat)
  case atStart => exact ⟨rn, [], Nat.le_refl _, rfl, by simp, OR.nil_ _ _ _, by simp, H2.out.1, Fr.refl _ _⟩
  case round =>
    obtain ⟨k, o, hk, rfl, hko, hown, hpo, htr, hfr⟩ := hrel
    by_cases hlt : 0 < k
    · have hd : decide ((0 : Int) < (k : Int)) = true := decide_eq_true (by omega)
      have hdn : decide (0 < k) = true := decide_eq_true hlt
      obtain ⟨A, c0, rfl, hle, hcl⟩ := hown.cells encKC
      clear hcl
      have H0 := Lib.hid (And.intro hown (And.intro hpo (And.intro htr hfr)))
      have hfw1 : Fr b w1 wr := H2.out.2.1.trans hfr
      have HKP := Lib.hid (fun w' (hf : Fr b wr w') (ht : TapeOK b w') => show (TapeOK b w' ∧ ((∀ j, j < 6 → w'.cell? ⟨g, j * 5, none⟩ = some (.int .i64 (V j).op)) ∧ (∀ j, j < 6 → w'.cell? ⟨g, j * 5 + 1, none⟩ = some (.slice (V j).a1 (V j).n1 (V j).c1)) ∧ (∀ j, j < 6 → w'.cell? ⟨g, j * 5 + 2, none⟩ = some (.slice (V j).a2 (V j).n2 (V j).c2)) ∧ (∀ j, j < 6 → w'.cell? ⟨g, j * 5 + 3, none⟩ = some (.int .i64 (V j).mn)) ∧ (∀ j, j < 6 → w'.cell? ⟨g, j * 5 + 4, none⟩ = some (.int .i64 (V j).mx)))) from
        ⟨ht, HK.out w' (Stay.of_fr (hfw1.trans hf))⟩)
      have hol : o.length ≤ 3 := by omega
      have NU := Lib.hid (fun w' => number_ref 0 o.length w' (by omega) (by omega) (by omega))
      have HNM : Hid (∃ nmS : ByteArray, bs (Lib.decDigits o.length) = nmS ∧ (4 + nmS.size ≤ 9223372036854775807)) := ⟨_, rfl, by rw [size_bs]; have := dec_len2 o.length 0 (by omega); omega⟩
      have HWR := Lib.hid hfw1
      have hgr : g < wr.heap.size := Nat.lt_of_lt_of_le hgl hfw1.size
      have hf0 : Hid (Fr b wr wr.drew) := (Fr.refl _ _).drew
      have ht0 : Hid (TapeOK b wr.drew) := htr.below (Below.refl _ _).drew
      have hz0 : g ≠ wr.heap.size := by omega
      have hbr : b < wr.heap.size := by omega
      have hz0' : ¬ wr.heap.size = g := by omega
      clear hown hpo htr hfr hfw1
      go_upto_region 6 with fail
      go_cut [6] from 14 to 62 (fun p wx => ∃ (K : Nat) (u : KC), p = .pointer (some ⟨K, 0, none⟩) ∧ wr.heap.size ≤ K ∧ wx.heap[K]? = some (.cells u.cs.toArray 64 (0, 0)) ∧ (∃ j, j < 6 ∧ u.pat = (V j).pat) ∧ TapeOK b wx ∧ Fr b wr wx)
      case first =>
        go_region_held3 (fun w' => TapeOK b w' ∧ ((∀ j, j < 6 → w'.cell? ⟨g, j * 5, none⟩ = some (.int .i64 (V j).op)) ∧ (∀ j, j < 6 → w'.cell? ⟨g, j * 5 + 1, none⟩ = some (.slice (V j).a1 (V j).n1 (V j).c1)) ∧ (∀ j, j < 6 → w'.cell? ⟨g, j * 5 + 2, none⟩ = some (.slice (V j).a2 (V j).n2 (V j).c2)) ∧ (∀ j, j < 6 → w'.cell? ⟨g, j * 5 + 3, none⟩ = some (.int .i64 (V j).mn)) ∧ (∀ j, j < 6 → w'.cell? ⟨g, j * 5 + 4, none⟩ = some (.int .i64 (V j).mx))))
          (first | exact HKP.out _ hfB.out htB.out | exact HKP.out _ (fr_row hfB.out (by first | omega | exact Nat.le_refl _)) (tape_row htB.out (Nat.lt_of_lt_of_le hbr (by first | omega | exact Nat.le_refl _))) | exact HKP.out _ (hfB.out.then ((Below.refl _ _).alloc hfB.out.size _)) (htB.out.below ((Below.refl _ _).alloc (Nat.le_refl _) _)) | exact HKP.out _ hfA.out htA.out | exact HKP.out _ (hfA.out.then ((Below.refl _ _).alloc hfA.out.size _)) (htA.out.below ((Below.refl _ _).alloc (Nat.le_refl _) _)) | exact HKP.out _ hfN.out htN.out | exact HKP.out _ (hfN.out.then ((Below.refl _ _).alloc hfN.out.size _)) (htN.out.below ((Below.refl _ _).alloc (Nat.le_refl _) _)) | exact HKP.out _ hf0.out ht0.out | exact HKP.out _ (hf0.out.then ((Below.refl _ _).alloc hf0.out.size _)) (ht0.out.below ((Below.refl _ _).alloc (Nat.le_refl _) _)))
          (first | (go_at_call 26; refine (NU.out _).mono ?_; rintro e w3 ⟨rfl, hbN⟩; obtain ⟨nmS, hnm⟩ := HNM.out; rw [hnm.1]; have hnm2 := hnm.2; have hadd := (fun w' : World => run_string_add_sum (P := Tryz.prog) w' ⟨#[107, 105, 110, 100]⟩ nmS hnm.2); clear hnm; (first | (have hfN : Hid (Fr b wr w3) := hf0.out.then (hbN.mono hf0.out.size); have htN : Hid (TapeOK b w3) := ht0.out.below hbN) | (have hfN : Hid (Fr b wr w3) := (hf0.out.then ((Below.refl _ _).alloc hf0.out.size _)).then (hbN.mono (by simp [World.drew, World.drewN])); have htN : Hid (TapeOK b w3) := (ht0.out.below ((Below.refl _ _).alloc (Nat.le_refl _) _)).below hbN; have KN := Lib.hid (KR.step (b := b) (heap_alloc_new wr.drew (ZK 64)) (Fr.of_below hbN) (by simp only [World.drew, World.drewN]; omega)))); have hsN : wr.heap.size ≤ w3.heap.size := hfN.out.size; have hzN2 : g < w3.heap.size := (by omega); have hzN : g ≠ w3.heap.size := (by omega); have hzN' : ¬ w3.heap.size = g := (by omega); clear hbN) | (have probe := htA; clear probe; go_at_call 23; refine (next_any b 2 _ (by omega) (by omega) (by first | exact htA.out | exact htA.out.below ((Below.refl _ _).alloc (Nat.le_refl _) _))).mono ?_; rintro e w5 ⟨z, rfl, z0, z1, htBX, hfBX⟩; obtain ⟨whv, hwh⟩ : ∃ x : Bool, (z == 1) = x := ⟨_, rfl⟩; (first | have hfB : Hid (Fr b wr w5) := hfA.out.trans hfBX | have hfB : Hid (Fr b wr w5) := (hfA.out.then ((Below.refl _ _).alloc hfA.out.size _)).trans hfBX); have htB := Lib.hid htBX; (first | (have prb := KA; clear prb; have KB := Lib.hid (KR.step KA.out hfBX (by first | omega | (simp only [World.drew, World.drewN]; omega))); have hst := st11 KB.out rfl whv; simp [go_sem] at hst) | (rw [fr_mark] at hfBX; have KB := Lib.hid (hfBX.2 (by omega)); replace hfBX := hfBX.1; have hst := st11 KB.out rfl whv; simp [go_sem] at hst) | skip); have hsB : wr.heap.size ≤ w5.heap.size := hfB.out.size; have hzB2 : g < w5.heap.size := (by omega); have hzB : g ≠ w5.heap.size := (by omega); have hzB' : ¬ w5.heap.size = g := (by omega); clear htBX hfBX htA hfA; have z2 : z.toNat < 2 := (by omega)) | (have probe := htN; clear probe; go_at_call 23; refine (next_any b 6 _ (by omega) (by omega) (by first | exact htN.out | exact htN.out.below ((Below.refl _ _).alloc (Nat.le_refl _) _))).mono ?_; rintro e w4 ⟨q, rfl, q0, q1, htAX, hfAX⟩; (first | have hfA : Hid (Fr b wr w4) := hfN.out.trans hfAX | have hfA : Hid (Fr b wr w4) := (hfN.out.then ((Below.refl _ _).alloc hfN.out.size _)).trans hfAX); have htA := Lib.hid htAX; (first | (have prb := KN; clear prb; have KA := Lib.hid (KR.step KN.out hfAX (by first | omega | (simp only [World.drew, World.drewN]; omega))); skip) | (rw [fr_mark] at hfAX; have KA := Lib.hid (hfAX.2 (by omega)); replace hfAX := hfAX.1) | skip); have hsA : wr.heap.size ≤ w4.heap.size := hfA.out.size; have hzA2 : g < w4.heap.size := (by omega); have hzA : g ≠ w4.heap.size := (by omega); have hzA' : ¬ w4.heap.size = g := (by omega); clear htAX hfAX htN hfN; have q2 : q.toNat < 6 := (by omega)))
        all_goals
          (try go_wp2_with fail)
          go_meet
          first
            | exact ⟨w5.heap.size, ⟨_, (V q.toNat).op, (V q.toNat).a1, (V q.toNat).n1, (V q.toNat).c1, (V q.toNat).a2, (V q.toNat).n2, (V q.toNat).c2, (V q.toNat).mn, (V q.toNat).mx, _, 0, 0, none, 0, 0, 0⟩, rfl, hfB.out.size, heap_alloc_new _ _, ⟨q.toNat, q2, rfl⟩, htB.out.below ((Below.refl _ _).alloc (Nat.le_refl _) _), hfB.out.then ((Below.refl _ _).alloc hfB.out.size _)⟩
            | exact ⟨_, ⟨_, (V q.toNat).op, (V q.toNat).a1, (V q.toNat).n1, (V q.toNat).c1, (V q.toNat).a2, (V q.toNat).n2, (V q.toNat).c2, (V q.toNat).mn, (V q.toNat).mx, _, 0, 0, none, 0, 0, 0⟩, rfl, (by first | omega | exact Nat.le_refl _), setRow_heap _ _ _ _ _ _ KB.out, ⟨q.toNat, q2, rfl⟩, tape_row htB.out (Nat.lt_of_lt_of_le hbr (by first | omega | exact Nat.le_refl _)), fr_row hfB.out (by first | omega | exact Nat.le_refl _)⟩
      case rest =>
        obtain ⟨K, u, rfl, hK, hrow, hpat, htx, hfx⟩ := hcut
        obtain ⟨W6, hW6⟩ : ∃ W6 : World, W6 = wc := ⟨_, rfl⟩
        rw [← hW6] at hrow htx hfx ⊢
        have HX := Lib.hid (And.intro hrow (And.intro hpat (And.intro htx hfx)))
        have hKs : K < W6.heap.size := (Array.getElem?_eq_some_iff.1 hrow).1
        clear hW6 hrow hpat htx hfx NU HNM hf0 ht0 HKP hz0 hz0'
        apply_assumption
        go_upto_region 7 with fail
        go_cut [30] from 29 to 62 (fun v wx => ∃ r : Int, v = .int .i64 r ∧ 0 ≤ r ∧ r < 8 ∧ TapeOK b wx ∧ Fr b W6 wx)
        case first =>
          go_wp2_with fail
          refine (next_any b _ _ (by omega) (by omega) HX.out.2.2.1).mono ?_
          rintro e w7 ⟨r, rfl, r0, r1, ht7, hf7⟩
          go_wp2_with fail
          go_meet
          exact ⟨r, rfl, r0, r1, ht7, hf7⟩
        case rest =>
          obtain ⟨r, rfl, r0, r1, ht7, hf7⟩ := hcut
          obtain ⟨W7, hW7⟩ : ∃ W7 : World, W7 = wc := ⟨_, rfl⟩
          rw [← hW7] at ht7 hf7 ⊢
          have hbK : b < K := by omega
          have hrow7 := KR.step HX.out.1 hf7 hbK
          have hpat7 := HX.out.2.1
          have hfx7 := HX.out.2.2.2.trans hf7
          have hK7 : K < W7.heap.size := Nat.lt_of_lt_of_le hKs hf7.size
          have hs7 := hfx7.size
          clear hW7 hf7
          apply_assumption
          go_cut [6] from 29 to 62 (fun p wx => p = .pointer (some ⟨K, 0, none⟩) ∧ ∃ u : KC, wx.heap[K]? = some (.cells u.cs.toArray 64 (0, 0)) ∧ (∃ j, j < 6 ∧ u.pat = (V j).pat) ∧ TapeOK b wx ∧ Fr b wr wx)
          case first =>
            have H7 := Lib.hid (And.intro hrow7 (And.intro hpat7 (And.intro hfx7 ht7)))
            clear hrow7 hpat7 hfx7 ht7
            have hr : r = 0 ∨ r = 1 ∨ r = 2 ∨ r = 3 ∨ r = 4 ∨ 5 ≤ r := by omega
            rcases hr with rfl | rfl | rfl | rfl | rfl | hr
            · obtain ⟨⟨-, -, -, -, -, -, -, c7, -⟩, hfz⟩ := KR.cells H7.out.1
              have f7 := hfz 7
              clear hfz
              go_wp2_with fail
              go_meet
              exact ⟨rfl, { u with ck := 1 }, set_row_at H7.out.1 7 _, H7.out.2.1, tape_set H7.out.2.2.2 hbK, fr_set H7.out.2.2.1 hK⟩
            · go_wp2_with fail
              refine (next_any b _ _ (by omega) (by omega) H7.out.2.2.2).mono ?_
              rintro e w8 ⟨z, rfl, z0, z1, ht8, hf8⟩
              have row8 := KR.step H7.out.1 hf8 hbK
              obtain ⟨⟨-, -, -, -, -, -, -, -, c8, -⟩, hfz⟩ := KR.cells row8
              have f8 := hfz 8
              have hw8 : IntKind.i64.wrap (z * 65536) = z * 65536 := IntWalk.i64_in _ (by omega)
              have R8 := Lib.hid (And.intro row8 (And.intro ht8 hf8))
              clear hfz row8 ht8 hf8
              go_wp2_with fail
              go_meet
              exact ⟨rfl, { u with en := z * 65536 }, set_row_at R8.out.1 8 _, H7.out.2.1, tape_set R8.out.2.1 hbK, fr_set (H7.out.2.2.1.trans R8.out.2.2) hK⟩
            · go_wp2_with fail
              refine (between_any b 3 8 _ (by omega) (by omega) (by omega) (by omega) (H7.out.2.2.2.below ((Below.refl _ _).alloc (Nat.le_refl _) _))).mono ?_
              rintro e w8 ⟨z, rfl, z0, z1, ht8, hf8'⟩
              have hf8 : Fr b W7 w8 := (Fr.of_below ((Below.refl _ _).alloc (Nat.le_refl _) _)).trans hf8'
              have row8 := KR.step H7.out.1 hf8 hbK
              obtain ⟨⟨-, -, -, -, -, -, -, -, -, c9, c10⟩, hfz⟩ := KR.cells row8
              have f9 := hfz 9
              have f10 := hfz 10
              have R8 := Lib.hid (And.intro row8 (And.intro ht8 hf8))
              clear hfz row8 ht8 hf8 hf8'
              go_wp2_with fail
              go_meet
              exact ⟨rfl, { u with a3 := some ⟨W7.heap.size, 0, none⟩, n3 := 1, c3 := 1, nr := z }, set_row_at (set_row_at R8.out.1 9 _) 10 _, H7.out.2.1, tape_set (tape_set R8.out.2.1 hbK) hbK, fr_set (fr_set (H7.out.2.2.1.trans R8.out.2.2) hK) hK⟩
            · go_wp2_with fail
              refine (next_any b _ _ (by omega) (by omega) (H7.out.2.2.2.below ((Below.refl _ _).alloc (Nat.le_refl _) _))).mono ?_
              rintro e w8 ⟨z, rfl, z0, z1, ht8, hf8'⟩
              have hf8 : Fr b W7 w8 := (Fr.of_below ((Below.refl _ _).alloc (Nat.le_refl _) _)).trans hf8'
              have row8 := KR.step H7.out.1 hf8 hbK
              obtain ⟨⟨-, -, -, -, -, -, -, -, -, c9, c10⟩, hfz⟩ := KR.cells row8
              have f9 := hfz 9
              have f10 := hfz 10
              have R8 := Lib.hid (And.intro row8 (And.intro ht8 hf8))
              clear hfz row8 ht8 hf8 hf8'
              go_wp2_with fail
              go_meet
              exact ⟨rfl, { u with a3 := some ⟨W7.heap.size, 0, none⟩, n3 := 2, c3 := 2, nr := z }, set_row_at (set_row_at R8.out.1 9 _) 10 _, H7.out.2.1, tape_set (tape_set R8.out.2.1 hbK) hbK, fr_set (fr_set (H7.out.2.2.1.trans R8.out.2.2) hK) hK⟩
            · go_wp2_with fail
              refine (between_any b 0 4 _ (by omega) (by omega) (by omega) (by omega) H7.out.2.2.2).mono ?_
              rintro e w8 ⟨z, rfl, z0, z1, ht8, hf8⟩
              have row8 := KR.step H7.out.1 hf8 hbK
              obtain ⟨⟨-, -, -, -, -, -, -, c7, -⟩, hfz⟩ := KR.cells row8
              have f7 := hfz 7
              have R8 := Lib.hid (And.intro row8 (And.intro ht8 hf8))
              clear hfz row8 ht8 hf8
              go_wp2_with fail
              go_meet
              exact ⟨rfl, { u with ck := z }, set_row_at R8.out.1 7 _, H7.out.2.1, tape_set R8.out.2.1 hbK, fr_set (H7.out.2.2.1.trans R8.out.2.2) hK⟩
            · have e0 : (r == 0) = false := by simpa using (show ¬ r = 0 by omega)
              have e1 : (r == 1) = false := by simpa using (show ¬ r = 1 by omega)
              have e2 : (r == 2) = false := by simpa using (show ¬ r = 2 by omega)
              have e3 : (r == 3) = false := by simpa using (show ¬ r = 3 by omega)
              have e4 : (r == 4) = false := by simpa using (show ¬ r = 4 by omega)
              go_wp2_with fail
              go_meet
              exact ⟨rfl, u, H7.out.1, H7.out.2.1, H7.out.2.2.2, H7.out.2.2.1⟩
          case rest =>
            obtain ⟨rfl, u9, hrow9, ⟨jj, hjj, hpp⟩, ht9, hf9⟩ := hcut
            obtain ⟨W9, hW9⟩ : ∃ W9 : World, W9 = wc := ⟨_, rfl⟩
            rw [← hW9] at hrow9 ht9 hf9 ⊢
            have hown9 : OR 64 11 KC.cs w2.heap.size (.slice A o.length c0) o W9 := H0.out.1.keep fun k hk => hf9.block k (World.ownsRow.lt H0.out.1 k hk).2 (by intro e; injection e with e; have := (World.ownsRow.lt H0.out.1 k hk).1; have := H2.out.2.2.size; omega)
            obtain ⟨⟨k0, k1, k2, k3, k4, k5, k6, k7, k8, k9, k10⟩, -⟩ := KR.cells hrow9
            have hsz9 : w2.heap.size ≤ W9.heap.size := (H0.out.2.2.2.trans hf9).size
            have R9 := Lib.hid (And.intro ht9 (H0.out.2.2.2.trans hf9))
            have HJ : Hid (∃ j, j < 6 ∧ u9.pat = (V j).pat) := ⟨jj, hjj, hpp⟩
            clear hW9 hrow9 hf9 ht9 hpp hjj
            obtain ⟨i0, hi, hz0, hz1, hz2⟩ := info_parts info_kind
            have hw1 : IntKind.i64.wrap ((k : Int) - 1) = (k : Int) - 1 := IntWalk.i64_in _ (by omega)
            apply_assumption
            go_wp2_with (at_builtin; refine app_one encKC Tryz.underlying32 hi hz0 hz1 hz2 rfl (by omega) _ _ _ _ _ u9 _ _ rfl rfl rfl rfl rfl hown9 (by omega) hsz9 ?_; intro v10 w10 hown10 hb10)
            go_roundw
            case rel =>
              obtain ⟨r3, r4⟩ := R9.out
              have hb2 : b < w2.heap.size := Nat.lt_of_lt_of_le hbs H2.out.2.2.size
              exact ⟨k - 1, o ++ [u9], by omega, by go_num, by simp; omega, hown10, fun u hu => by
                rcases List.mem_append.1 hu with h | h
                · exact H0.out.2.1 u h
                · rw [List.mem_singleton.1 h]; exact HJ.out, r3.below' hb10 hb2, r4.then hb10⟩
            case measure => simp [intOf]; omega
    · obtain rfl : k = 0 := by omega
      have H0 := Lib.hid (And.intro hown (And.intro hpo (And.intro htr hfr)))
      clear hown hpo htr hfr
      go_wp2_with fail
      go_ret
      obtain ⟨hown, hpo, htr, hfr⟩ := H0.out
      have hb2 : b < w2.heap.size := Nat.lt_of_lt_of_le hbs H2.out.2.2.size
      refine ⟨_, rfl, KnV.of_OR hown hb2 (by intro e; rw [e] at hko; simp at hko; omega) (by omega) (fun u hu => ?_), htr, H2.out.2.2.trans hfr⟩
      obtain ⟨j, hj, hp⟩ := hpo u hu
      rw [hp]
      exact HP.out _ (Stay.of_fr (H2.out.2.1.trans hfr)) j hj
end Go.Proofs.YtklnakjmiljmhaaGreatDoor
namespace Go.Proofs.YtklnakjmiljmhaaGreatDoor
set_option linter.unusedVariables false
set_option linter.unusedSimpArgs false
set_option maxRecDepth 100000
open Go.RowKit
open Go.Maps (Keyed)
def MakePost (b : Nat) (w : World) (e : Ending) (w' : World) : Prop := ∃ u l B, e = .returned u ∧ OM B u l w' ∧ errM l = 0 ∧ l.length ≤ 6 ∧ (∀ m ∈ l, m.text.length ≤ 60) ∧ TapeOK b w' ∧ Fr b w w'
/-- The cells of a message that was made. -/
def msgRow (next : Nat) (tm : Int) (q : Nat) (l : List UInt8) : Obj := .cells #[.int .i64 1, .int .i64 (next : Int), .string (nmF q), .int .i64 tm, .string (bs l)] 43 (0, 0)
def msgZero : Obj := .cells #[.int .i64 0, .int .i64 0, .string ByteArray.empty, .int .i64 0, .string ByteArray.empty] 43 (0, 0)
/-- The facts of the region that makes a message: what each operation has left. -/
def fact8 (b : Nat) (W : World) (next : Nat) (tm : Int) (kv : Value) (f : Nat → Bool) : Nat → Value → World → Prop
  | 0, x, _ => x = .int .i64 (next : Int)
  | 1, x, w => ∃ g, x = .slice (some ⟨g, 0, none⟩) 2 2 ∧ W.heap.size ≤ g ∧ (f 15 = false → ∀ j, j < 2 → w.cell? ⟨g, j, none⟩ = some (.string (nmF j)))
  | 2, x, _ => x = .pointer (some ⟨b, 0, none⟩)
  | 3, x, _ => ∃ q : Nat, q < 2 ∧ x = .int .i64 (q : Int)
  | 4, x, w => ∃ g q, q < 2 ∧ x = .pointer (some ⟨g, q, none⟩) ∧ W.heap.size ≤ g ∧ (f 15 = false → w.cell? ⟨g, q, none⟩ = some (.string (nmF q)))
  | 5, x, _ => ∃ q, x = .string (nmF q)
  | 6, x, _ => x = .int .i64 tm
  | 7, x, _ => x = .pointer (some ⟨b, 0, none⟩)
  | 8, x, _ => x = kv
  | 9, x, _ => x = .pointer (some ⟨b, 0, none⟩)
  | 10, x, _ => ∃ z : Nat, z < 3 ∧ x = .int .i64 (z : Int)
  | 11, x, w => ∃ l : List UInt8, l.length ≤ 60 ∧ (f 15 = false → OB 5 W.heap.size x l w)
  | 12, x, _ => ∃ l : List UInt8, l.length ≤ 60 ∧ x = .string (bs l)
  | 13, x, _ => ∃ (q : Nat) (l : List UInt8), l.length ≤ 60 ∧ x = .agg #[.int .i64 1, .int .i64 (next : Int), .string (nmF q), .int .i64 tm, .string (bs l)]
  | 14, x, w => ∃ p, x = .pointer (some ⟨p, 0, none⟩) ∧ W.heap.size ≤ p ∧ (f 15 = false → w.heap[p]? = some msgZero) ∧ (f 15 = true → ∃ (q : Nat) (l : List UInt8), l.length ≤ 60 ∧ w.heap[p]? = some (msgRow next tm q l))
  | _, _, _ => True
/-- A message is stored into a block. -/
theorem st5 {w : World} {p : Nat} (h : w.heap[p]? = some msgZero) (next q : Nat) (tm : Int) (l : List UInt8) :
    (storeCells ⟨p, 0, none⟩ [.int .i64 1, .int .i64 (next : Int), .string (nmF q), .int .i64 tm, .string (bs l)] 0).run Tryz.prog w = .ok () (w.setRow p #[.int .i64 1, .int .i64 (next : Int), .string (nmF q), .int .i64 tm, .string (bs l)]) :=
  run_storeCells_from p _ [.int .i64 1, .int .i64 (next : Int), .string (nmF q), .int .i64 tm, .string (bs l)] 0 _ w h (by rfl) (by intro v hv; simp at hv; rcases hv with rfl | rfl | rfl | rfl | rfl <;> rfl)
theorem upI_ne (f : Nat → Bool) {i j : Nat} (h : j ≠ i) : upI f i j = f j := by unfold upI; rw [if_neg h]
theorem fact8_later {b : Nat} {W w w' : World} {next : Nat} {tm : Int} {kv : Value} {f : Nat → Bool} {i : Nat} (hi : i ≠ 15) (hb : b < W.heap.size) (hf : Fr b w w') : ∀ (j : Nat) (x : Value), fact8 b W next tm kv f j x w → fact8 b W next tm kv (upI f i) j x w' := by
  have h15 : upI f i 15 = f 15 := upI_ne f (Ne.symm hi)
  have hc : ∀ (g j : Nat) (v : Value), W.heap.size ≤ g → w.cell? ⟨g, j, none⟩ = some v → w'.cell? ⟨g, j, none⟩ = some v := fun g j v hg h =>
    (World.cell?_of_block (a := ⟨g, j, none⟩) (hf.block g (World.block_lt_of_cell? _ _ h) (by intro e; injection e; omega))).trans h
  have hr : ∀ (g : Nat) (o : Obj), W.heap.size ≤ g → w.heap[g]? = some o → w'.heap[g]? = some o := fun g o hg h =>
    (hf.block g (Array.getElem?_eq_some_iff.1 h).1 (by intro e; injection e; omega)).trans h
  intro j x h
  match j with
  | 0 | 2 | 3 | 5 | 6 | 7 | 8 | 9 | 10 | 12 | 13 => exact h
  | 1 =>
    obtain ⟨g, e, hg, hx⟩ := h
    exact ⟨g, e, hg, fun h0 j hj => hc g j _ hg (hx (h15 ▸ h0) j hj)⟩
  | 4 =>
    obtain ⟨g, q, hq, e, hg, hx⟩ := h
    exact ⟨g, q, hq, e, hg, fun h0 => hc g q _ hg (hx (h15 ▸ h0))⟩
  | 11 =>
    obtain ⟨l, hl, hx⟩ := h
    exact ⟨l, hl, fun h0 => (hx (h15 ▸ h0)).fr hf hb⟩
  | 14 =>
    obtain ⟨p, e, hp, h1, h2⟩ := h
    exact ⟨p, e, hp, fun h0 => hr p _ hp (h1 (h15 ▸ h0)), fun h0 => by
      obtain ⟨q, l, hl, hx⟩ := h2 (h15 ▸ h0)
      exact ⟨q, l, hl, hr p _ hp hx⟩⟩
  | _ + 15 => exact trivial
theorem msg_cells {w : World} {p next q : Nat} {tm : Int} {l : List UInt8} (h : w.heap[p]? = some (msgRow next tm q l)) :
    (w.cell? ⟨p, 0, none⟩ = some (.int .i64 1) ∧ w.cell? ⟨p, 1, none⟩ = some (.int .i64 (next : Int)) ∧ w.cell? ⟨p, 2, none⟩ = some (.string (nmF q)) ∧ w.cell? ⟨p, 3, none⟩ = some (.int .i64 tm) ∧ w.cell? ⟨p, 4, none⟩ = some (.string (bs l))) ∧ ∀ j, w.frozen? ⟨p, j, none⟩ = false := by
  refine ⟨⟨?_, ?_, ?_, ?_, ?_⟩, fun j => by simp [World.frozen?, h, msgRow]⟩ <;> (rw [cell_of_row _ _ _ _ _ _ h]; rfl)
theorem OM.fr {B b : Nat} {v : Value} {o : List Ms} {w w1 : World} (h : OM B v o w) (hf : Fr b w w1) (hB : b < B) : OM B v o w1 :=
  OR.keep h fun k hk => by
    have h1 := World.ownsRow.lt h k hk
    exact hf.block k h1.2 (by intro e; injection e; omega)
theorem msg_row {w : World} {p : Nat} {m : Ms} (h : w.heap[p]? = some (.cells (encM m).toArray 43 (0, 0))) :
    w.cell? ⟨p, 0, none⟩ = some (.int .i64 m.kind) ∧ w.cell? ⟨p, 1, none⟩ = some (.int .i64 m.id) ∧ w.cell? ⟨p, 2, none⟩ = some (.string (bs m.who)) ∧ w.cell? ⟨p, 3, none⟩ = some (.int .i64 m.time) ∧ w.cell? ⟨p, 4, none⟩ = some (.string (bs m.text)) := by
  refine ⟨?_, ?_, ?_, ?_, ?_⟩ <;> (rw [cell_of_row _ _ _ _ _ _ h]; rfl)
theorem row_two {w : World} {p next q : Nat} {tm : Int} {l : List UInt8} (h : w.heap[p]? = some (msgRow next tm q l)) (id kd : Int) :
    ((w.setCell ⟨p, 1, none⟩ (.int .i64 id)).setCell ⟨p, 0, none⟩ (.int .i64 kd)).heap[p]? = some (.cells (encM ⟨kd, id, bl (nmF q), tm, l⟩).toArray 43 (0, 0)) := set_row_at (set_row_at h 1 _) 0 _
theorem row_three {w : World} {p next q : Nat} {tm : Int} {l : List UInt8} (h : w.heap[p]? = some (msgRow next tm q l)) (id : Int) :
    (((w.setCell ⟨p, 1, none⟩ (.int .i64 id)).setCell ⟨p, 0, none⟩ (.int .i64 3)).setCell ⟨p, 4, none⟩ (.string ⟨#[]⟩)).heap[p]? = some (.cells (encM ⟨3, id, bl (nmF q), tm, []⟩).toArray 43 (0, 0)) := set_row_at (set_row_at (set_row_at h 1 _) 0 _) 4 _
theorem says_true {o : Option Bool} (h : (o.map Value.bool).getD (.bool false) = .bool true) : o = some true := by
  cases o with
  | none => cases h
  | some b => injection h with h; rw [h]
theorem says_same {F : Lit → Option Value} {f : Int → Option Bool} {x : Int} (h : SaysB F f) (hx : f x = some true) : SaysB F (upd f x (some true)) := by
  have : upd f x (some true) = f := by
    funext y
    unfold upd
    by_cases e : y = x
    · rw [if_pos e, e, hx]
    · rw [if_neg e]
  rw [this]; exact h
/-- A block that was made since may be written. -/
theorem fr_map {b K : Nat} {w w1 w2 : World} (h : Fr b w w1) (hg : w1.grownBy w2 (some K)) (hK : w.heap.size ≤ K := by omega) : Fr b w w2 :=
  ⟨hg.os.trans h.os, hg.tape.trans h.tape, hg.output.trans h.output, Nat.le_trans h.size hg.size, fun k hk hne => (hg.block k (Nat.lt_of_lt_of_le hk h.size) (by intro e; injection e; omega)).trans (h.block k hk hne)⟩
/-- Behind the store. -/
theorem fact8_store {b : Nat} {W w : World} {next : Nat} {tm : Int} {kv : Value} {f : Nat → Bool} {p q : Nat} {l6 : List UInt8} (hl : l6.length ≤ 60) (hz : w.heap[p]? = some msgZero) : ∀ (j : Nat) (x : Value), j ≠ 15 → (j = 14 → x = .pointer (some ⟨p, 0, none⟩)) → fact8 b W next tm kv f j x w → fact8 b W next tm kv (upI f 15) j x (w.setRow p #[.int .i64 1, .int .i64 (next : Int), .string (nmF q), .int .i64 tm, .string (bs l6)]) := by
  have h15 : upI f 15 15 ≠ false := by intro h; cases h
  intro j x hj hx h
  match j with
  | 0 | 2 | 3 | 5 | 6 | 7 | 8 | 9 | 10 | 12 | 13 => exact h
  | 1 =>
    obtain ⟨g, e, hg, -⟩ := h
    exact ⟨g, e, hg, fun h0 => absurd h0 h15⟩
  | 4 =>
    obtain ⟨g, q, hq, e, hg, -⟩ := h
    exact ⟨g, q, hq, e, hg, fun h0 => absurd h0 h15⟩
  | 11 =>
    obtain ⟨l, hl, -⟩ := h
    exact ⟨l, hl, fun h0 => absurd h0 h15⟩
  | 14 =>
    obtain ⟨p', e, hp, -, -⟩ := h
    have e2 := hx rfl
    rw [e] at e2
    injection e2 with e2
    injection e2 with e2
    injection e2 with e2
    subst e2
    exact ⟨p', e, hp, fun h0 => absurd h0 h15, fun _ => ⟨q, l6, hl, setRow_heap _ _ _ _ _ _ hz⟩⟩
  | 15 => exact absurd rfl hj
  | _ + 16 => exact trivial
set_option maxHeartbeats 8000000 in
theorem messages_any (b : Nat) (v : Value) (w : World) (hk : KnV b w v) (ht : TapeOK b w) : Calls Tryz.prog 9 #[.pointer (some ⟨b, 0, none⟩), v] w (MakePost b w) := by
  have hbs := ht.lt
  have hks := hk
  obtain ⟨g0, f0, n0, c0, U0, rfl, -⟩ := hks
  have HKN := Lib.hid hk
  clear hk
  have hmm := @run_makeMap Tryz.prog
  have K : Keyed Tryz.prog 3 := Maps.int_keyed Tryz.underlying3
  have hz : ∀ w, (zeroValue 4).run Tryz.prog w = .ok (.bool false) w := fun _ => by kernel_rfl
  go_enter Tryz.func9, Tryz.ntmps9
  go_wp2_with fail
  have hb1 : Below w.heap.size w (w.alloc (.map #[] 0)) := (Below.refl _ _).alloc (Nat.le_refl _) _
  refine (next_any b 5 _ (by omega) (by omega) (ht.below hb1)).mono ?_
  rintro e w1 ⟨t0, rfl, ht00, ht01, ht1, hf1⟩
  have hmv1 : MV Tryz.prog 3 w.heap.size 0 (fun _ => none) w1 := (MV.made Tryz.prog 3 w).kept (hf1.block _ (by simp) (by intro e; injection e; omega))
  have hfw1 : Fr b w w1 := (Fr.of_below hb1).trans hf1
  clear hf1 hb1 hmm
  go_wp2_with fail
  refine (next_any b 7 _ (by omega) (by omega) ht1).mono ?_
  rintro e w2 ⟨r, rfl, hr0, hr1, ht2, hf2⟩
  have hmv2 := hmv1.kept (hf2.block _ hmv1.lt (by intro e; injection e; omega))
  have hfw2 := hfw1.trans hf2
  obtain ⟨rn, hrn⟩ : ∃ rn : Nat, r = (rn : Int) := ⟨r.toNat, by omega⟩
  subst hrn
  have hwsz : w.heap.size < w2.heap.size := hmv2.lt
  clear hmv1 hfw1 ht1 hf2 ht
  go_wp2_with fail
  go_loopw [5, 7, 8, 9] (fun v nx nw i wr => ∃ (k : Nat) (o : List Ms) (next : Nat) (now : Int) (F : Lit → Option Value) (n : Nat), k ≤ rn ∧ i = .int .i64 (k : Int) ∧ nx = .int .i64 (next : Int) ∧ nw = .int .i64 now ∧ k + o.length = rn ∧ 1 ≤ next ∧ next ≤ o.length + 1 ∧ 0 ≤ now ∧ now ≤ 4 + 2 * (o.length : Int) ∧ OM w2.heap.size v o wr ∧ GoodM o next now ∧ MV Tryz.prog 3 w.heap.size n F wr ∧ n ≤ o.length ∧ Hid (SaysB F (endF o (fun _ => none))) ∧ TapeOK b wr ∧ Below w2.heap.size w2 w2 ∧ Fr b w wr ∧ w2.heap.size ≤ wr.heap.size ∧ (∀ m ∈ o, m.text.length ≤ 60)) (fun _ _ _ i _ => (intOf i).toNat)
  case atStart => exact ⟨rn, [], 1, t0, fun _ => none, 0, Nat.le_refl _, rfl, rfl, rfl, by simp, by omega, by simp, by omega, by simp; omega, OR.nil_ _ _ _, GoodM.nil _ _, hmv2, by simp, fun _ => rfl, ht2, Below.refl _ _, hfw2, Nat.le_refl _, by simp⟩
  case round =>
    obtain ⟨k, o, next, now, F, n, hk, rfl, rfl, rfl, hko, hx1, hx2, hn0, hn1, hown, hgood, hmv, hn, hsays, htr, -, hfr, hsz, htx⟩ := hrel
    by_cases hlt : 0 < k
    · have hd : decide ((0 : Int) < (k : Int)) = true := decide_eq_true (by omega)
      have hdn : decide (0 < k) = true := decide_eq_true hlt
      have H0 := Lib.hid (And.intro hown (And.intro hgood (And.intro hmv (And.intro hsays (And.intro htr (And.intro hfr htx))))))
      clear hown hgood hmv htr hfr htx hsays
      go_upto_region 7 with fail
      go_cut [8] from 21 to 69 (fun v wx => ∃ r : Int, v = .int .i64 (now + r) ∧ 0 ≤ r ∧ r < 3 ∧ TapeOK b wx ∧ Fr b wr wx)
      case first =>
        go_wp2_with fail
        refine (next_any b 3 _ (by omega) (by omega) H0.out.2.2.2.2.1).mono ?_
        rintro e w3 ⟨r, rfl, r0, r1, ht3, hf3⟩
        have hw3 : IntKind.i64.wrap (now + r) = now + r := IntWalk.i64_in _ (by omega)
        go_wp2_with fail
        go_meet
        exact ⟨r, rfl, r0, r1, ht3, hf3⟩
      case rest =>
        obtain ⟨r, rfl, r0, r1, ht3, hf3⟩ := hcut
        obtain ⟨W3, hW3⟩ : ∃ W3 : World, W3 = wc := ⟨_, rfl⟩
        rw [← hW3] at ht3 hf3 ⊢
        clear hW3
        apply_assumption
        go_upto_region 8 with fail
        have hbW : b < W3.heap.size := ht3.lt
        have hf3w : Fr b w W3 := H0.out.2.2.2.2.2.1.trans hf3
        obtain ⟨tm, htm⟩ : ∃ tm : Int, tm = now + r := ⟨_, rfl⟩
        rw [← htm]
        have HTM := Lib.hid htm
        clear htm
        refine wp_region_facts (fact8 b W3 next tm (.slice (some ⟨g0, f0, none⟩) n0 c0)) (fun _ w' => TapeOK b w' ∧ Fr b W3 w') (by kernel_rfl) (by kernel_rfl) (by kernel_rfl) ⟨ht3.below (Below.refl _ _).drew, (Fr.refl _ _).drew⟩ ?_ ?_
        · refine FSteps.cons ?_ (FSteps.cons ?_ (FSteps.cons ?_ (FSteps.cons ?_ (FSteps.cons ?_ (FSteps.cons ?_ (FSteps.cons ?_ (FSteps.cons ?_ (FSteps.cons ?_ (FSteps.cons ?_ (FSteps.cons ?_ (FSteps.cons ?_ (FSteps.cons ?_ (FSteps.cons ?_ (FSteps.cons ?_ (FSteps.cons ?_ FSteps.nil)))))))))))))))
          all_goals (intro f v w0 h0 hpre hE hF hcl hU hS K hK; simp only [putAll, Act.put, List.setIfInBounds_toArray, List.set_cons_zero, List.set_cons_succ, Nat.zero_add, Nat.reduceAdd] at hK ⊢)
          · go_wp2_with fail
            exact hK.out _ _ hS (fun j _ _ h => fact8_later (by decide) hbW (Fr.refl _ _) j _ h) rfl
          · go_wp2_with fail
            have hb1 : Below w0.heap.size w0 (w0.alloc (.cells #[.string ⟨#[97, 110, 110]⟩, .string ⟨#[98, 111, 98]⟩] 9)) := (Below.refl _ _).alloc (Nat.le_refl _) _
            exact hK.out _ _ ⟨hS.1.below hb1, hS.2.trans (Fr.of_below hb1)⟩ (fun j _ _ h => fact8_later (by decide) hbW (Fr.of_below hb1) j _ h) ⟨w0.heap.size, rfl, hS.2.size, fun _ => nm_new w0 _⟩
          · go_wp2_with fail
            exact hK.out _ _ hS (fun j _ _ h => fact8_later (by decide) hbW (Fr.refl _ _) j _ h) rfl
          · have e2 : v 2 = _ := hE.1 rfl
            rw [e2] at hK ⊢
            go_wp2_with fail
            refine (next_any b 2 _ (by omega) (by omega) hS.1).mono ?_
            rintro e w1 ⟨q, rfl, q0, q1, htN, hfN⟩
            go_wp2_with fail
            exact hK.out _ _ ⟨htN, hS.2.trans hfN⟩ (fun j _ _ h => fact8_later (by decide) hbW hfN j _ h) ⟨q.toNat, by omega, by rw [Int.toNat_of_nonneg q0]⟩
          · have h15 := closed_not hcl 5 15 4 (by kernel_rfl) h0
            obtain ⟨g, e1, hg, hc⟩ := hE.1 rfl
            obtain ⟨q, hq, e3⟩ := hE.2.1 rfl
            rw [e1, e3] at hK ⊢
            have hq0 : (0 : Int) ≤ (q : Int) := by omega
            have hq1 : (q : Int) < 2 := by omega
            have hqn : (q : Int).toNat = q := by omega
            go_wp2_with fail
            exact hK.out _ _ hS (fun j _ _ h => fact8_later (by decide) hbW (Fr.refl _ _) j _ h) ⟨g, q, hq, rfl, hg, fun _ => hc h15 q hq⟩
          · have h15 := closed_not hcl 5 15 5 (by kernel_rfl) h0
            obtain ⟨g, q, hq, e4, hg, hc⟩ := hE.1 rfl
            have hc5 := hc h15
            rw [e4] at hK ⊢
            go_wp2_with fail
            exact hK.out _ _ hS (fun j _ _ h => fact8_later (by decide) hbW (Fr.refl _ _) j _ h) ⟨q, rfl⟩
          · go_wp2_with fail
            exact hK.out _ _ hS (fun j _ _ h => fact8_later (by decide) hbW (Fr.refl _ _) j _ h) rfl
          · go_wp2_with fail
            exact hK.out _ _ hS (fun j _ _ h => fact8_later (by decide) hbW (Fr.refl _ _) j _ h) rfl
          · go_wp2_with fail
            exact hK.out _ _ hS (fun j _ _ h => fact8_later (by decide) hbW (Fr.refl _ _) j _ h) rfl
          · go_wp2_with fail
            exact hK.out _ _ hS (fun j _ _ h => fact8_later (by decide) hbW (Fr.refl _ _) j _ h) rfl
          · have e9 : v 9 = _ := hE.1 rfl
            rw [e9] at hK ⊢
            go_wp2_with fail
            refine (next_any b 3 _ (by omega) (by omega) hS.1).mono ?_
            rintro e w1 ⟨q, rfl, q0, q1, htN, hfN⟩
            go_wp2_with fail
            exact hK.out _ _ ⟨htN, hS.2.trans hfN⟩ (fun j _ _ h => fact8_later (by decide) hbW hfN j _ h) ⟨q.toNat, by omega, by rw [Int.toNat_of_nonneg q0]⟩
          · have e7 : v 7 = _ := hE.1 rfl
            have e8 : v 8 = _ := hE.2.1 rfl
            obtain ⟨z, hz, e10⟩ := hE.2.2.1 rfl
            rw [e7, e8, e10] at hK ⊢
            go_wp2_with fail
            refine (text_any b z _ _ (HKN.out.later (Stay.of_fr (hf3w.trans hS.2))) (by omega) hS.1).mono ?_
            rintro e w1 ⟨v6, l6, rfl, hl6, hv6, htN, hfN⟩
            go_wp2_with fail
            exact hK.out _ _ ⟨htN, hS.2.trans hfN⟩ (fun j _ _ h => fact8_later (by decide) hbW hfN j _ h) ⟨l6, by omega, fun _ => hv6.mono hS.2.size⟩
          · have h15 := closed_not hcl 5 15 12 (by kernel_rfl) h0
            obtain ⟨l6, hl6, ho⟩ := hE.1 rfl
            obtain ⟨A6, n6, c6, e6⟩ := (ho h15).slice
            have ho' := ho h15
            rw [e6] at hK ho' ⊢
            have hcv := ho'.conv (P := Tryz.prog) (T := 23) (d := 9) Tryz.underlying23 Tryz.underlying5 Tryz.underlying9
            go_wp2_with fail
            exact hK.out _ _ hS (fun j _ _ h => fact8_later (by decide) hbW (Fr.refl _ _) j _ h) ⟨l6, hl6, rfl⟩
          · have e0 : v 0 = _ := hE.1 rfl
            obtain ⟨q, e5⟩ := hE.2.1 rfl
            have e6 : v 6 = _ := hE.2.2.1 rfl
            obtain ⟨l6, hl6, e12⟩ := hE.2.2.2.1 rfl
            rw [e0, e5, e6, e12] at hK ⊢
            go_wp2_with fail
            exact hK.out _ _ hS (fun j _ _ h => fact8_later (by decide) hbW (Fr.refl _ _) j _ h) ⟨q, l6, hl6, rfl⟩
          · have h15 := closed_not hcl 5 15 14 (by kernel_rfl) h0
            go_wp2_with fail
            have hb1 : Below w0.heap.size w0 (w0.alloc (.cells #[.int .i64 0, .int .i64 0, .string ⟨#[]⟩, .int .i64 0, .string ⟨#[]⟩] 43)) := (Below.refl _ _).alloc (Nat.le_refl _) _
            exact hK.out _ _ ⟨hS.1.below hb1, hS.2.trans (Fr.of_below hb1)⟩ (fun j _ _ h => fact8_later (by decide) hbW (Fr.of_below hb1) j _ h) ⟨w0.heap.size, rfl, hS.2.size, fun _ => heap_alloc_new w0 _, fun h => by rw [upI_ne f (by decide), h15] at h; cases h⟩
          · obtain ⟨q, l6, hl6, e13⟩ := hE.2.1 rfl
            obtain ⟨p, e14, hp, hz, -⟩ := hE.1 rfl
            have hzr : w0.heap[p]? = some msgZero := hz h0
            have hst := st5 hzr next q tm l6
            rw [e13, e14] at hK ⊢
            have hpw : p < w0.heap.size := (Array.getElem?_eq_some_iff.1 hzr).1
            have HZ := Lib.hid hzr
            simp [go_sem] at hst
            clear hzr hz hE hF
            go_wp2_with fail
            exact hK.out undef _ ⟨tape_row hS.1 (by omega), fr_row hS.2 hp⟩ (fun j hj hfj h => fact8_store hl6 HZ.out j _ hj (by rintro rfl; exact e14) h) trivial
        · intro f v w' hall hF hS
          obtain ⟨p, e14, hp, -, hc⟩ := hF 14 (by decide)
          obtain ⟨q, l6, hl6, hrow⟩ := hc (hall 15 (by decide))
          simp only [putAll, Act.put, List.setIfInBounds_toArray, List.set_cons_zero, List.set_cons_succ, Nat.zero_add, Nat.reduceAdd]
          rw [e14]
          have hbp : b < p := by omega
          have H8 := Lib.hid (And.intro hrow (And.intro hS.1 (And.intro hS.2 (And.intro hl6 HTM.out))))
          clear hF hall hc hrow hS e14 HTM
          obtain ⟨W8, hW8⟩ : ∃ W8 : World, W8 = w' := ⟨_, rfl⟩
          rw [← hW8] at H8 ⊢
          clear hW8
          apply_assumption
          have hwn : IntKind.i64.wrap ((next : Int) + 1) = (next : Int) + 1 := IntWalk.i64_in _ (by omega)
          go_wp2_with fail
          refine (next_any b ((next : Int) + 1) _ (by omega) (by omega) H8.out.2.1).mono ?_
          rintro e w9 ⟨old, rfl, d0, d1, ht9, hf9⟩
          have H9 := Lib.hid (And.intro (KR.step H8.out.1 hf9 hbp) (And.intro ht9 (And.intro (H8.out.2.2.1.trans hf9) H8.out.2.2.2)))
          have hmv9 := (H0.out.2.2.1.kept ((hf3.trans (H8.out.2.2.1.trans hf9)).block _ H0.out.2.2.1.lt (by intro e; injection e; omega)))
          clear ht9 hf9 H8
          have hlk := hmv9.look K Tryz.underlying54 hz (key_int Tryz.underlying3 old (by omega) (by omega)) trivial
          rw [H0.out.2.2.2.1.out old] at hlk
          obtain ⟨tb, htb⟩ : ∃ tb : Bool, ((endF o (fun _ => none) old).map Value.bool).getD (.bool false) = .bool tb := by
            cases endF o (fun _ => none) old with
            | none => exact ⟨false, rfl⟩
            | some b => exact ⟨b, rfl⟩
          have HTB := Lib.hid htb
          rw [htb] at hlk
          clear htb
          have hrow9 := H9.out.1
          go_upto_region 10 with fail
          go_cut [50] from 21 to 69 (fun v wx => ∃ t : Bool, v = .bool t ∧ Hid (t = true → tb = true) ∧ TapeOK b wx ∧ Fr b w9 wx)
          case first =>
            cases tb with
            | true =>
              go_wp2_with fail
              refine (next_any b 3 _ (by omega) (by omega) H9.out.2.1).mono ?_
              rintro e w10 ⟨z, rfl, z0, z1, ht10, hf10⟩
              go_wp2_with fail
              go_meet
              exact ⟨decide (0 < z), rfl, (by first | exact trivial | exact fun _ => trivial | exact fun _ => rfl), ht10, hf10⟩
            | false =>
              go_wp2_with fail
              go_meet
              exact ⟨false, rfl, fun h => (by cases h), H9.out.2.1, Fr.refl _ _⟩
          case rest =>
            obtain ⟨t, rfl, htt, ht10, hf10⟩ := hcut
            obtain ⟨W10, hW10⟩ : ∃ W10 : World, W10 = wc := ⟨_, rfl⟩
            rw [← hW10] at ht10 hf10 ⊢
            clear hW10
            have hrow10 := KR.step hrow9 hf10 hbp
            have hmv10 := hmv9.kept (hf10.block _ hmv9.lt (by intro e; injection e; omega))
            have hfx10 := H9.out.2.2.1.trans hf10
            have hfw10 := (H0.out.2.2.2.2.2.1.trans hf3).trans hfx10
            have hpw2 : w2.heap.size ≤ p := by have h1 := H0.out.2.2.2.2.2.1.size; have h2 := hf3.size; omega
            have hpk : p < W10.heap.size := (Array.getElem?_eq_some_iff.1 hrow10).1
            have hown10 := OM.fr H0.out.1 (hf3.trans hfx10) (by omega)
            have hl6' := H9.out.2.2.2.1
            have hok : ∀ q, u5.ownBlock = some q → w2.heap.size ≤ q ∧ q < p := fun q hq => by
              have h1 := World.ownsRow.lt H0.out.1 q hq
              have h2 := hf3.size
              omega
            have HOK := Lib.hid hok
            clear hok
            have H10 := Lib.hid (And.intro hown10 (And.intro H0.out.2.1 (And.intro H0.out.2.2.2.1 (And.intro ht10 (And.intro hfw10 (And.intro H0.out.2.2.2.2.2.2 H9.out.2.2.2.2))))))
            have HB := Lib.hid hmv10
            clear hrow9 hlk hmv9 H9 H0 ht10 hf10 hfx10 hfw10 hown10 hmv10 hf3w ht3 hf3
            apply_assumption
            go_cut [7] from 21 to 69 (fun nx wx => ∃ (m : Ms) (next' n' : Nat) (F' : Lit → Option Value), nx = .int .i64 (next' : Int) ∧ Hid (wx.heap[p]? = some (.cells (encM m).toArray 43 (0, 0)) ∧ GoodM (o ++ [m]) next' tm ∧ MV Tryz.prog 3 w.heap.size n' F' wx ∧ SaysB F' (endF (o ++ [m]) (fun _ => none)) ∧ TapeOK b wx ∧ Fr b w wx ∧ OM w2.heap.size u5 o wx ∧ m.text.length ≤ 60) ∧ 1 ≤ next' ∧ next' ≤ next + 1 ∧ n' ≤ n + 1)
            case first =>
              cases t with
              | true =>
                have htb := htt.out rfl
                subst htb
                go_wp2_with fail
                refine (between_any b 2 3 _ (by omega) (by omega) (by omega) (by omega) H10.out.2.2.2.1).mono ?_
                rintro e w11 ⟨z, rfl, z0, z1, ht11, hf11⟩
                have hrow11 := KR.step hrow10 hf11 hbp
                obtain ⟨⟨c0', c1', c2', c3', c4'⟩, hfz⟩ := msg_cells hrow11
                have f0' := hfz 0
                have f1' := hfz 1
                have f4' := hfz 4
                clear hfz
                have H11 := Lib.hid (And.intro hrow11 (And.intro ht11 (And.intro hf11 (HB.out.kept (hf11.block _ HB.out.lt (by intro e; injection e; omega))))))
                clear hrow11 ht11 hf11 hrow10
                have hz23 : z = 2 ∨ z = 3 := by omega
                clear z0 z1
                rcases hz23 with rfl | rfl
                · go_wp2_with fail
                  go_meet
                  have HE1 := says_true HTB.out
                  refine ⟨⟨2, old, bl (nmF q), tm, l6⟩, next, n, F, rfl, ⟨row_two H11.out.1 old 2, ?_, H11.out.2.2.2.kept ?_, ?_, tape_set (tape_set H11.out.2.1 hbp) hbp, fr_set (fr_set (H10.out.2.2.2.2.1.trans H11.out.2.2.1) (by omega)) (by omega), ?_, hl6'⟩, by omega, by omega, by omega⟩
                  · obtain ⟨h1, h2⟩ := H10.out.2.1.known old (by rw [HE1]; simp)
                    have h3 := H10.out.2.2.2.2.2.2
                    exact H10.out.2.1.turn _ (by dsimp only; omega) HE1 rfl (by omega) (by omega) (wrong_made (by omega) (by omega) h1 (by omega) (who_nm q) (fun h => by omega)) hl6'
                  · rw [Below.heap_setCell _ _ _ _ (by dsimp only; omega), Below.heap_setCell _ _ _ _ (by dsimp only; omega)]
                  · rw [endF_snoc]
                    exact says_same H10.out.2.2.1 HE1
                  · refine OR.keep (OM.fr H10.out.1 H11.out.2.2.1 (by omega)) fun q' hq' => ?_
                    have h4 := HOK.out q' hq'
                    rw [Below.heap_setCell _ _ _ _ (by dsimp only; omega), Below.heap_setCell _ _ _ _ (by dsimp only; omega)]
                · have hmvs : MV Tryz.prog 3 w.heap.size n F (((w11.setCell ⟨p, 1, none⟩ (.int .i64 old)).setCell ⟨p, 0, none⟩ (.int .i64 3)).setCell ⟨p, 4, none⟩ (.string ⟨#[]⟩)) := by
                    refine H11.out.2.2.2.kept ?_
                    rw [Below.heap_setCell _ _ _ _ (by dsimp only; omega), Below.heap_setCell _ _ _ _ (by dsimp only; omega), Below.heap_setCell _ _ _ _ (by dsimp only; omega)]
                  have hkl := key_int (P := Tryz.prog) Tryz.underlying3 old (by omega) (by omega)
                  have hnm : n < maxLen := by unfold maxLen; omega
                  go_wp2_with (at_mapUpdate; refine wpList_put_MV _ rfl _ _ _ 54 rfl 3 4 K Tryz.underlying54 w.heap.size n F rfl hmvs hnm _ _ _ rfl rfl hkl trivial ?_; intro w12 hmv12 hgr12)
                  go_meet
                  have HE1 := says_true HTB.out
                  refine ⟨⟨3, old, bl (nmF q), tm, []⟩, next, n + 1, _, rfl, ⟨?_, ?_, hmv12, ?_, ?_, ?_, ?_, by simp⟩, by omega, by omega, by omega⟩
                  · rw [hgr12.block p (by simp [World.setCell]; have := H11.out.2.2.1.size; omega) (by intro e; injection e; omega)]
                    exact row_three H11.out.1 old
                  · obtain ⟨h1, h2⟩ := H10.out.2.1.known old (by rw [HE1]; simp)
                    have h3 := H10.out.2.2.2.2.2.2
                    exact H10.out.2.1.turn _ (by dsimp only; omega) HE1 rfl (by omega) (by omega) (wrong_made (by omega) (by omega) h1 (by omega) (who_nm q) (fun _ => rfl)) (by simp)
                  · rw [endF_snoc]
                    exact H10.out.2.2.1.put old false
                  · refine TapeOK.keep (tape_set (tape_set (tape_set H11.out.2.1 hbp) hbp) hbp) fun q' hq' => hgr12.block q' ?_ (by intro e; injection e; omega)
                    simp [World.setCell]; have := H11.out.2.2.1.size; omega
                  · exact fr_map (fr_set (fr_set (fr_set (H10.out.2.2.2.2.1.trans H11.out.2.2.1) (by omega)) (by omega)) (by omega)) hgr12
                  · refine OR.keep (OM.fr H10.out.1 H11.out.2.2.1 (by omega)) fun q' hq' => ?_
                    have h4 := HOK.out q' hq'
                    have h5 := H11.out.2.2.1.size
                    rw [hgr12.block q' (by simp [World.setCell]; omega) (by intro e; injection e; omega), Below.heap_setCell _ _ _ _ (by dsimp only; omega), Below.heap_setCell _ _ _ _ (by dsimp only; omega), Below.heap_setCell _ _ _ _ (by dsimp only; omega)]
              | false =>
                have hkl := key_int (P := Tryz.prog) Tryz.underlying3 (next : Int) (by omega) (by omega)
                have hnm : n < maxLen := by unfold maxLen; omega
                have hwn : IntKind.i64.wrap ((next : Int) + 1) = (next : Int) + 1 := IntWalk.i64_in _ (by omega)
                have hmvs := HB.out
                go_wp2_with (at_mapUpdate; refine wpList_put_MV _ rfl _ _ _ 54 rfl 3 4 K Tryz.underlying54 w.heap.size n F rfl hmvs hnm _ _ _ rfl rfl hkl trivial ?_; intro w12 hmv12 hgr12)
                go_meet
                refine ⟨⟨1, next, bl (nmF q), tm, l6⟩, next + 1, n + 1, _, by go_num, ⟨?_, ?_, hmv12, ?_, ?_, ?_, ?_, hl6'⟩, by omega, by omega, by omega⟩
                · rw [hgr12.block p hpk (by intro e; injection e; omega)]
                  exact hrow10
                · have h3 := H10.out.2.2.2.2.2.2
                  exact H10.out.2.1.post _ rfl rfl (by omega) rfl (by omega) (by omega) (wrong_made (by omega) (by omega) (by omega) (by omega) (who_nm q) (fun h => by omega)) hl6'
                · rw [endF_snoc]
                  exact H10.out.2.2.1.put (next : Int) true
                · exact TapeOK.keep H10.out.2.2.2.1 fun q' hq' => hgr12.block q' (by omega) (by intro e; injection e; omega)
                · exact fr_map H10.out.2.2.2.2.1 hgr12
                · refine OR.keep H10.out.1 fun q' hq' => ?_
                  have h4 := HOK.out q' hq'
                  exact hgr12.block q' (by omega) (by intro e; injection e; omega)
            case rest =>
              obtain ⟨m, next', n', F', rfl, HM, hx1', hx2', hn'⟩ := hcut
              obtain ⟨W12, hW12⟩ : ∃ W12 : World, W12 = wc := ⟨_, rfl⟩
              rw [← hW12] at HM ⊢
              clear hW12
              obtain ⟨i0, hi, hj0, hj1, hj2⟩ := info_parts info_msg
              have hrow12 := HM.out.1
              obtain ⟨k0, k1, k2, k3, k4⟩ := msg_row hrow12
              have hsz12 : w2.heap.size ≤ W12.heap.size := by have := (Array.getElem?_eq_some_iff.1 hrow12).1; omega
              have hown12 := HM.out.2.2.2.2.2.2.1
              have hw1 : IntKind.i64.wrap ((k : Int) - 1) = (k : Int) - 1 := IntWalk.i64_in _ (by omega)
              have hol : o.length ≤ 1000 := by omega
              clear hrow12
              apply_assumption
              go_wp2_with (at_builtin; refine app_one encM_E Tryz.underlying30 hi hj0 hj1 hj2 rfl (by omega) _ _ _ _ _ m _ _ rfl rfl rfl rfl rfl hown12 (by omega) hsz12 ?_; intro v13 w13 hown13 hb13)
              go_roundw
              case rel =>
                have hbl : w.heap.size < w2.heap.size := hwsz
                refine ⟨k - 1, o ++ [m], next', tm, F', n', by omega, by go_num, rfl, rfl, by simp; omega, hx1', by simp; omega, ?_, ?_, hown13, HM.out.2.1, HM.out.2.2.1.kept (hb13.block _ (by omega)), by simp; omega, HM.out.2.2.2.1, ?_, Below.refl _ _, ?_, ?_, ?_⟩
                · have := H10.out.2.2.2.2.2.2; omega
                · have := H10.out.2.2.2.2.2.2; simp; omega
                · exact HM.out.2.2.2.2.1.below' hb13 (by omega)
                · exact HM.out.2.2.2.2.2.1.then (hb13.mono (by omega))
                · exact Nat.le_trans hsz12 hb13.size
                · intro x hx
                  rcases List.mem_append.1 hx with h | h
                  · exact H10.out.2.2.2.2.2.1 x h
                  · rw [List.mem_singleton.1 h]; exact HM.out.2.2.2.2.2.2.2
              case measure => simp [intOf]; omega
    · obtain rfl : k = 0 := by omega
      have H0 := Lib.hid (And.intro hown (And.intro hgood (And.intro htr (And.intro hfr htx))))
      clear hown hgood hmv htr hfr htx hsays
      go_wp2_with fail
      go_ret
      obtain ⟨hown, hgood, htr, hfr, htx⟩ := H0.out
      exact ⟨_, o, _, rfl, hown, hgood.err (by omega) (by omega), by omega, htx, htr, hfr⟩
end Go.Proofs.YtklnakjmiljmhaaGreatDoor
