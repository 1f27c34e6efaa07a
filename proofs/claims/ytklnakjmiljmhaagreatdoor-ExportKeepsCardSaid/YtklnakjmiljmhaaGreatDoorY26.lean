/- Kinds in memory. · Walk: texts of a library. · Plain: the row of the two authors in memory. · Walk: a library of kinds. -/
import Derived.Test.YtklnakjmiljmhaaGreatDoorY24
import Derived.Test.YtklnakjmiljmhaaGreatDoorY25
import Derived.Test.YtklnakjmiljmhaaGreatDoorY21
import Derived.Test.YtklnakjmiljmhaaGreatDoorY01
import Derived.Test.YtklnakjmiljmhaaGreatDoorY12
namespace Go.Proofs.YtklnakjmiljmhaaGreatDoor
set_option linter.unusedVariables false
set_option linter.unusedSimpArgs false
set_option maxRecDepth 100000
open Go.RowKit
/-- A kind's cells. -/
structure KC where
  nm : ByteArray
  op : Int
  a1 : Option Addr
  n1 : Nat
  c1 : Nat
  a2 : Option Addr
  n2 : Nat
  c2 : Nat
  mn : Int
  mx : Int
  wh : Bool
  ck : Int
  en : Int
  a3 : Option Addr
  n3 : Nat
  c3 : Nat
  nr : Int
def KC.pat (u : KC) : List Value := [.int .i64 u.op, .slice u.a1 u.n1 u.c1, .slice u.a2 u.n2 u.c2, .int .i64 u.mn, .int .i64 u.mx]
def KC.cs (u : KC) : List Value := [.string u.nm, .int .i64 u.op, .slice u.a1 u.n1 u.c1, .slice u.a2 u.n2 u.c2, .int .i64 u.mn, .int .i64 u.mx, .bool u.wh, .int .i64 u.ck, .int .i64 u.en, .slice u.a3 u.n3 u.c3, .int .i64 u.nr]
theorem encKC : EncS KC.cs 11 := ⟨by decide, fun _ => rfl, fun x u hu => by
  simp only [KC.cs, List.mem_cons, List.not_mem_nil, or_false] at hu
  rcases hu with rfl | rfl | rfl | rfl | rfl | rfl | rfl | rfl | rfl | rfl | rfl <;> rfl⟩
/-- A row of kinds that are good to make texts of. -/
def KnV (b : Nat) (w : World) (v : Value) : Prop := ∃ g f n c, ∃ U : Nat → KC, v = .slice (some ⟨g, f, none⟩) n c ∧ 1 ≤ n ∧ n ≤ 1000 ∧ b < g ∧ g < w.heap.size ∧
  (∀ j, j < n → ∀ i, i < 11 → w.cell? ⟨g, f + j * 11 + i, none⟩ = (U j).cs[i]?) ∧ ∀ j, j < n → Pat b w 4 18 (U j).pat
theorem KnV.later {b : Nat} {w w' : World} {v : Value} (h : KnV b w v) (hs : Stay b w w') : KnV b w' v := by
  obtain ⟨g, f, n, c, U, rfl, h1, h2, h3, h4, h5, h6⟩ := h
  exact ⟨g, f, n, c, U, rfl, h1, h2, h3, Nat.lt_of_lt_of_le h4 hs.1, fun j hj i hi => (hs.cell h3 h4).trans (h5 j hj i hi), fun j hj => (h6 j hj).later hs⟩
theorem KnV.of_OR {b B : Nat} {w : World} {v : Value} {o : List KC} (h : OR 64 11 KC.cs B v o w) (hB : b < B) (h1 : o ≠ []) (h2 : o.length ≤ 1000) (hp : ∀ u ∈ o, Pat b w 4 18 u.pat) : KnV b w v := by
  obtain ⟨A, c, rfl, hle, h3 | ⟨g, rfl, hBg, hg, hc⟩⟩ := h.cells encKC
  · exact absurd h3 h1
  · cases o with
    | nil => exact absurd rfl h1
    | cons u0 r =>
      refine ⟨g, 0, _, c, fun j => (u0 :: r)[j]?.getD u0, rfl, by simp, h2, by omega, hg, fun j hj i hi => ?_, fun j hj => ?_⟩
      · rw [Nat.zero_add, (hc j hj i hi).1]; show _ = (((u0 :: r)[j]?.getD u0).cs)[i]?; rw [List.getElem?_eq_getElem hj]; rfl
      · show Pat b w 4 18 (((u0 :: r)[j]?.getD u0).pat)
        rw [List.getElem?_eq_getElem hj]; exact hp _ (List.getElem_mem hj)
end Go.Proofs.YtklnakjmiljmhaaGreatDoor
namespace Go.Proofs.YtklnakjmiljmhaaGreatDoor
set_option linter.unusedVariables false
set_option linter.unusedSimpArgs false
set_option maxRecDepth 100000
open Go.RowKit
/-- 'append(v, row...)' of a row of bytes in memory. -/
theorem app_RB {P : Program} {T e : TypeId} {i0 : TypeInfo} (ht : P.underlying T = some (.slice e)) (hi : P.info? e = some i0) (hz0 : i0.zero = some (.int .u8 0)) (hz1 : i0.size = 1) (hz2 : i0.bytes = 1)
    {w : World} {ops : Array Oper} {rest : List Oper} {o : Oper} {a : Act} {Q : Exit → Act → World → Prop} (s x : Operand) (v : Value) (l r : List UInt8) (g n c B : Nat)
    (hgd : o.guard = none) (ho : o.op = .call { callee := .builtin .append, args := #[s, x], argTypes := #[T, T] })
    (hs : a.eval s = v) (hx : a.eval x = .slice (some ⟨g, 0, none⟩) n c) (hn : n = r.length) (hown : OB e B v l w) (hy : RB e g r w) (hl : l.length + r.length < 1000000000) (hB : B ≤ w.heap.size)
    (h : ∀ v' w1, OB e B v' (l ++ r) w1 → Below B w w1 → wpList P ops Q rest (a.put o.dst v') w1) :
    wpList P ops Q (o :: rest) a w := by
  subst hn
  exact app_row ht hi hz0 hz1 hz2 s x v l r g c B hgd ho hs hx hown (fun j hj => hy.cell j hj) hl hB h
theorem OB.slice {e : TypeId} {B : Nat} {v : Value} {l : List UInt8} {w : World} (h : OB e B v l w) : ∃ A n c, v = .slice A n c := by
  rcases h.2 with ⟨rfl, -⟩ | ⟨g, cap, cur, rfl, -⟩
  · exact ⟨_, _, _, rfl⟩
  · exact ⟨_, _, _, rfl⟩
theorem word_cell (w : World) (e : TypeId) (j : Nat) (hj : j < 7) : ∃ t : ByteArray, t.size ≤ 5 ∧ (w.alloc (Obj.cells #[.string ⟨#[107, 101, 121]⟩, .string ⟨#[112, 97, 115, 115]⟩, .string ⟨#[32, 107, 101, 121, 32]⟩, .string ⟨#[97]⟩, .string ⟨#[61]⟩, .string ⟨#[116, 107]⟩, .string ⟨#[107, 45]⟩] e)).cell? ⟨w.heap.size, j, none⟩ = some (.string t) := by
  rw [World.cell?_alloc_mark]
  match j, hj with
  | 0, _ => exact ⟨_, by decide, rfl⟩
  | 1, _ => exact ⟨_, by decide, rfl⟩
  | 2, _ => exact ⟨_, by decide, rfl⟩
  | 3, _ => exact ⟨_, by decide, rfl⟩
  | 4, _ => exact ⟨_, by decide, rfl⟩
  | 5, _ => exact ⟨_, by decide, rfl⟩
  | 6, _ => exact ⟨_, by decide, rfl⟩
set_option maxHeartbeats 4000000 in
theorem text_any (b n : Nat) (v : Value) (w : World) (hk : KnV b w v) (hn : n ≤ 1000) (ht : TapeOK b w) :
    Calls Tryz.prog 28 #[.pointer (some ⟨b, 0, none⟩), v, .int .i64 (n : Int)] w (MbPost b (n * 30) w) := by
  obtain ⟨i0, hi, hz0, hz1, hz2⟩ := info_parts info_u8
  obtain ⟨g, f, m, c, U, rfl, h1, h2, hbg, hgl, hU, hP⟩ := hk
  have hbs := ht.lt
  have HU := Lib.hid (fun (w' : World) (hs : Stay b w w') (j : Nat) (hj : j < m) => show (w'.cell? ⟨g, f + j * 11, none⟩ = some (.string (U j).nm) ∧ w'.cell? ⟨g, f + j * 11 + 1, none⟩ = some (.int .i64 (U j).op) ∧ w'.cell? ⟨g, f + j * 11 + 2, none⟩ = some (.slice (U j).a1 (U j).n1 (U j).c1) ∧ w'.cell? ⟨g, f + j * 11 + 3, none⟩ = some (.slice (U j).a2 (U j).n2 (U j).c2) ∧ w'.cell? ⟨g, f + j * 11 + 4, none⟩ = some (.int .i64 (U j).mn) ∧ w'.cell? ⟨g, f + j * 11 + 5, none⟩ = some (.int .i64 (U j).mx) ∧ w'.cell? ⟨g, f + j * 11 + 6, none⟩ = some (.bool (U j).wh) ∧ w'.cell? ⟨g, f + j * 11 + 7, none⟩ = some (.int .i64 (U j).ck) ∧ w'.cell? ⟨g, f + j * 11 + 8, none⟩ = some (.int .i64 (U j).en) ∧ w'.cell? ⟨g, f + j * 11 + 9, none⟩ = some (.slice (U j).a3 (U j).n3 (U j).c3) ∧ w'.cell? ⟨g, f + j * 11 + 10, none⟩ = some (.int .i64 (U j).nr)) from
    ⟨(hs.cell hbg hgl).trans (hU j hj 0 (by omega)), (hs.cell hbg hgl).trans (hU j hj 1 (by omega)), (hs.cell hbg hgl).trans (hU j hj 2 (by omega)), (hs.cell hbg hgl).trans (hU j hj 3 (by omega)), (hs.cell hbg hgl).trans (hU j hj 4 (by omega)), (hs.cell hbg hgl).trans (hU j hj 5 (by omega)), (hs.cell hbg hgl).trans (hU j hj 6 (by omega)), (hs.cell hbg hgl).trans (hU j hj 7 (by omega)), (hs.cell hbg hgl).trans (hU j hj 8 (by omega)), (hs.cell hbg hgl).trans (hU j hj 9 (by omega)), (hs.cell hbg hgl).trans (hU j hj 10 (by omega))⟩)
  have HM := Lib.hid (fun (w' : World) (hs : Stay b w w') (htt : TapeOK b w') (j : Nat) (hj : j < m) => show Calls Tryz.prog 54 #[.pointer (some ⟨b, 0, none⟩), .agg #[.int .i64 (U j).op, .slice (U j).a1 (U j).n1 (U j).c1, .slice (U j).a2 (U j).n2 (U j).c2, .int .i64 (U j).mn, .int .i64 (U j).mx]] w' (MbPost b 18 w') from
    member_any b 4 18 (U j).pat w' ((hP j hj).later hs) (by omega) htt)
  clear hU hP
  go_enter Tryz.func28, Tryz.ntmps28
  go_wp2_with fail
  go_loopw [7, 8] (fun v i wr => ∃ (k : Nat) (o : List UInt8), k ≤ n ∧ i = .int .i64 (k : Int) ∧ OB 5 w.heap.size v o wr ∧ o.length ≤ k * 30 ∧ TapeOK b wr ∧ Fr b w wr) (fun _ i _ => n - (intOf i).toNat)
  case atStart => exact ⟨0, [], by omega, rfl, OB.nil_ _ _ _, by simp, ht, Fr.refl _ _⟩
  case round =>
    obtain ⟨k, o, hk, rfl, hown, ho, htr, hfr⟩ := hrel
    by_cases hlt : k < n
    · have hd : decide ((k : Int) < (n : Int)) = true := decide_eq_true (by omega)
      have hdn : decide (k < n) = true := decide_eq_true hlt
      have H0 := Lib.hid (And.intro hown (And.intro ho htr))
      clear hown ho htr
      go_upto_region 5 with fail
      go_cut [19] from 18 to 68 (fun v wx => ∃ r : Int, v = .int .i64 r ∧ 0 ≤ r ∧ r < 6 ∧ TapeOK b wx ∧ Fr b wr wx)
      case first =>
        go_wp2_with fail
        refine (next_any b _ _ (by omega) (by omega) H0.out.2.2).mono ?_
        rintro e w1 ⟨r, rfl, hr0, hr1, ht1, hf1⟩
        go_wp2_with fail
        go_meet
        exact ⟨r, rfl, hr0, hr1, ht1, hf1⟩
      case rest =>
        obtain ⟨r, rfl, hr0, hr1, ht1, hf1⟩ := hcut
        obtain ⟨hown, ho, -⟩ := H0.out
        have hown1 := hown.fr hf1 hbs
        have hf1' := hfr.trans hf1
        have hzA := hf1'.size
        obtain ⟨W1, hW1⟩ : ∃ W1 : World, W1 = wc := ⟨_, rfl⟩
        rw [← hW1] at ht1 hf1 hown1 hf1' hzA ⊢
        clear hW1 hown hf1 hfr
        apply_assumption
        go_cut [7] from 18 to 68 (fun v wx => ∃ (o : List UInt8), OB 5 w.heap.size v o wx ∧ o.length ≤ k * 30 + 26 ∧ TapeOK b wx ∧ Fr b w wx)
        case first =>
          have hr : r = 0 ∨ r = 1 ∨ 2 ≤ r := by omega
          rcases hr with rfl | rfl | hr2
          · go_wp2_with fail
            refine (next_any b _ _ (by omega) (by omega) ht1).mono ?_
            rintro e w2 ⟨q, rfl, hq0, hq1, ht2, hf2⟩
            obtain ⟨qn, rfl⟩ : ∃ qn : Nat, q = (qn : Int) := ⟨q.toNat, by omega⟩
            go_wp2_with fail
            refine (bytes_any b qn _ (by omega) ht2).mono ?_
            rintro e w3 ⟨v3, l3, rfl, hl3, hv3, ht3, hf3⟩
            have hown3 := (hown1.fr hf2 hbs).fr hf3 hbs
            have hf23 := (hf1'.trans hf2).trans hf3
            have hz3 := hf23.size
            go_wp2_with (at_builtin; refine app_OB Tryz.underlying23 hi hz0 hz1 hz2 _ _ _ _ _ _ _ _ rfl rfl rfl rfl hown3 hv3 (by omega) hz3 ?_; intro v4 w4 hown4 hb4)
            go_meet
            exact ⟨_, hown4, by rw [List.length_append]; omega, ht3.below' hb4 hbs, hf23.then hb4⟩
          · go_wp2_with fail
            refine (next_any b _ _ (by omega) (by omega) (ht1.below ((Below.refl _ _).alloc (Nat.le_refl _) _))).mono ?_
            rintro e w2 ⟨q, rfl, hq0, hq1, ht2, hf2⟩
            obtain ⟨t, htl, htc⟩ := word_cell W1 9 q.toNat (by omega)
            have hfA : Fr b W1 w2 := (Fr.of_below ((Below.refl _ _).alloc (Nat.le_refl _) _)).trans hf2
            have htc2 := (World.cell?_of_block (a := ⟨W1.heap.size, q.toNat, none⟩) (hf2.block W1.heap.size (by simp) (by intro e; injection e; omega))).trans htc
            have hown2 := hown1.fr hfA hbs
            have hfB := hf1'.trans hfA
            have hzB := hfB.size
            have hq7 : q.toNat < 7 := by omega
            go_wp2_with (at_builtin; refine app_text Tryz.underlying23 Tryz.underlying9 hi hz0 hz1 hz2 _ _ _ _ t _ rfl rfl rfl rfl hown2 (by omega) hzB ?_; intro v4 w4 hown4 hb4)
            go_meet
            exact ⟨_, hown4, by rw [List.length_append, size_list]; omega, ht2.below' hb4 hbs, hfB.then hb4⟩
          · have hb0 : (r == 0) = false := by simpa using (show ¬ r = 0 by omega)
            have hb1 : (r == 1) = false := by simpa using (show ¬ r = 1 by omega)
            have hd0 : decide (r = 0) = false := decide_eq_false (by omega)
            have hd1 : decide (r = 1) = false := decide_eq_false (by omega)
            go_wp2_with fail
            refine (next_any b _ _ (by omega) (by omega) ht1).mono ?_
            rintro e w2 ⟨q, rfl, hq0, hq1, ht2, hf2⟩
            have hqm : q.toNat < m := by omega
            have hf12 := hf1'.trans hf2
            obtain ⟨q0, q1, q2, q3, q4, q5, q6, q7, q8, q9, q10⟩ := HU.out w2 (Stay.of_fr hf12) q.toNat hqm
            have hzB := hf12.size
            have hownB := hown1.fr hf2 hbs
            go_upto_region 7 with fail
            obtain ⟨WK, hWK⟩ : ∃ WK, w2.alloc (Obj.cells #[.string (U q.toNat).nm, .int .i64 (U q.toNat).op, .slice (U q.toNat).a1 (U q.toNat).n1 (U q.toNat).c1, .slice (U q.toNat).a2 (U q.toNat).n2 (U q.toNat).c2, .int .i64 (U q.toNat).mn, .int .i64 (U q.toNat).mx, .bool (U q.toNat).wh, .int .i64 (U q.toNat).ck, .int .i64 (U q.toNat).en, .slice (U q.toNat).a3 (U q.toNat).n3 (U q.toNat).c3, .int .i64 (U q.toNat).nr] 64) = WK := ⟨_, rfl⟩
            rw [hWK]
            have hbk : Below w2.heap.size w2 WK := by rw [← hWK]; exact (Below.refl _ _).alloc (Nat.le_refl _) _
            have hzk : WK.heap.size = w2.heap.size + 1 := by rw [← hWK]; simp
            have k1 : WK.cell? ⟨w2.heap.size, 1, none⟩ = some (.int .i64 (U q.toNat).op) := by rw [← hWK, World.cell?_alloc_mark]; rfl
            have k2 : WK.cell? ⟨w2.heap.size, 2, none⟩ = some (.slice (U q.toNat).a1 (U q.toNat).n1 (U q.toNat).c1) := by rw [← hWK, World.cell?_alloc_mark]; rfl
            have k3 : WK.cell? ⟨w2.heap.size, 3, none⟩ = some (.slice (U q.toNat).a2 (U q.toNat).n2 (U q.toNat).c2) := by rw [← hWK, World.cell?_alloc_mark]; rfl
            have k4 : WK.cell? ⟨w2.heap.size, 4, none⟩ = some (.int .i64 (U q.toNat).mn) := by rw [← hWK, World.cell?_alloc_mark]; rfl
            have k5 : WK.cell? ⟨w2.heap.size, 5, none⟩ = some (.int .i64 (U q.toNat).mx) := by rw [← hWK, World.cell?_alloc_mark]; rfl
            have k7 : WK.cell? ⟨w2.heap.size, 7, none⟩ = some (.int .i64 (U q.toNat).ck) := by rw [← hWK, World.cell?_alloc_mark]; rfl
            have htk := ht2.below hbk
            have hfk := hf12.then (hbk.mono hf12.size)
            have hownK := hownB.fr (Fr.of_below (b := b) hbk) hbs
            clear hWK q0 q1 q2 q3 q4 q5 q6 q7 q8 q9 q10
            have MB := Lib.hid (HM.out WK (Stay.of_fr hfk) htk q.toNat hqm)
            generalize (U q.toNat).op = uop at *
            generalize (U q.toNat).ck = uck at *
            generalize (U q.toNat).a1 = ua1 at *
            generalize (U q.toNat).n1 = un1 at *
            generalize (U q.toNat).c1 = uc1 at *
            generalize (U q.toNat).a2 = ua2 at *
            generalize (U q.toNat).n2 = un2 at *
            generalize (U q.toNat).c2 = uc2 at *
            generalize (U q.toNat).mn = umn at *
            generalize (U q.toNat).mx = umx at *
            clear HM HU
            have K7 := Lib.hid k7
            clear k7
            go_wp2_with fail
            refine MB.out.mono ?_
            rintro e w3 ⟨v3, l3, rfl, hl3, hv3, ht3, hf3⟩
            have k7' : w3.cell? ⟨w2.heap.size, 7, none⟩ = some (.int .i64 uck) := (World.cell?_of_block (a := ⟨w2.heap.size, 7, none⟩) (hf3.block w2.heap.size (by omega) (by intro e; injection e; omega))).trans K7.out
            have hf3' := hfk.trans hf3
            have hown3 := hownK.fr hf3 hbs
            obtain ⟨A3, n3, c3, rfl⟩ := hv3.slice
            have hcv := hv3.conv (P := Tryz.prog) (T := 23) (d := 9) Tryz.underlying23 Tryz.underlying5 Tryz.underlying9
            clear k1 k2 k3 k4 k5 MB
            go_wp2_with fail
            refine (complete_ref uck (bs l3) w3 (by rw [size_bs]; omega)).mono ?_
            rintro e w4 ⟨rfl, hb4⟩
            rw [bl_bs]
            have hclen := cmpQ_len uck l3
            generalize hcq : cmpQ uck l3 = cq at hclen ⊢
            obtain ⟨x, y⟩ := cq
            clear hcq hcv k7'
            dsimp only at hclen ⊢
            have hb4' : Fr b w3 w4 := Fr.of_below hb4
            have hf4 := hf3'.trans hb4'
            have hown4 := hown3.fr hb4' hbs
            have hv4 := hv3.below hb4
            have ht4 := ht3.below hb4
            have hzC := hf4.size
            by_cases hy : y = 0
            · subst hy
              go_wp2_with fail
              refine (next_any b _ _ (by omega) (by omega) ht4).mono ?_
              rintro e w5 ⟨z, rfl, hz0', hz1', ht5, hf5⟩
              have hf5' := hf4.trans hf5
              have hown5 := hown4.fr hf5 hbs
              have hzD := hf5'.size
              by_cases hzz : z = 0
              · subst hzz
                have hcv := fun w => Lib.run_convert_string_bytes (P := Tryz.prog) w 9 23 5 (bs x) Tryz.underlying9 Tryz.underlying23 Tryz.underlying5
                obtain ⟨W6, C6, B6, hW6, hC6, hB6, hrb, hbb6, hsz6⟩ := RB.names w5 5 (bs x)
                go_upto_region 11 with fail
                rw [← hW6, ← hC6, ← hB6]
                have hb6 : Below w5.heap.size w5 W6 := hB6 ▸ hbb6
                have hf6 := hf5'.then (hb6.mono hf5'.size)
                have hown6 := hown5.fr (Fr.of_below (b := b) hb6) hbs
                have ht6 := ht5.below hb6
                have hzE := hf6.size
                rw [bl_bs] at hrb
                have hsx : (bs x).size = x.length := size_bs _
                clear hcv hW6 hC6
                go_wp2_with (at_builtin; refine app_RB Tryz.underlying23 hi hz0 hz1 hz2 _ _ _ _ _ B6 _ _ _ rfl rfl rfl rfl hsx hown6 hrb (by omega) hzE ?_; intro v7 w7 hown7 hb7)
                go_meet
                exact ⟨_, hown7, by rw [List.length_append]; omega, ht6.below' hb7 hbs, hf6.then hb7⟩
              · have hzb : (z == 0) = false := by simpa using hzz
                have hzd : decide (z = 0) = false := decide_eq_false hzz
                have hv5 := hv4.fr hf5 (by omega)
                go_wp2_with (at_builtin; refine app_OB Tryz.underlying23 hi hz0 hz1 hz2 _ _ _ _ _ _ _ _ rfl rfl rfl rfl hown5 hv5 (by omega) hzD ?_; intro v7 w7 hown7 hb7)
                go_meet
                exact ⟨_, hown7, by rw [List.length_append]; omega, ht5.below' hb7 hbs, hf5'.then hb7⟩
            · have hyb : (y == 0) = false := by simpa using hy
              have hyd : decide (y = 0) = false := decide_eq_false hy
              go_wp2_with (at_builtin; refine app_OB Tryz.underlying23 hi hz0 hz1 hz2 _ _ _ _ _ _ _ _ rfl rfl rfl rfl hown4 hv4 (by omega) hzC ?_; intro v7 w7 hown7 hb7)
              go_meet
              exact ⟨_, hown7, by rw [List.length_append]; omega, ht4.below' hb7 hbs, hf4.then hb7⟩
        case rest =>
          obtain ⟨o1, hown2, ho1, ht2, hf2⟩ := hcut
          have hz2w := hf2.size
          apply_assumption
          go_wp2_with fail
          refine (next_any b _ _ (by omega) (by omega) ht2).mono ?_
          rintro e w3 ⟨q, rfl, hq0, hq1, ht3, hf3⟩
          have hown3 := hown2.fr hf3 hbs
          have hf4 := hf2.trans hf3
          by_cases hq : 0 < q
          · have hdq : decide (0 < q) = true := decide_eq_true hq
            go_wp2_with fail
            refine (next_any b _ _ (by omega) (by omega) ht3).mono ?_
            rintro e w4 ⟨p, rfl, hp0, hp1, ht4, hf5⟩
            have hown4 := hown3.fr hf5 hbs
            have hf6 := hf4.trans hf5
            have hz6 := hf6.size
            obtain ⟨u, c, -, hcu, hc0, hc1, hix⟩ := idx_str Tryz.underlying9 ⟨#[32, 10, 61, 58]⟩ p.toNat (show p.toNat < 4 by omega) .i64 p (by omega)
            go_wp2_with (at_builtin; refine app_u8 Tryz.underlying23 hi hz0 hz1 hz2 _ _ _ _ _ u _ rfl rfl rfl rfl hown4 hcu.out (by omega) hz6 ?_; intro v1 w5 hown5 hb5 _ _)
            go_roundw
            case rel => exact ⟨k + 1, _, by omega, by go_num, hown5, by rw [List.length_append]; simp; omega, ht4.below' hb5 hbs, hf6.then hb5⟩
            case measure => simp [intOf]; omega
          · have hdq : decide (0 < q) = false := decide_eq_false hq
            go_wp2_with fail
            go_roundw
            case rel => exact ⟨k + 1, o1, by omega, by go_num, hown3, by omega, ht3, hf4⟩
            case measure => simp [intOf]; omega
    · obtain rfl : k = n := by omega
      have hd : decide ((k : Int) < (k : Int)) = false := decide_eq_false (by omega)
      have hdn : decide (k < k) = false := decide_eq_false (by omega)
      go_wp2_with fail
      go_ret
      exact ⟨_, o, rfl, ho, hown, htr, hfr⟩
end Go.Proofs.YtklnakjmiljmhaaGreatDoor
namespace Go.Proofs.YtklnakjmiljmhaaGreatDoor
set_option linter.unusedVariables false
set_option linter.unusedSimpArgs false
set_option maxRecDepth 100000
open Go.RowKit
def annB : ByteArray := ⟨#[97, 110, 110]⟩
def bobB : ByteArray := ⟨#[98, 111, 98]⟩
def nmF (j : Nat) : ByteArray := if j = 0 then annB else bobB
theorem nm_new (w : World) (e : TypeId) : ∀ j, j < 2 → (w.alloc (.cells #[.string ⟨#[97, 110, 110]⟩, .string ⟨#[98, 111, 98]⟩] e)).cell? ⟨w.heap.size, j, none⟩ = some (.string (nmF j))
  | 0, _ => by rw [World.cell?_alloc_mark]; rfl
  | 1, _ => by rw [World.cell?_alloc_mark]; rfl
/-- The row of the names, behind a call. -/
theorem fr_names {b : Nat} {w w' : World} {e : TypeId} : Fr b (w.alloc (.cells #[.string ⟨#[97, 110, 110]⟩, .string ⟨#[98, 111, 98]⟩] e)) w' ↔ (Fr b (w.alloc (.cells #[.string ⟨#[97, 110, 110]⟩, .string ⟨#[98, 111, 98]⟩] e)) w' ∧ (b < w.heap.size → ∀ j, j < 2 → w'.cell? ⟨w.heap.size, j, none⟩ = some (.string (nmF j)))) :=
  ⟨fun hf => ⟨hf, fun hb j hj => (World.cell?_of_block (a := ⟨w.heap.size, j, none⟩) (hf.block w.heap.size (by simp) (by intro e; injection e; omega))).trans (nm_new w e j hj)⟩, fun h => h.1⟩
theorem fr_names2 {b : Nat} {w w' : World} {e e2 : TypeId} {cs : Array Value} : Fr b ((w.alloc (.cells #[.string ⟨#[97, 110, 110]⟩, .string ⟨#[98, 111, 98]⟩] e)).alloc (.cells cs e2)) w' ↔ (Fr b ((w.alloc (.cells #[.string ⟨#[97, 110, 110]⟩, .string ⟨#[98, 111, 98]⟩] e)).alloc (.cells cs e2)) w' ∧ (b < w.heap.size → ∀ j, j < 2 → w'.cell? ⟨w.heap.size, j, none⟩ = some (.string (nmF j)))) :=
  ⟨fun hf => ⟨hf, fun hb j hj => (World.cell?_of_block (a := ⟨w.heap.size, j, none⟩) ((hf.block w.heap.size (by simp; omega) (by intro e; injection e; omega)).trans (Below.heap_alloc _ _ _ (by simp)))).trans (nm_new w e j hj)⟩, fun h => h.1⟩
theorem names_step {b K : Nat} {w w' : World} (h : ∀ j, j < 2 → w.cell? ⟨K, j, none⟩ = some (.string (nmF j))) (hf : Fr b w w') (hK : K < w.heap.size) (hb : b < K) : ∀ j, j < 2 → w'.cell? ⟨K, j, none⟩ = some (.string (nmF j)) :=
  fun j hj => (World.cell?_of_block (a := ⟨K, j, none⟩) (hf.block K hK (by intro e; injection e; omega))).trans (h j hj)
theorem nm_lit : ∀ j, j < 2 → (#[Value.string ⟨#[97, 110, 110]⟩, Value.string ⟨#[98, 111, 98]⟩] : Array Value)[j]? = some (.string (nmF j))
  | 0, _ => rfl
  | 1, _ => rfl
theorem who_nm (j : Nat) : whoOK (bl (nmF j)) = true := by
  unfold nmF
  by_cases h : j = 0
  · rw [if_pos h]; decide
  · rw [if_neg h]; decide
end Go.Proofs.YtklnakjmiljmhaaGreatDoor
namespace Go.Proofs.YtklnakjmiljmhaaGreatDoor
set_option linter.unusedVariables false
set_option linter.unusedSimpArgs false
set_option maxRecDepth 100000
open Go.RowKit
theorem Pat.form {b : Nat} {w : World} : ∀ {d m : Nat} {vs : List Value}, Pat b w d m vs → ∃ u : KC, vs = u.pat
  | 0, _, _, h => h.elim
  | d + 1, m, vs, ⟨v1, v2, mn, mx, ⟨⟨A, a1, a2, e1⟩, ⟨B, b1, b2, e2⟩⟩, h⟩ => by
    subst e1 e2
    have : ∃ o : Int, vs = [.int .i64 o, .slice A a1 a2, .slice B b1 b2, .int .i64 mn, .int .i64 mx] := by
      rcases h with ⟨h1, -⟩ | ⟨h1, -⟩ | ⟨h1, -⟩ | ⟨h1, -⟩ <;> exact ⟨_, h1⟩
    obtain ⟨o, rfl⟩ := this
    exact ⟨⟨ByteArray.empty, o, A, a1, a2, B, b1, b2, mn, mx, false, 0, 0, none, 0, 0, 0⟩, rfl⟩
theorem KdV.kcs {b : Nat} {w : World} {n d m c g : Nat} (h : KdV b w (Pat b w d m) n (.slice (some ⟨g, 0, none⟩) n c)) : ∃ V : Nat → KC, b < g ∧ g < w.heap.size ∧
    (∀ j, j < n → w.cell? ⟨g, j * 5, none⟩ = some (.int .i64 (V j).op)) ∧ (∀ j, j < n → w.cell? ⟨g, j * 5 + 1, none⟩ = some (.slice (V j).a1 (V j).n1 (V j).c1)) ∧ (∀ j, j < n → w.cell? ⟨g, j * 5 + 2, none⟩ = some (.slice (V j).a2 (V j).n2 (V j).c2)) ∧ (∀ j, j < n → w.cell? ⟨g, j * 5 + 3, none⟩ = some (.int .i64 (V j).mn)) ∧ (∀ j, j < n → w.cell? ⟨g, j * 5 + 4, none⟩ = some (.int .i64 (V j).mx)) ∧
    (∀ j, j < n → Pat b w d m (V j).pat) := by
  obtain ⟨g', f, c', hv, h1, h2, h3, h5⟩ := h
  injection hv with e1 e2 e3
  injection e1 with e1
  injection e1 with e1 e4
  subst e1 e4
  have h6 : ∀ j, ∃ u : KC, j < n → (w.cell? ⟨g, j * 5, none⟩ = some (.int .i64 u.op) ∧ w.cell? ⟨g, j * 5 + 1, none⟩ = some (.slice u.a1 u.n1 u.c1) ∧ w.cell? ⟨g, j * 5 + 2, none⟩ = some (.slice u.a2 u.n2 u.c2) ∧ w.cell? ⟨g, j * 5 + 3, none⟩ = some (.int .i64 u.mn) ∧ w.cell? ⟨g, j * 5 + 4, none⟩ = some (.int .i64 u.mx) ∧ Pat b w d m u.pat) := by
    intro j
    by_cases hj : j < n
    · obtain ⟨u0, u1, u2, u3, u4, q0, q1, q2, q3, q4, hp⟩ := h5 j hj
      obtain ⟨u, hu⟩ := hp.form
      rw [hu] at hp
      simp only [KC.pat, List.cons.injEq, and_true] at hu
      obtain ⟨rfl, rfl, rfl, rfl, rfl⟩ := hu
      rw [Nat.zero_add] at q0 q1 q2 q3 q4
      exact ⟨u, fun _ => ⟨q0, q1, q2, q3, q4, hp⟩⟩
    · exact ⟨⟨ByteArray.empty, 0, none, 0, 0, none, 0, 0, 0, 0, false, 0, 0, none, 0, 0, 0⟩, fun h => absurd h hj⟩
  obtain ⟨V, hV⟩ := Classical.axiomOfChoice h6
  exact ⟨V, h1, h2, fun j hj => (hV j hj).1, fun j hj => (hV j hj).2.1, fun j hj => (hV j hj).2.2.1, fun j hj => (hV j hj).2.2.2.1, fun j hj => (hV j hj).2.2.2.2.1, fun j hj => (hV j hj).2.2.2.2.2⟩
/-- A row of the block K that is left alone gives its cells. -/
theorem krow {w : World} {K : Nat} {e : TypeId} (h : w.heap[K]? = some (.cells #[.string ByteArray.empty, .int .i64 0, .slice none 0 0, .slice none 0 0, .int .i64 0, .int .i64 0, .bool false, .int .i64 0, .int .i64 0, .slice none 0 0, .int .i64 0] e (0, 0))) :
    (w.cell? ⟨K, 0, none⟩ = some (.string ByteArray.empty) ∧ w.cell? ⟨K, 1, none⟩ = some (.int .i64 0) ∧ w.cell? ⟨K, 2, none⟩ = some (.slice none 0 0) ∧ w.cell? ⟨K, 3, none⟩ = some (.slice none 0 0) ∧ w.cell? ⟨K, 4, none⟩ = some (.int .i64 0) ∧ w.cell? ⟨K, 5, none⟩ = some (.int .i64 0) ∧ w.cell? ⟨K, 6, none⟩ = some (.bool false) ∧ w.cell? ⟨K, 7, none⟩ = some (.int .i64 0) ∧ w.cell? ⟨K, 8, none⟩ = some (.int .i64 0) ∧ w.cell? ⟨K, 9, none⟩ = some (.slice none 0 0) ∧ w.cell? ⟨K, 10, none⟩ = some (.int .i64 0)) ∧ ∀ j, w.frozen? ⟨K, j, none⟩ = false := by
  refine ⟨⟨?_, ?_, ?_, ?_, ?_, ?_, ?_, ?_, ?_, ?_, ?_⟩, fun j => by simp [World.frozen?, h]⟩ <;> (rw [cell_of_row _ _ _ _ _ _ h]; rfl)
def ZK (e : TypeId) : Obj := .cells #[.string ByteArray.empty, .int .i64 0, .slice none 0 0, .slice none 0 0, .int .i64 0, .int .i64 0, .bool false, .int .i64 0, .int .i64 0, .slice none 0 0, .int .i64 0] e (0, 0)
theorem KR.step {b K : Nat} {w w' : World} {o : Obj} (h : w.heap[K]? = some o) (hf : Fr b w w') (hb : b < K) : w'.heap[K]? = some o :=
  (hf.block K (Array.getElem?_eq_some_iff.1 h).1 (by intro e; injection e; omega)).trans h
theorem fr_mark {b : Nat} {w w' : World} {cs : Array Value} {e : TypeId} : Fr b (w.alloc (.cells cs e)) w' ↔ (Fr b (w.alloc (.cells cs e)) w' ∧ (b < w.heap.size → w'.heap[w.heap.size]? = some (.cells cs e (0, 0)))) :=
  ⟨fun hf => ⟨hf, fun hb => KR.step (heap_alloc_new w _) hf hb⟩, fun h => h.1⟩
theorem info_kind : (Tryz.prog.info? 64).map (fun i => (i.zero, i.size, i.bytes)) = some (some (.agg #[.string ⟨#[]⟩, .int .i64 0, .slice none 0 0, .slice none 0 0, .int .i64 0, .int .i64 0, .bool false, .int .i64 0, .int .i64 0, .slice none 0 0, .int .i64 0]), 11, 144) := by kernel_rfl
/-- A kind is stored into a block. -/
theorem st11 {w : World} {K : Nat} {e : TypeId} {old : Array Value} (h : w.heap[K]? = some (.cells old e (0, 0))) (ho : old.size = 11) (wh : Bool) (nm : ByteArray) (op : Int) (a1 : Option Addr) (n1 c1 : Nat) (a2 : Option Addr) (n2 c2 : Nat) (mn mx : Int) (ck en : Int) (a3 : Option Addr) (n3 c3 : Nat) (nr : Int) :
    (storeCells ⟨K, 0, none⟩ [.string nm, .int .i64 op, .slice a1 n1 c1, .slice a2 n2 c2, .int .i64 mn, .int .i64 mx, .bool wh, .int .i64 ck, .int .i64 en, .slice a3 n3 c3, .int .i64 nr] 0).run Tryz.prog w = .ok () (w.setRow K (KC.cs ⟨nm, op, a1, n1, c1, a2, n2, c2, mn, mx, wh, ck, en, a3, n3, c3, nr⟩).toArray) :=
  run_storeCells_from K e (KC.cs ⟨nm, op, a1, n1, c1, a2, n2, c2, mn, mx, wh, ck, en, a3, n3, c3, nr⟩) 0 old w h (by rw [ho]; rfl) (encKC.one _)
theorem fr_row {b K : Nat} {cs : Array Value} {w w' : World} (h : Fr b w w') (hK : w.heap.size ≤ K) : Fr b w (w'.setRow K cs) :=
  ⟨h.os, h.tape, h.output, by rw [size_setRow]; exact h.size, fun k hk hne => (setRow_other _ _ _ _ (by omega)).trans (h.block k hk hne)⟩
theorem tape_row {b K : Nat} {cs : Array Value} {w : World} (h : TapeOK b w) (hK : b < K) : TapeOK b (w.setRow K cs) := h.keep fun k hk => setRow_other _ _ _ _ (by omega)
theorem KR.cells {w : World} {K : Nat} {e : TypeId} {u : KC} (h : w.heap[K]? = some (.cells u.cs.toArray e (0, 0))) :
    (w.cell? ⟨K, 0, none⟩ = some (.string u.nm) ∧ w.cell? ⟨K, 1, none⟩ = some (.int .i64 u.op) ∧ w.cell? ⟨K, 2, none⟩ = some (.slice u.a1 u.n1 u.c1) ∧ w.cell? ⟨K, 3, none⟩ = some (.slice u.a2 u.n2 u.c2) ∧ w.cell? ⟨K, 4, none⟩ = some (.int .i64 u.mn) ∧ w.cell? ⟨K, 5, none⟩ = some (.int .i64 u.mx) ∧ w.cell? ⟨K, 6, none⟩ = some (.bool u.wh) ∧ w.cell? ⟨K, 7, none⟩ = some (.int .i64 u.ck) ∧ w.cell? ⟨K, 8, none⟩ = some (.int .i64 u.en) ∧ w.cell? ⟨K, 9, none⟩ = some (.slice u.a3 u.n3 u.c3) ∧ w.cell? ⟨K, 10, none⟩ = some (.int .i64 u.nr)) ∧ ∀ j, w.frozen? ⟨K, j, none⟩ = false := by
  refine ⟨⟨?_, ?_, ?_, ?_, ?_, ?_, ?_, ?_, ?_, ?_, ?_⟩, fun j => by simp [World.frozen?, h]⟩ <;> (rw [cell_of_row _ _ _ _ _ _ h]; rfl)
theorem fr_set2 {b K j : Nat} {v : Value} {w w' : World} (h : Fr b w w') (hK : w.heap.size ≤ K) (hb : b < K) (ht : TapeOK b w') : Fr b w (w'.setCell ⟨K, j, none⟩ v) ∧ TapeOK b (w'.setCell ⟨K, j, none⟩ v) := ⟨fr_set h hK, tape_set ht hb⟩
set_option maxHeartbeats 8000000 in
theorem kinds_any (b : Nat) (w : World) (ht : TapeOK b w) :
    Calls Tryz.prog 10 #[.pointer (some ⟨b, 0, none⟩)] w fun e w' => ∃ v, e = .returned v ∧ KnV b w' v ∧ TapeOK b w' ∧ Fr b w w' := by
  have hbs := ht.lt
  have HT := Lib.hid ht; clear ht
  go_enter Tryz.func10, Tryz.ntmps10
  go_wp2_with fail
  refine (shapes_any b w hbs).mono ?_
  rintro e w1 ⟨g, rfl, hkd, hb1⟩
  have ht1 := HT.out.below hb1
  have hf1 : Fr b w w1 := Fr.of_below hb1
  obtain ⟨V, hbg, hgl, k0, k1, k2, k3, k4, kP⟩ := hkd.kcs
  have HK := Lib.hid (fun (w' : World) (hs : Stay b w1 w') => show ((∀ j, j < 6 → w'.cell? ⟨g, j * 5, none⟩ = some (.int .i64 (V j).op)) ∧ (∀ j, j < 6 → w'.cell? ⟨g, j * 5 + 1, none⟩ = some (.slice (V j).a1 (V j).n1 (V j).c1)) ∧ (∀ j, j < 6 → w'.cell? ⟨g, j * 5 + 2, none⟩ = some (.slice (V j).a2 (V j).n2 (V j).c2)) ∧ (∀ j, j < 6 → w'.cell? ⟨g, j * 5 + 3, none⟩ = some (.int .i64 (V j).mn)) ∧ (∀ j, j < 6 → w'.cell? ⟨g, j * 5 + 4, none⟩ = some (.int .i64 (V j).mx))) from
    ⟨fun j hj => (hs.cell hbg hgl).trans (k0 j hj), fun j hj => (hs.cell hbg hgl).trans (k1 j hj), fun j hj => (hs.cell hbg hgl).trans (k2 j hj), fun j hj => (hs.cell hbg hgl).trans (k3 j hj), fun j hj => (hs.cell hbg hgl).trans (k4 j hj)⟩)
  have HP := Lib.hid (fun (w' : World) (hs : Stay b w1 w') (j : Nat) (hj : j < 6) => (kP j hj).later hs)
  have BT := Lib.hid (between_any b 1 3 w1 (by omega) (by omega) (by omega) (by omega) ht1)
  clear hkd k0 k1 k2 k3 k4 kP ht1
  go_wp2_with fail
  refine BT.out.mono ?_
  rintro e w2 ⟨r, rfl, hr0, hr1, ht2, hf2⟩
  obtain ⟨rn, hrn⟩ : ∃ rn : Nat, r = (rn : Int) := ⟨r.toNat, by omega⟩
  subst hrn
  have hfw2 := hf1.trans hf2
  have H2 := Lib.hid (And.intro ht2 (And.intro hf2 hfw2))
  clear BT ht2 hf1 hf2 hb1 hfw2
  go_wp2_with fail
  go_loopw [3, 5] (fun v i wr => ∃ (k : Nat) (o : List KC), k ≤ rn ∧ i = .int .i64 (k : Int) ∧ k + o.length = rn ∧ OR 64 11 KC.cs w2.heap.size v o wr ∧ (∀ u ∈ o, ∃ j, j < 6 ∧ u.pat = (V j).pat) ∧ TapeOK b wr ∧ Fr b w2 wr) (fun _ i _ => (intOf i).toNat)
  case atStart => exact ⟨rn, [], Nat.le_refl _, rfl, by simp, OR.nil_ _ _ _, by simp, H2.out.1, Fr.refl _ _⟩
  case round =>
    obtain ⟨k, o, hk, rfl, hko, hown, hpo, htr, hfr⟩ := hrel
    by_cases hlt : 0 < k
    · have hd : decide ((0 : Int) < (k : Int)) = true := decide_eq_true (by omega)
      have hdn : decide (0 < k) = true := decide_eq_true hlt
      obtain ⟨A, c0, rfl, hle, hcl⟩ := hown.cells encKC
      clear hcl
      have H0 := Lib.hid (And.intro hown (And.intro hpo (And.intro htr hfr)))
      have hfw1 : Fr b w1 wr := H2.out.2.1.trans hfr
      have HKP := Lib.hid (fun w' (hf : Fr b wr w') (ht : TapeOK b w') => show (TapeOK b w' ∧ ((∀ j, j < 6 → w'.cell? ⟨g, j * 5, none⟩ = some (.int .i64 (V j).op)) ∧ (∀ j, j < 6 → w'.cell? ⟨g, j * 5 + 1, none⟩ = some (.slice (V j).a1 (V j).n1 (V j).c1)) ∧ (∀ j, j < 6 → w'.cell? ⟨g, j * 5 + 2, none⟩ = some (.slice (V j).a2 (V j).n2 (V j).c2)) ∧ (∀ j, j < 6 → w'.cell? ⟨g, j * 5 + 3, none⟩ = some (.int .i64 (V j).mn)) ∧ (∀ j, j < 6 → w'.cell? ⟨g, j * 5 + 4, none⟩ = some (.int .i64 (V j).mx)))) from
        ⟨ht, HK.out w' (Stay.of_fr (hfw1.trans hf))⟩)
      have hol : o.length ≤ 3 := by omega
      have NU := Lib.hid (fun w' => number_ref 0 o.length w' (by omega) (by omega) (by omega))
      have HNM : Hid (∃ nmS : ByteArray, bs (Lib.decDigits o.length) = nmS ∧ (4 + nmS.size ≤ 9223372036854775807)) := ⟨_, rfl, by rw [size_bs]; have := dec_len2 o.length 0 (by omega); omega⟩
      have HWR := Lib.hid hfw1
      have hgr : g < wr.heap.size := Nat.lt_of_lt_of_le hgl hfw1.size
      have hf0 : Hid (Fr b wr wr.drew) := (Fr.refl _ _).drew
      have ht0 : Hid (TapeOK b wr.drew) := htr.below (Below.refl _ _).drew
      have hz0 : g ≠ wr.heap.size := by omega
      have hbr : b < wr.heap.size := by omega
      have hz0' : ¬ wr.heap.size = g := by omega
      clear hown hpo htr hfr hfw1
      go_upto_region 6 with fail
      go_cut [6] from 14 to 62 (fun p wx => ∃ (K : Nat) (u : KC), p = .pointer (some ⟨K, 0, none⟩) ∧ wr.heap.size ≤ K ∧ wx.heap[K]? = some (.cells u.cs.toArray 64 (0, 0)) ∧ (∃ j, j < 6 ∧ u.pat = (V j).pat) ∧ TapeOK b wx ∧ Fr b wr wx)
      case first =>
        go_region_held3 (fun w' => TapeOK b w' ∧ ((∀ j, j < 6 → w'.cell? ⟨g, j * 5, none⟩ = some (.int .i64 (V j).op)) ∧ (∀ j, j < 6 → w'.cell? ⟨g, j * 5 + 1, none⟩ = some (.slice (V j).a1 (V j).n1 (V j).c1)) ∧ (∀ j, j < 6 → w'.cell? ⟨g, j * 5 + 2, none⟩ = some (.slice (V j).a2 (V j).n2 (V j).c2)) ∧ (∀ j, j < 6 → w'.cell? ⟨g, j * 5 + 3, none⟩ = some (.int .i64 (V j).mn)) ∧ (∀ j, j < 6 → w'.cell? ⟨g, j * 5 + 4, none⟩ = some (.int .i64 (V j).mx))))
          (first | exact HKP.out _ hfB.out htB.out | exact HKP.out _ (fr_row hfB.out (by first | omega | exact Nat.le_refl _)) (tape_row htB.out (Nat.lt_of_lt_of_le hbr (by first | omega | exact Nat.le_refl _))) | exact HKP.out _ (hfB.out.then ((Below.refl _ _).alloc hfB.out.size _)) (htB.out.below ((Below.refl _ _).alloc (Nat.le_refl _) _)) | exact HKP.out _ hfA.out htA.out | exact HKP.out _ (hfA.out.then ((Below.refl _ _).alloc hfA.out.size _)) (htA.out.below ((Below.refl _ _).alloc (Nat.le_refl _) _)) | exact HKP.out _ hfN.out htN.out | exact HKP.out _ (hfN.out.then ((Below.refl _ _).alloc hfN.out.size _)) (htN.out.below ((Below.refl _ _).alloc (Nat.le_refl _) _)) | exact HKP.out _ hf0.out ht0.out | exact HKP.out _ (hf0.out.then ((Below.refl _ _).alloc hf0.out.size _)) (ht0.out.below ((Below.refl _ _).alloc (Nat.le_refl _) _)))
          (first | (go_at_call 26; refine (NU.out _).mono ?_; rintro e w3 ⟨rfl, hbN⟩; obtain ⟨nmS, hnm⟩ := HNM.out; rw [hnm.1]; have hnm2 := hnm.2; have hadd := (fun w' : World => run_string_add_sum (P := Tryz.prog) w' ⟨#[107, 105, 110, 100]⟩ nmS hnm.2); clear hnm; (first | (have hfN : Hid (Fr b wr w3) := hf0.out.then (hbN.mono hf0.out.size); have htN : Hid (TapeOK b w3) := ht0.out.below hbN) | (have hfN : Hid (Fr b wr w3) := (hf0.out.then ((Below.refl _ _).alloc hf0.out.size _)).then (hbN.mono (by simp [World.drew, World.drewN])); have htN : Hid (TapeOK b w3) := (ht0.out.below ((Below.refl _ _).alloc (Nat.le_refl _) _)).below hbN; have KN := Lib.hid (KR.step (b := b) (heap_alloc_new wr.drew (ZK 64)) (Fr.of_below hbN) (by simp only [World.drew, World.drewN]; omega)))); have hsN : wr.heap.size ≤ w3.heap.size := hfN.out.size; have hzN2 : g < w3.heap.size := (by omega); have hzN : g ≠ w3.heap.size := (by omega); have hzN' : ¬ w3.heap.size = g := (by omega); clear hbN) | (have probe := htA; clear probe; go_at_call 23; refine (next_any b 2 _ (by omega) (by omega) (by first | exact htA.out | exact htA.out.below ((Below.refl _ _).alloc (Nat.le_refl _) _))).mono ?_; rintro e w5 ⟨z, rfl, z0, z1, htBX, hfBX⟩; obtain ⟨whv, hwh⟩ : ∃ x : Bool, (z == 1) = x := ⟨_, rfl⟩; (first | have hfB : Hid (Fr b wr w5) := hfA.out.trans hfBX | have hfB : Hid (Fr b wr w5) := (hfA.out.then ((Below.refl _ _).alloc hfA.out.size _)).trans hfBX); have htB := Lib.hid htBX; (first | (have prb := KA; clear prb; have KB := Lib.hid (KR.step KA.out hfBX (by first | omega | (simp only [World.drew, World.drewN]; omega))); have hst := st11 KB.out rfl whv; simp [go_sem] at hst) | (rw [fr_mark] at hfBX; have KB := Lib.hid (hfBX.2 (by omega)); replace hfBX := hfBX.1; have hst := st11 KB.out rfl whv; simp [go_sem] at hst) | skip); have hsB : wr.heap.size ≤ w5.heap.size := hfB.out.size; have hzB2 : g < w5.heap.size := (by omega); have hzB : g ≠ w5.heap.size := (by omega); have hzB' : ¬ w5.heap.size = g := (by omega); clear htBX hfBX htA hfA; have z2 : z.toNat < 2 := (by omega)) | (have probe := htN; clear probe; go_at_call 23; refine (next_any b 6 _ (by omega) (by omega) (by first | exact htN.out | exact htN.out.below ((Below.refl _ _).alloc (Nat.le_refl _) _))).mono ?_; rintro e w4 ⟨q, rfl, q0, q1, htAX, hfAX⟩; (first | have hfA : Hid (Fr b wr w4) := hfN.out.trans hfAX | have hfA : Hid (Fr b wr w4) := (hfN.out.then ((Below.refl _ _).alloc hfN.out.size _)).trans hfAX); have htA := Lib.hid htAX; (first | (have prb := KN; clear prb; have KA := Lib.hid (KR.step KN.out hfAX (by first | omega | (simp only [World.drew, World.drewN]; omega))); skip) | (rw [fr_mark] at hfAX; have KA := Lib.hid (hfAX.2 (by omega)); replace hfAX := hfAX.1) | skip); have hsA : wr.heap.size ≤ w4.heap.size := hfA.out.size; have hzA2 : g < w4.heap.size := (by omega); have hzA : g ≠ w4.heap.size := (by omega); have hzA' : ¬ w4.heap.size = g := (by omega); clear htAX hfAX htN hfN; have q2 : q.toNat < 6 := (by omega)))
        all_goals
          (try go_wp2_with fail)
          go_meet
          first
            | exact ⟨w5.heap.size, ⟨_, (V q.toNat).op, (V q.toNat).a1, (V q.toNat).n1, (V q.toNat).c1, (V q.toNat).a2, (V q.toNat).n2, (V q.toNat).c2, (V q.toNat).mn, (V q.toNat).mx, _, 0, 0, none, 0, 0, 0⟩, rfl, hfB.out.size, heap_alloc_new _ _, ⟨q.toNat, q2, rfl⟩, htB.out.below ((Below.refl _ _).alloc (Nat.le_refl _) _), hfB.out.then ((Below.refl _ _).alloc hfB.out.size _)⟩
            | exact ⟨_, ⟨_, (V q.toNat).op, (V q.toNat).a1, (V q.toNat).n1, (V q.toNat).c1, (V q.toNat).a2, (V q.toNat).n2, (V q.toNat).c2, (V q.toNat).mn, (V q.toNat).mx, _, 0, 0, none, 0, 0, 0⟩, rfl, (by first | omega | exact Nat.le_refl _), setRow_heap _ _ _ _ _ _ KB.out, ⟨q.toNat, q2, rfl⟩, tape_row htB.out (Nat.lt_of_lt_of_le hbr (by first | omega | exact Nat.le_refl _)), fr_row hfB.out (by first | omega | exact Nat.le_refl _)⟩
      case rest =>
        obtain ⟨K, u, rfl, hK, hrow, hpat, htx, hfx⟩ := hcut
        obtain ⟨W6, hW6⟩ : ∃ W6 : World, W6 = wc := ⟨_, rfl⟩
        rw [← hW6] at hrow htx hfx ⊢
        have HX := Lib.hid (And.intro hrow (And.intro hpat (And.intro htx hfx)))
        have hKs : K < W6.heap.size := (Array.getElem?_eq_some_iff.1 hrow).1
        clear hW6 hrow hpat htx hfx NU HNM hf0 ht0 HKP hz0 hz0'
        apply_assumption
        go_upto_region 7 with fail
        go_cut [30] from 29 to 62 (fun v wx => ∃ r : Int, v = .int .i64 r ∧ 0 ≤ r ∧ r < 8 ∧ TapeOK b wx ∧ Fr b W6 wx)
        case first =>
          go_wp2_with fail
          refine (next_any b _ _ (by omega) (by omega) HX.out.2.2.1).mono ?_
          rintro e w7 ⟨r, rfl, r0, r1, ht7, hf7⟩
          go_wp2_with fail
          go_meet
          exact ⟨r, rfl, r0, r1, ht7, hf7⟩
        case rest =>
          obtain ⟨r, rfl, r0, r1, ht7, hf7⟩ := hcut
          obtain ⟨W7, hW7⟩ : ∃ W7 : World, W7 = wc := ⟨_, rfl⟩
          rw [← hW7] at ht7 hf7 ⊢
          have hbK : b < K := by omega
          have hrow7 := KR.step HX.out.1 hf7 hbK
          have hpat7 := HX.out.2.1
          have hfx7 := HX.out.2.2.2.trans hf7
          have hK7 : K < W7.heap.size := Nat.lt_of_lt_of_le hKs hf7.size
          have hs7 := hfx7.size
          clear hW7 hf7
          apply_assumption
          go_cut [6] from 29 to 62 (fun p wx => p = .pointer (some ⟨K, 0, none⟩) ∧ ∃ u : KC, wx.heap[K]? = some (.cells u.cs.toArray 64 (0, 0)) ∧ (∃ j, j < 6 ∧ u.pat = (V j).pat) ∧ TapeOK b wx ∧ Fr b wr wx)
          case first =>
            have H7 := Lib.hid (And.intro hrow7 (And.intro hpat7 (And.intro hfx7 ht7)))
            clear hrow7 hpat7 hfx7 ht7
            have hr : r = 0 ∨ r = 1 ∨ r = 2 ∨ r = 3 ∨ r = 4 ∨ 5 ≤ r := by omega
            rcases hr with rfl | rfl | rfl | rfl | rfl | hr
            · obtain ⟨⟨-, -, -, -, -, -, -, c7, -⟩, hfz⟩ := KR.cells H7.out.1
              have f7 := hfz 7
              clear hfz
              go_wp2_with fail
              go_meet
              exact ⟨rfl, { u with ck := 1 }, set_row_at H7.out.1 7 _, H7.out.2.1, tape_set H7.out.2.2.2 hbK, fr_set H7.out.2.2.1 hK⟩
            · go_wp2_with fail
              refine (next_any b _ _ (by omega) (by omega) H7.out.2.2.2).mono ?_
              rintro e w8 ⟨z, rfl, z0, z1, ht8, hf8⟩
              have row8 := KR.step H7.out.1 hf8 hbK
              obtain ⟨⟨-, -, -, -, -, -, -, -, c8, -⟩, hfz⟩ := KR.cells row8
              have f8 := hfz 8
              have hw8 : IntKind.i64.wrap (z * 65536) = z * 65536 := IntWalk.i64_in _ (by omega)
              have R8 := Lib.hid (And.intro row8 (And.intro ht8 hf8))
              clear hfz row8 ht8 hf8
              go_wp2_with fail
              go_meet
              exact ⟨rfl, { u with en := z * 65536 }, set_row_at R8.out.1 8 _, H7.out.2.1, tape_set R8.out.2.1 hbK, fr_set (H7.out.2.2.1.trans R8.out.2.2) hK⟩
            · go_wp2_with fail
              refine (between_any b 3 8 _ (by omega) (by omega) (by omega) (by omega) (H7.out.2.2.2.below ((Below.refl _ _).alloc (Nat.le_refl _) _))).mono ?_
              rintro e w8 ⟨z, rfl, z0, z1, ht8, hf8'⟩
              have hf8 : Fr b W7 w8 := (Fr.of_below ((Below.refl _ _).alloc (Nat.le_refl _) _)).trans hf8'
              have row8 := KR.step H7.out.1 hf8 hbK
              obtain ⟨⟨-, -, -, -, -, -, -, -, -, c9, c10⟩, hfz⟩ := KR.cells row8
              have f9 := hfz 9
              have f10 := hfz 10
              have R8 := Lib.hid (And.intro row8 (And.intro ht8 hf8))
              clear hfz row8 ht8 hf8 hf8'
              go_wp2_with fail
              go_meet
              exact ⟨rfl, { u with a3 := some ⟨W7.heap.size, 0, none⟩, n3 := 1, c3 := 1, nr := z }, set_row_at (set_row_at R8.out.1 9 _) 10 _, H7.out.2.1, tape_set (tape_set R8.out.2.1 hbK) hbK, fr_set (fr_set (H7.out.2.2.1.trans R8.out.2.2) hK) hK⟩
            · go_wp2_with fail
              refine (next_any b _ _ (by omega) (by omega) (H7.out.2.2.2.below ((Below.refl _ _).alloc (Nat.le_refl _) _))).mono ?_
              rintro e w8 ⟨z, rfl, z0, z1, ht8, hf8'⟩
              have hf8 : Fr b W7 w8 := (Fr.of_below ((Below.refl _ _).alloc (Nat.le_refl _) _)).trans hf8'
              have row8 := KR.step H7.out.1 hf8 hbK
              obtain ⟨⟨-, -, -, -, -, -, -, -, -, c9, c10⟩, hfz⟩ := KR.cells row8
              have f9 := hfz 9
              have f10 := hfz 10
              have R8 := Lib.hid (And.intro row8 (And.intro ht8 hf8))
              clear hfz row8 ht8 hf8 hf8'
              go_wp2_with fail
              go_meet
              exact ⟨rfl, { u with a3 := some ⟨W7.heap.size, 0, none⟩, n3 := 2, c3 := 2, nr := z }, set_row_at (set_row_at R8.out.1 9 _) 10 _, H7.out.2.1, tape_set (tape_set R8.out.2.1 hbK) hbK, fr_set (fr_set (H7.out.2.2.1.trans R8.out.2.2) hK) hK⟩
            · go_wp2_with fail
              refine (between_any b 0 4 _ (by omega) (by omega) (by omega) (by omega) H7.out.2.2.2).mono ?_
              rintro e w8 ⟨z, rfl, z0, z1, ht8, hf8⟩
              have row8 := KR.step H7.out.1 hf8 hbK
              obtain ⟨⟨-, -, -, -, -, -, -, c7, -⟩, hfz⟩ := KR.cells row8
              have f7 := hfz 7
              have R8 := Lib.hid (And.intro row8 (And.intro ht8 hf8))
              clear hfz row8 ht8 hf8
              go_wp2_with fail
              go_meet
              exact ⟨rfl, { u with ck := z }, set_row_at R8.out.1 7 _, H7.out.2.1, tape_set R8.out.2.1 hbK, fr_set (H7.out.2.2.1.trans R8.out.2.2) hK⟩
            · have e0 : (r == 0) = false := by simpa using (show ¬ r = 0 by omega)
              have e1 : (r == 1) = false := by simpa using (show ¬ r = 1 by omega)
              have e2 : (r == 2) = false := by simpa using (show ¬ r = 2 by omega)
              have e3 : (r == 3) = false := by simpa using (show ¬ r = 3 by omega)
              have e4 : (r == 4) = false := by simpa using (show ¬ r = 4 by omega)
              go_wp2_with fail
              go_meet
              exact ⟨rfl, u, H7.out.1, H7.out.2.1, H7.out.2.2.2, H7.out.2.2.1⟩
          case rest =>
            obtain ⟨rfl, u9, hrow9, ⟨jj, hjj, hpp⟩, ht9, hf9⟩ := hcut
            obtain ⟨W9, hW9⟩ : ∃ W9 : World, W9 = wc := ⟨_, rfl⟩
            rw [← hW9] at hrow9 ht9 hf9 ⊢
            have hown9 : OR 64 11 KC.cs w2.heap.size (.slice A o.length c0) o W9 := H0.out.1.keep fun k hk => hf9.block k (World.ownsRow.lt H0.out.1 k hk).2 (by intro e; injection e with e; have := (World.ownsRow.lt H0.out.1 k hk).1; have := H2.out.2.2.size; omega)
            obtain ⟨⟨k0, k1, k2, k3, k4, k5, k6, k7, k8, k9, k10⟩, -⟩ := KR.cells hrow9
            have hsz9 : w2.heap.size ≤ W9.heap.size := (H0.out.2.2.2.trans hf9).size
            have R9 := Lib.hid (And.intro ht9 (H0.out.2.2.2.trans hf9))
            have HJ : Hid (∃ j, j < 6 ∧ u9.pat = (V j).pat) := ⟨jj, hjj, hpp⟩
            clear hW9 hrow9 hf9 ht9 hpp hjj
            obtain ⟨i0, hi, hz0, hz1, hz2⟩ := info_parts info_kind
            have hw1 : IntKind.i64.wrap ((k : Int) - 1) = (k : Int) - 1 := IntWalk.i64_in _ (by omega)
            apply_assumption
            go_wp2_with (at_builtin; refine app_one encKC Tryz.underlying32 hi hz0 hz1 hz2 rfl (by omega) _ _ _ _ _ u9 _ _ rfl rfl rfl rfl rfl hown9 (by omega) hsz9 ?_; intro v10 w10 hown10 hb10)
            go_roundw
            case rel =>
              obtain ⟨r3, r4⟩ := R9.out
              have hb2 : b < w2.heap.size := Nat.lt_of_lt_of_le hbs H2.out.2.2.size
              exact ⟨k - 1, o ++ [u9], by omega, by go_num, by simp; omega, hown10, fun u hu => by
                rcases List.mem_append.1 hu with h | h
                · exact H0.out.2.1 u h
                · rw [List.mem_singleton.1 h]; exact HJ.out, r3.below' hb10 hb2, r4.then hb10⟩
            case measure => simp [intOf]; omega
    · obtain rfl : k = 0 := by omega
      have H0 := Lib.hid (And.intro hown (And.intro hpo (And.intro htr hfr)))
      clear hown hpo htr hfr
      go_wp2_with fail
      go_ret
      obtain ⟨hown, hpo, htr, hfr⟩ := H0.out
      have hb2 : b < w2.heap.size := Nat.lt_of_lt_of_le hbs H2.out.2.2.size
      refine ⟨_, rfl, KnV.of_OR hown hb2 (by intro e; rw [e] at hko; simp at hko; omega) (by omega) (fun u hu => ?_), htr, H2.out.2.2.trans hfr⟩
      obtain ⟨j, hj, hp⟩ := hpo u hu
      rw [hp]
      exact HP.out _ (Stay.of_fr (H2.out.2.1.trans hfr)) j hj
end Go.Proofs.YtklnakjmiljmhaaGreatDoor
