/- Walks: the lines of messages, by the code. Conditions: the messages are right one by one, not too many; the library's variables read as laid. · Walks: Format of the code. · Walks: a line that the code reads. -/
import Derived.Deep.RegionHeld3
import Derived.Deep.CutRange
import Derived.Test.YthmpcdjhighhgaaGreatDoorY17
import Derived.Test.YthmpcdjhighhgaaGreatDoorY16
import Derived.Test.YthmpcdjhighhgaaGreatDoorY22
import Derived.Test.YthmpcdjhighhgaaGreatDoorY19
import Derived.Test.YthmpcdjhighhgaaGreatDoorY15
namespace Go.Proofs.YthmpcdjhighhgaaGreatDoor
set_option linter.unusedVariables false
set_option linter.unusedSimpArgs false
set_option maxRecDepth 100000
open Go.RowKit
theorem line_join4 (ni nt : Nat) (who tx : List UInt8) : lineM ⟨3, ni, who, nt, tx⟩ = joinW [wordM 3, Lib.decDigits ni, Lib.decDigits nt, who] := by
  simp [lineM, joinW, Lib.join, List.intercalate, tailM, numL]
theorem line_join5 (kd : Int) (hk : kd ≠ 3) (ni nt : Nat) (who tx : List UInt8) : lineM ⟨kd, ni, who, nt, tx⟩ = joinW [wordM kd, Lib.decDigits ni, Lib.decDigits nt, who, encF escE tx] := by
  simp [lineM, joinW, Lib.join, List.intercalate, tailM, numL, hk]
theorem wordM_len (k : Int) : (wordM k).length ≤ 6 := by
  unfold wordM; split
  · simp
  · split <;> simp
theorem line_len (kd : Int) (ni nt : Nat) (who tx : List UInt8) (h1 : ni < 10000000000) (h2 : nt < 10000000000000) (h3 : who.length ≤ 40) (h4 : tx.length ≤ 65536) : (lineM ⟨kd, ni, who, nt, tx⟩).length ≤ 262300 := by
  have e1 := wordM_len kd
  have e2 := dec_len ni 10 (by omega)
  have e3 := dec_len nt 13 (by omega)
  have e4 := encEsc_len tx
  unfold lineM tailM numL
  simp only [Int.toNat_natCast]
  split <;> (simp; omega)
/-- What a slice of words in memory is. -/
theorem ownW {w : World} {e g B : Nat} {cs : List Value} (h : w.heap[g]? = some (.cells cs.toArray e (0, 0))) (hB : B ≤ g) (hc : cs.length ≤ 100) : w.ownsRow B e 1 (.slice (some ⟨g, 0, none⟩) cs.length cs.length) cs.length cs :=
  ⟨by simp, .inr ⟨g, cs.length, cs.toArray, rfl, hB, h, Nat.le_refl _, by unfold maxLen; omega, by simp, by simp⟩⟩
def strsV (ws : List (List UInt8)) : List Value := ws.map fun x => .string (bs x)
theorem join_own {w : World} {B e g c n : Nat} (ws : List (List UInt8)) (h : w.ownsRow B e 1 (.slice (some ⟨g, 0, none⟩) n c) n (strsV ws)) (hn : n = ws.length) (h100 : n ≤ 100) (hlen : (joinW ws).length ≤ 1000000000) :
    Calls Tryz.prog 76 #[.slice (some ⟨g, 0, none⟩) n c, .string ⟨#[32]⟩] w fun e w' => e = .returned (.string (bs (joinW ws))) ∧ Below w.heap.size w w' := by
  subst hn
  obtain ⟨-, ⟨h1, -⟩ | ⟨g', cap, cur, h1, -, hg, hle, -, -, -⟩⟩ := id h
  · cases h1
  · injection h1 with e1 e2 e3
    injection e1 with e1
    injection e1 with e1
    subst e1 e3
    refine join_any g c ws.length ws w rfl (fun j hj => ?_) (Array.getElem?_eq_some_iff.1 hg).1 hle h100 hlen
    have := World.ownsRow.cellAt h j (by simpa using hj)
    rw [this]
    unfold strsV
    rw [List.getElem?_map, List.getElem?_eq_getElem hj]; rfl
theorem strsV_len (ws : List (List UInt8)) : (strsV ws).length = ws.length := by simp [strsV]
theorem strsV_one (ws : List (List UInt8)) : ∀ u ∈ strsV ws, u.oneCell' = true := by
  intro u hu; unfold strsV at hu; obtain ⟨c, -, rfl⟩ := List.mem_map.1 hu; rfl
theorem strsV_app (a b : List (List UInt8)) : strsV (a ++ b) = strsV a ++ strsV b := by simp [strsV]
theorem set_row {w : World} {G e : Nat} {cs : Array Value} {m : Nat × Nat} (h : w.heap[G]? = some (.cells cs e m)) (v : Value) : (w.setCell ⟨G, 0, none⟩ v).heap[G]? = some (.cells (cs.setIfInBounds 0 v) e m) := by
  simp [World.setCell, Array.getElem?_modify, h]
theorem line_end (x : List UInt8) : bs x ++ ⟨#[10]⟩ = bs (x ++ [10]) := by show bs x ++ bs [10] = _; rw [cat_bs, bl_bs]
theorem own_later {w w' : World} {B e n k B2 : Nat} {v : Value} {xs : List Value} (h : w.ownsRow B e k v n xs) (hb : Below B2 w w') (hB : B2 = w.heap.size) : w'.ownsRow B e k v n xs := by
  subst hB
  refine ⟨h.1, ?_⟩
  rcases h.2 with q | ⟨g, cap, cur, q1, q2, q3, rest⟩
  · exact .inl q
  · exact .inr ⟨g, cap, cur, q1, q2, (hb.block g (Array.getElem?_eq_some_iff.1 q3).1).trans q3, rest⟩
theorem below_two {W1 wA wB : World} (hA : Below W1.drew.heap.size W1.drew wA) (hB : Below wA.heap.size wA wB) : Below W1.heap.size W1 wB := (below_of_drew hA).trans (hB.mono hA.size)
set_option maxHeartbeats 4000000 in
theorem write_any (v : Value) (l : List Ms) (w : World) (h : MC v l w) (hs : ∀ m ∈ l, wrongM m = false ∧ lateM m = false) (hn : l.length ≤ 300) (hz : sizeF l ≤ 65536) (hv : VrOK w) :
    Calls Tryz.prog 41 #[v] w fun e w' => ∃ u, e = .returned u ∧ OB 5 w.heap.size u (fmtM l) w' ∧ Below w.heap.size w w' := by
  obtain ⟨i0, hi, hz0, hz1, hz2⟩ := info_parts info_str
  have HV := Lib.hid hv; clear hv
  have HZ := Lib.hid hz; clear hz
  have HS := Lib.hid hs; clear hs
  obtain ⟨A, c, rfl, hc, hcell⟩ := h
  have HC := Lib.hid hcell; clear hcell
  go_enter Tryz.func41, Tryz.ntmps41
  go_wp2
  go_loopw [11] (fun i wr => ∃ (k : Nat) (o : List UInt8), k ≤ l.length ∧ i = .int .i64 (k : Int) ∧ BufC w.heap.size w.heap.size o wr ∧ Below w.heap.size w wr ∧ o.length ≤ k * 300000 ∧ Hid (o ++ fmtM (l.drop k) = fmtM l)) (fun i _ => l.length - (intOf i).toNat)
  case atStart => exact ⟨0, [], by omega, rfl, BufC.fresh w, (Below.refl _ w).alloc (Nat.le_refl _) _, by simp, rfl⟩
  case round =>
    obtain ⟨k, o, hk, rfl, hbuf, hbel, ho, HR⟩ := hrel
    by_cases hlt : k < l.length
    · have hd : decide ((k : Int) < (l.length : Int)) = true := decide_eq_true (by omega)
      have hdn : decide (k < l.length) = true := decide_eq_true hlt
      obtain ⟨g, ff, rfl, hg, hcs⟩ := HC.out.resolve_left (by intro e; rw [e] at hlt; simp at hlt)
      obtain ⟨a0, a1, a2, a3, a4⟩ := (hcs k hlt).later (hbel.block g hg)
      clear hcs
      have HD := Lib.hid (show o ++ (lineM l[k] ++ 10 :: fmtM (l.drop (k + 1))) = fmtM l by rw [← HR.out, List.drop_eq_getElem_cons hlt]; rfl)
      have hm := HS.out l[k] (List.getElem_mem hlt)
      have htl : l[k].text.length ≤ 65536 := by have h1 := sizeF_mem (List.getElem_mem hlt); have h2 := HZ.out; omega
      obtain ⟨⟨kd, id, who, tm, tx⟩, hmm⟩ : ∃ m, l[k] = m := ⟨_, rfl⟩
      rw [hmm] at a0 a1 a2 a3 a4 HD hm htl
      clear hmm
      obtain ⟨k1, k3, i1, i2, -, -, hw2, -⟩ := wrongM_no hm.1
      obtain ⟨t1, t2⟩ := lateM_no hm.2
      clear hm
      dsimp only at a0 a1 a2 a3 a4 htl k1 k3 i1 i2 hw2 t1 t2
      obtain ⟨ni, rfl⟩ := Int.eq_ofNat_of_zero_le (show 0 ≤ id by omega)
      obtain ⟨nt, rfl⟩ := Int.eq_ofNat_of_zero_le t1
      have HL := Lib.hid (line_len kd ni nt who tx (by omega) (by omega) hw2 htl)
      have I1 := Lib.hid (fun w' hv' => itoa_any ni (by omega) w' hv')
      have I2 := Lib.hid (fun w' hv' => itoa_any nt (by omega) w' hv')
      have HB1 := Lib.hid (And.intro i1 (And.intro i2 (And.intro t1 (And.intro t2 (And.intro hw2 htl)))))
      clear i1 i2 t1 t2 hw2 htl
      obtain ⟨W1, hW1⟩ : ∃ W, wr.alloc (Obj.cells #[Value.int IntKind.i64 kd, Value.int IntKind.i64 (ni : Int), Value.string (bs who), Value.int IntKind.i64 (nt : Int), Value.string (bs tx)] 28) = W := ⟨_, rfl⟩
      have hM : MCell W1 wr.heap.size 0 ⟨kd, ni, who, nt, tx⟩ := by
        rw [← hW1]; refine ⟨?_, ?_, ?_, ?_, ?_⟩ <;> (rw [World.cell?_alloc_mark]; rfl)
      have hb1 : Below wr.heap.size wr W1 := by rw [← hW1]; exact (Below.refl _ _).alloc (Nat.le_refl _) _
      have hz1w : W1.heap.size = wr.heap.size + 1 := by rw [← hW1]; simp
      have HF := Lib.hid (fun w' (hb : Below wr.heap.size wr w') => show BufC w.heap.size w.heap.size o w' ∧ Below w.heap.size w w' ∧ VrOK w' from ⟨hbuf.below hb, hbel.trans (hb.mono hbel.size), HV.out.later (hbel.trans (hb.mono hbel.size))⟩)
      have HX := Lib.hid (And.intro hM (And.intro hz1w (And.intro hb1 hbel.size)))
      have HW1 := Lib.hid hW1
      clear hM hb1 hz1w hW1
      go_upto_region 5 with fail
      rw [HW1.out]
      obtain ⟨⟨m0, m1, m2, m3, m4⟩, hz1w, hb1, hsw⟩ := HX.out
      have HVW := (HF.out _ hb1).2.2
      dsimp only at m0 m1 m2 m3 m4
      simp only [Nat.zero_add] at m1 m2 m3 m4
      clear HX HW1 a0 a1 a2 a3 a4 hbuf hbel hg
      obtain ⟨M, hM⟩ : ∃ M, wr.heap.size = M := ⟨_, rfl⟩
      rw [hM] at HF hb1 hz1w hsw m0 m1 m2 m3 m4 ⊢
      have HM := Lib.hid hM; clear hM
      go_cut [6, 11] from 12 to 52 (fun s i wx => i = .int .i64 (k : Int) ∧ ∃ G, s = .slice (some ⟨G, 0, none⟩) 4 4 ∧ wx.heap[G]? = some (.cells #[.string (bs (wordM 1)), .string (bs (Lib.decDigits ni)), .string (bs (Lib.decDigits nt)), .string (bs who)] 9 (0, 0)) ∧ M < G ∧ G < wx.heap.size ∧ Below W1.heap.size W1 wx)
      case first =>
        have HK := Lib.hid (fun w' (hb : Below W1.heap.size W1 w') => show w'.cell? ⟨M, 1, none⟩ = some (.int .i64 (ni : Int)) ∧ w'.cell? ⟨M, 3, none⟩ = some (.int .i64 (nt : Int)) ∧ w'.cell? ⟨M, 2, none⟩ = some (.string (bs who)) ∧ VrOK w' from
          ⟨(hb.cell (p := ⟨M, 1, none⟩) (by dsimp only; omega)).trans m1, (hb.cell (p := ⟨M, 3, none⟩) (by dsimp only; omega)).trans m3, (hb.cell (p := ⟨M, 2, none⟩) (by dsimp only; omega)).trans m2, HVW.later hb⟩)
        go_region_held3 (fun w' => w'.cell? ⟨M, 1, none⟩ = some (.int .i64 (ni : Int)) ∧ w'.cell? ⟨M, 3, none⟩ = some (.int .i64 (nt : Int)) ∧ w'.cell? ⟨M, 2, none⟩ = some (.string (bs who)) ∧ VrOK w')
          (first | exact HK.out _ (Below.refl _ _).drew | exact HK.out _ (below_of_drew hbA) | exact HK.out _ (below_two hbA hbB) | exact HK.out _ ((below_two hbA hbB).alloc (below_two hbA hbB).size _))
          ((go_at_call 27; (first
            | ((with_reducible show Calls _ _ #[Value.int IntKind.i64 (ni : Int)] _ _); refine (I1.out _ (by first | exact HVW.later (Below.refl _ _).drew | exact HVW.later (below_of_drew hbA))).mono ?_; rintro e wA ⟨rfl, hbA⟩)
            | ((with_reducible show Calls _ _ #[Value.int IntKind.i64 (nt : Int)] _ _); refine (I2.out _ (by first | exact HVW.later (Below.refl _ _).drew | exact HVW.later (below_of_drew hbA))).mono ?_; rintro e wB ⟨rfl, hbB⟩))))
        all_goals
          go_wp2_with fail
          go_meet
          exact ⟨rfl, wB.heap.size, rfl, heap_alloc_new _ _, by have h1 := (below_two hbA hbB).size; omega, by simp, (below_two hbA hbB).alloc (below_two hbA hbB).size _⟩
      case rest =>
        obtain ⟨rfl, G, rfl, hG, hMG, hGs, hbx⟩ := hcut
        obtain ⟨W2, hW2⟩ : ∃ W2 : World, W2 = wc := ⟨_, rfl⟩
        rw [← hW2] at hG hGs hbx ⊢
        clear hW2
        have x0 := (hbx.cell (p := ⟨M, 0, none⟩) (by dsimp only; omega)).trans m0
        have x4 := (hbx.cell (p := ⟨M, 4, none⟩) (by dsimp only; omega)).trans m4
        have hb2 := hb1.trans (hbx.mono (by omega))
        have g0 : W2.cell? ⟨G, 0, none⟩ = some (.string (bs (wordM 1))) := by rw [cell_of_row _ _ _ _ _ _ hG]; rfl
        have gf : W2.frozen? ⟨G, 0, none⟩ = false := by simp [World.frozen?, hG]
        have hne : ¬ M = G := by omega
        have hne2 : ¬ G = M := by omega
        have HG := Lib.hid hG
        have HB2 := Lib.hid hb2
        have HK := Lib.hid (show ∀ j : List UInt8, lineM ⟨kd, ni, who, nt, tx⟩ = j → j.length ≤ 262300 from fun j hj => by rw [← hj]; exact HL.out)
        have hzz := hb2.size
        clear m0 m1 m2 m3 m4 HVW I1 I2 hb2 hb1 hbx
        apply_assumption
        refine wp_seq_k ?_
        intro K0 hK0
        go_cut [6, 11] from 12 to 52 (fun s i wx => i = .int .i64 (k : Int) ∧ s = .slice (some ⟨G, 0, none⟩) 4 4 ∧ Below M wr wx ∧ wx.heap[G]? = some (.cells (strsV [wordM kd, Lib.decDigits ni, Lib.decDigits nt, who]).toArray 9 (0, 0)) ∧ wx.cell? ⟨M, 0, none⟩ = some (.int .i64 kd) ∧ wx.cell? ⟨M, 4, none⟩ = some (.string (bs tx)))
        case first =>
          have hkd : kd = 1 ∨ kd = 2 ∨ kd = 3 := by omega
          rcases hkd with rfl | rfl | rfl
          · go_wp2_with fail
            go_meet
            exact ⟨rfl, rfl, HB2.out, HG.out, x0, x4⟩
          · go_wp2_with fail
            go_meet
            exact ⟨rfl, rfl, HB2.out.setCell (p := ⟨G, 0, none⟩) (by dsimp only; omega) _, set_row HG.out _, (World.cell?_of_block (a := ⟨M, 0, none⟩) (Below.heap_setCell _ _ _ _ hne)).trans x0, (World.cell?_of_block (a := ⟨M, 4, none⟩) (Below.heap_setCell _ _ _ _ hne)).trans x4⟩
          · go_wp2_with fail
            go_meet
            exact ⟨rfl, rfl, HB2.out.setCell (p := ⟨G, 0, none⟩) (by dsimp only; omega) _, set_row HG.out _, (World.cell?_of_block (a := ⟨M, 0, none⟩) (Below.heap_setCell _ _ _ _ hne)).trans x0, (World.cell?_of_block (a := ⟨M, 4, none⟩) (Below.heap_setCell _ _ _ _ hne)).trans x4⟩
        case rest =>
          clear x0 x4 g0 gf HG HB2
          obtain ⟨rfl, rfl, hb3, hG, x0, x4⟩ := hcut
          obtain ⟨W3, hW3⟩ : ∃ W3 : World, W3 = wc := ⟨_, rfl⟩
          rw [← hW3] at hb3 hG x0 x4 ⊢
          clear hW3
          have hown : W3.ownsRow M 9 1 (.slice (some ⟨G, 0, none⟩) 4 4) 4 (strsV [wordM kd, Lib.decDigits ni, Lib.decDigits nt, who]) := ownW (cs := strsV [wordM kd, Lib.decDigits ni, Lib.decDigits nt, who]) hG (by omega) (by rw [strsV_len]; simp)
          by_cases e3 : kd = 3
          · subst e3
            have HJ := Lib.hid (line_join4 ni nt who tx)
            have hjl := HK.out _ HJ.out
            have JN := join_own [wordM 3, Lib.decDigits ni, Lib.decDigits nt, who] hown rfl (by decide) (by omega)
            go_wp2_with fail
            refine JN.mono ?_
            rintro e w4 ⟨rfl, hb4⟩
            have hb5 := hb3.trans (hb4.mono (by have h1 := hb3.size; have h2 := HM.out; omega))
            obtain ⟨hbuf4, hbel4, -⟩ := HF.out _ hb5
            obtain ⟨X, hX⟩ : ∃ X, joinW [wordM 3, Lib.decDigits ni, Lib.decDigits nt, who] = X := ⟨_, rfl⟩
            rw [hX] at HJ hjl ⊢
            have HE := Lib.hid (show (o ++ (X ++ [10])) ++ fmtM (l.drop (k + 1)) = fmtM l by rw [← HD.out, HJ.out]; simp)
            have hcl : ¬ 9223372036854775807 < (bs X).size + ByteArray.size ⟨#[10]⟩ := by rw [size_bs]; show ¬ _ < X.length + 1; omega
            have HCT := Lib.hid (line_end X)
            have hXl : (X ++ [10]).length ≤ 262301 := by simp; omega
            clear hX HJ JN hown
            go_wp2_with (go_at_call 90; rw [HCT.out]; refine (bufw_any _ _ _ _ _ hbuf4 (by omega)).mono ?_; rintro e w5 ⟨⟨n, rfl⟩, hbuf5, hb6⟩)
            go_roundw
            case rel => exact ⟨k + 1, o ++ (X ++ [10]), by omega, by go_num, hbuf5, hbel4.trans hb6, by simp only [List.length_append] at hXl ⊢; omega, HE⟩
            case measure => simp [intOf]; omega
          · have d3 : (kd != 3) = true := by simpa using e3
            obtain ⟨-, -, -, -, -, htl⟩ := HB1.out
            have hcv := fun w => Lib.run_convert_string_bytes (P := Tryz.prog) w 9 30 5 (bs tx) Tryz.underlying9 Tryz.underlying30 Tryz.underlying5
            obtain ⟨W4, C4, B4, hW4, hC4, hB4, hrb, hbb4, hsz4⟩ := RB.names W3 5 (bs tx)
            go_wp2_with fail
            rw [← hW4, ← hC4, ← hB4]
            have hbin : BIn W4.heap.size W4 (.slice (some ⟨B4, 0, none⟩) (bs tx).size C4) tx := by
              rw [bl_bs] at hrb
              exact BIn.of_RB hrb (size_bs _) (by rw [hC4]; exact grownCap_ge _ _ _ _)
            have hb4 := hb3.trans (hbb4.mono (by have h1 := hb3.size; have h2 := HM.out; omega))
            have hown4 := own_later hown hbb4 hB4
            refine (Encode_any 4 _ tx _ (by omega) hbin).mono ?_
            rintro e w5 ⟨rfl, hb5⟩
            have hee : encErr 4 tx = 0 := by unfold encErr; rw [if_neg (by decide), if_neg (by omega)]
            have heo : encOut 4 tx = encF escE tx := by unfold encOut; rw [if_neg (by decide), if_neg (by omega)]; rfl
            rw [hee, heo]
            have hb6 := hb4.trans (hb5.mono (by have h1 := hb4.size; have h2 := HM.out; omega))
            have hown5 := own_later hown4 hb5 rfl
            have hM5 : M ≤ w5.heap.size := by have h1 := hb6.size; have h2 := HM.out; omega
            clear hcv hW4 hC4 hB4 hrb hbb4 hsz4 hbin hee heo hown hown4 hb3 hb4 hb5 hG
            go_wp2_with (at_builtin; refine app_new Tryz.underlying140 hi hz0 hz1 hz2 rfl _ _ _ 4 1 1 _ [.string (bs (encF escE tx))] M rfl rfl rfl rfl rfl hown5 (by intro u hu; simp at hu; subst hu; rfl) (by decide) (by decide) hM5 ?_; intro v7 w7 hown7 hb7 _h7)
            have hown8 : w7.ownsRow M 9 1 v7 5 (strsV [wordM kd, Lib.decDigits ni, Lib.decDigits nt, who, encF escE tx]) := hown7
            obtain ⟨g7, c7, rfl⟩ : ∃ g7 c7, v7 = .slice (some ⟨g7, 0, none⟩) 5 c7 := by
              rcases hown8.2 with ⟨-, h0⟩ | ⟨g', cap, cur, h1, -⟩
              · cases h0
              · exact ⟨_, _, h1⟩
            have HJ := Lib.hid (line_join5 kd e3 ni nt who tx)
            have hjl := HK.out _ HJ.out
            have JN := join_own [wordM kd, Lib.decDigits ni, Lib.decDigits nt, who, encF escE tx] hown8 rfl (by decide) (by omega)
            have hb8 := hb6.trans hb7
            clear hown7 hown8 hown5
            refine JN.mono ?_
            rintro e w8 ⟨rfl, hb9⟩
            have hbA := hb8.trans (hb9.mono (by have h1 := hb8.size; have h2 := HM.out; omega))
            obtain ⟨hbuf4, hbel4, -⟩ := HF.out _ hbA
            obtain ⟨X, hX⟩ : ∃ X, joinW [wordM kd, Lib.decDigits ni, Lib.decDigits nt, who, encF escE tx] = X := ⟨_, rfl⟩
            rw [hX] at HJ hjl ⊢
            have HE := Lib.hid (show (o ++ (X ++ [10])) ++ fmtM (l.drop (k + 1)) = fmtM l by rw [← HD.out, HJ.out]; simp)
            have hcl : ¬ 9223372036854775807 < (bs X).size + ByteArray.size ⟨#[10]⟩ := by rw [size_bs]; show ¬ _ < X.length + 1; omega
            have HCT := Lib.hid (line_end X)
            have hXl : (X ++ [10]).length ≤ 262301 := by simp; omega
            clear hX HJ JN
            go_wp2_with (go_at_call 90; rw [HCT.out]; refine (bufw_any _ _ _ _ _ hbuf4 (by omega)).mono ?_; rintro e w9 ⟨⟨n, rfl⟩, hbuf5, hb6⟩)
            go_roundw
            case rel => exact ⟨k + 1, o ++ (X ++ [10]), by omega, by go_num, hbuf5, hbel4.trans hb6, by simp only [List.length_append] at hXl ⊢; omega, HE⟩
            case measure => simp [intOf]; omega
    · obtain rfl : k = l.length := by omega
      have hd : decide ((l.length : Int) < (l.length : Int)) = false := decide_eq_false (by omega)
      have hdn : decide (l.length < l.length) = false := decide_eq_false (by omega)
      have HE := Lib.hid (show o = fmtM l by rw [← HR.out, List.drop_length]; simp [fmtM])
      go_wp2_with (go_at_call 91; refine (bufb_any _ _ _ _ hbuf).mono ?_; rintro e w1 ⟨u, rfl, hu, hb1⟩)
      go_ret
      exact ⟨_, rfl, HE.out ▸ hu, hbel.trans (hb1.mono hbel.size)⟩
end Go.Proofs.YthmpcdjhighhgaaGreatDoor
namespace Go.Proofs.YthmpcdjhighhgaaGreatDoor
set_option linter.unusedVariables false
set_option linter.unusedSimpArgs false
set_option maxRecDepth 100000
open Go.RowKit
def fmtO (l : List Ms) : List UInt8 := if errM l = 0 then fmtM l else []
def FmPost (l : List Ms) (w : World) (e : Ending) (w' : World) : Prop := ∃ u, e = .returned (.tuple #[u, .int .i64 (errM l)]) ∧ OB 5 w.heap.size u (fmtO l) w' ∧ Below w.heap.size w w'
end Go.Proofs.YthmpcdjhighhgaaGreatDoor
namespace Go.Proofs.YthmpcdjhighhgaaGreatDoor
set_option linter.unusedVariables false
set_option linter.unusedSimpArgs false
set_option maxRecDepth 100000
open Go.RowKit
theorem chopN_len (s : List UInt8) : (chopN s).length ≤ s.length := by
  unfold chopN; split
  · simp
  · exact Nat.le_refl _
def RdPost (r : Option Ms) (w : World) (e : Ending) (w' : World) : Prop := (∃ (m : Ms) (b : Bool), e = .returned (.tuple #[.agg (encM m).toArray, .bool b]) ∧ ((b = true ∧ r = some m) ∨ (b = false ∧ r = none))) ∧ Below w.heap.size w w'
theorem splitN_mem {s : List UInt8} {x : List UInt8} (h : x ∈ Lib.splitN s [32] 5) : x.length ≤ s.length := by
  unfold Lib.splitN at h
  generalize min 5 (s.length + 1) - 1 = k at h
  induction k generalizing s with
  | zero => simp [Lib.splitK] at h; rw [h]; exact Nat.le_refl _
  | succ k ih =>
    rw [Lib.splitK] at h
    split at h
    · simp at h; rw [h]; exact Nat.le_refl _
    · rcases List.mem_cons.1 h with rfl | h
      · rw [List.length_take]; omega
      · have := ih h; rw [List.length_drop] at this; omega
theorem toList_bs' (l : List UInt8) : (bs l).toList = l := by rw [toList_bl, bl_bs]
theorem beq_word (a b : List UInt8) : (a == b) = decide (a = b) := by rw [Bool.eq_iff_iff]; simp
theorem kindW_cases (a : List UInt8) : (decide (a = wordM 1) = true ∧ kindW a = 1) ∨ (decide (a = wordM 1) = false ∧ decide (a = wordM 2) = true ∧ kindW a = 2) ∨ (decide (a = wordM 1) = false ∧ decide (a = wordM 2) = false ∧ decide (a = wordM 3) = true ∧ kindW a = 3) ∨ (decide (a = wordM 1) = false ∧ decide (a = wordM 2) = false ∧ decide (a = wordM 3) = false ∧ kindW a = 0) := by
  unfold kindW
  by_cases h1 : a = wordM 1
  · subst h1; left; exact ⟨by decide, by decide⟩
  by_cases h2 : a = wordM 2
  · subst h2; right; left; exact ⟨by decide, by decide, by decide⟩
  by_cases h3 : a = wordM 3
  · subst h3; right; right; left; exact ⟨by decide, by decide, by decide, by decide⟩
  · right; right; right
    refine ⟨decide_eq_false h1, decide_eq_false h2, decide_eq_false h3, ?_⟩
    rw [if_neg h3, if_neg h2, if_neg h1]
theorem textF_cases (e : List UInt8) : (decErr 4 e = 0 ∧ textF e = some (decOut 4 e)) ∨ ((decErr 4 e == 0) = false ∧ textF e = none) := by
  unfold decErr decOut textF
  have hd : decd 4 e = decEsc e [] := by unfold decd; rfl
  have hv : ¬ vldC 4 = false := by decide
  rw [if_neg hv, if_neg hv, hd]
  by_cases h : 262144 < e.length
  · right; rw [if_pos h, if_pos h]; exact ⟨rfl, rfl⟩
  · rw [if_neg h, if_neg h, if_neg h]
    cases decEsc e [] with
    | none => right; exact ⟨rfl, rfl⟩
    | some x => left; exact ⟨rfl, rfl⟩
set_option maxHeartbeats 4000000 in
theorem read_any (s : List UInt8) (w : World) (hv : VrOK w) (hs : s.length ≤ 600000) : Calls Tryz.prog 38 #[.string (bs s)] w (RdPost (lineC (chopN s)) w) := by
  have TR := fun w => trim_any (bs s) w (by rw [size_bs]; omega)
  rw [bl_bs] at TR
  have hcl := chopN_len s
  obtain ⟨X, hX⟩ : ∃ X, chopN s = X := ⟨_, rfl⟩
  rw [hX] at TR hcl ⊢
  obtain ⟨ws, hws⟩ : ∃ ws, Lib.splitN X [32] 5 = ws := ⟨_, rfl⟩
  have SP := fun w hv => split_any X w hv (by omega)
  have hml := fun x (h : x ∈ Lib.splitN X [32] 5) => splitN_mem h
  unfold lineC
  rw [hws] at SP hml ⊢
  have HML := Lib.hid (fun x h => Nat.le_trans (hml x h) (Nat.le_trans hcl hs))
  have HSP := Lib.hid SP
  have HV := Lib.hid hv
  clear SP hml hws hX hcl hs hv
  have hb0 : Below w.heap.size w (w.alloc (.cells #[.int .i64 0, .int .i64 0, .string ⟨#[]⟩, .int .i64 0, .string ⟨#[]⟩] 28)) := (Below.refl _ _).alloc (Nat.le_refl _) _
  have hz0 : (w.alloc (.cells #[.int .i64 0, .int .i64 0, .string ⟨#[]⟩, .int .i64 0, .string ⟨#[]⟩] 28)).heap.size = w.heap.size + 1 := by simp
  have h00 : (w.alloc (.cells #[.int .i64 0, .int .i64 0, .string ⟨#[]⟩, .int .i64 0, .string ⟨#[]⟩] 28)).heap[w.heap.size]? = some (.cells #[.int .i64 0, .int .i64 0, .string ⟨#[]⟩, .int .i64 0, .string ⟨#[]⟩] 28 (0, 0)) := heap_alloc_new _ _
  have HI := Lib.hid (And.intro hb0 (And.intro hz0 h00))
  clear hb0 hz0 h00
  go_enter Tryz.func38, Tryz.ntmps38
  go_wp2_with fail
  refine (TR _).mono ?_
  rintro e w1 ⟨rfl, rfl⟩
  go_wp2_with fail
  refine (HSP.out _ (HV.out.later HI.out.1)).mono ?_
  rintro e w1 ⟨c, rfl, hc, h5, hcs, hsz, hb1⟩
  obtain ⟨hb0, hz0, h00⟩ := HI.out
  have hbw := hb0.trans (hb1.mono (by omega))
  have hz := (hb1.block w.heap.size (by omega)).trans h00
  have fz : ∀ j, w1.frozen? ⟨w.heap.size, j, none⟩ = false := fun j => by simp [World.frozen?, hz]
  have z0 : w1.cell? ⟨w.heap.size, 0, none⟩ = some (.int .i64 0) := by rw [cell_of_row _ _ _ _ _ _ hz]; rfl
  have z1 : w1.cell? ⟨w.heap.size, 1, none⟩ = some (.int .i64 0) := by rw [cell_of_row _ _ _ _ _ _ hz]; rfl
  have z2 : w1.cell? ⟨w.heap.size, 2, none⟩ = some (.string ⟨#[]⟩) := by rw [cell_of_row _ _ _ _ _ _ hz]; rfl
  have z3 : w1.cell? ⟨w.heap.size, 3, none⟩ = some (.int .i64 0) := by rw [cell_of_row _ _ _ _ _ _ hz]; rfl
  have z4 : w1.cell? ⟨w.heap.size, 4, none⟩ = some (.string ⟨#[]⟩) := by rw [cell_of_row _ _ _ _ _ _ hz]; rfl
  have HZ := Lib.hid hz; clear hz
  rw [hz0] at hcs hsz ⊢
  have HCS := Lib.hid hcs
  clear hb0 hz0 h00 HI TR HSP hb1 hcs
  by_cases h4 : ws.length < 4
  · have d4 : decide ((ws.length : Int) < 4) = true := decide_eq_true (by omega)
    have d4n : decide (ws.length < 4) = true := decide_eq_true h4
    have HN := Lib.hid (lineW_short h4)
    go_wp2_with fail
    refine bodyPost_ret (v := .tuple #[.agg (encM ⟨0, 0, [], 0, []⟩).toArray, .bool false]) (by simp [results, Tryz.results38, go_sem, z0, z1, z2, z3, z4, encM]; try rfl) rfl ?_
    exact ⟨⟨_, _, rfl, .inr ⟨rfl, HN.out⟩⟩, ((((hbw.setCell (p := ⟨w.heap.size, 0, none⟩) (Nat.le_refl _) _).setCell (p := ⟨w.heap.size, 1, none⟩) (Nat.le_refl _) _).setCell (p := ⟨w.heap.size, 2, none⟩) (Nat.le_refl _) _).setCell (p := ⟨w.heap.size, 3, none⟩) (Nat.le_refl _) _).setCell (p := ⟨w.heap.size, 4, none⟩) (Nat.le_refl _) _⟩
  have d4 : decide ((ws.length : Int) < 4) = false := decide_eq_false (by omega)
  have d4n : decide (ws.length < 4) = false := decide_eq_false h4
  obtain ⟨a, b, c1, d, r, rfl⟩ : ∃ a b c1 d r, ws = a :: b :: c1 :: d :: r := by
    match ws, h4 with
    | a :: b :: c1 :: d :: r, _ => exact ⟨a, b, c1, d, r, rfl⟩
    | [], h | [_], h | [_, _], h | [_, _, _], h => simp at h
  have q0 := HCS.out 0 (by simp)
  have q1 := HCS.out 1 (by simp)
  have q2 := HCS.out 2 (by simp)
  have q3 := HCS.out 3 (by simp)
  simp only [List.getElem_cons_zero, List.getElem_cons_succ] at q0 q1 q2 q3
  obtain ⟨M, hM⟩ : ∃ M, w.heap.size + 1 + 1 = M := ⟨_, rfl⟩
  rw [hM] at hsz
  obtain ⟨W2, hW2⟩ : ∃ W, w1.alloc (Obj.cells #[Value.int IntKind.i64 0, Value.int IntKind.i64 0, Value.string (bs d), Value.int IntKind.i64 0, Value.string ⟨#[]⟩] 28) = W := ⟨_, rfl⟩
  have hMr : W2.heap[M]? = some (.cells #[Value.int IntKind.i64 0, Value.int IntKind.i64 0, Value.string (bs d), Value.int IntKind.i64 0, Value.string ⟨#[]⟩] 28 (0, 0)) := by rw [← hW2, ← hsz]; exact heap_alloc_new _ _
  have hb2 : Below w1.heap.size w1 W2 := by rw [← hW2]; exact (Below.refl _ _).alloc (Nat.le_refl _) _
  have hz2 : W2.heap.size = M + 1 := by rw [← hW2, ← hsz]; simp
  have HX := Lib.hid (And.intro hM (And.intro hW2 (And.intro hMr (And.intro hb2 hz2))))
  clear hM hW2 hMr hb2 hz2
  go_upto_region 5 with fail
  obtain ⟨hM, hW2, hMr, hb2, hz2⟩ := HX.out
  rw [hW2]
  have Q0 := (hb2.cell (p := ⟨w.heap.size + 1, 0, none⟩) (by dsimp only; omega)).trans q0
  have Q1 := (hb2.cell (p := ⟨w.heap.size + 1, 1, none⟩) (by dsimp only; omega)).trans q1
  have Q2 := (hb2.cell (p := ⟨w.heap.size + 1, 2, none⟩) (by dsimp only; omega)).trans q2
  have HCS2 := Lib.hid (fun w' (hb : Below M W2 w') j (h : j < (a :: b :: c1 :: d :: r).length) => ((hb.cell (p := ⟨w.heap.size + 1, j, none⟩) (by dsimp only; omega)).trans (hb2.cell (p := ⟨w.heap.size + 1, j, none⟩) (by dsimp only; omega))).trans (HCS.out j h))
  have HZ2 := Lib.hid ((hb2.block w.heap.size (by omega)).trans HZ.out)
  have hbw2 := hbw.trans (hb2.mono (by omega))
  clear z0 z1 z2 z3 z4 fz HX hW2 hb2 q0 q1 q2 q3 HZ HCS hbw
  go_cut [25] from 26 to 76 (fun x wx => x = .string (bs a) ∧ wx = W2)
  case first =>
    go_wp2_with fail
    go_meet
    exact ⟨rfl, rfl⟩
  case rest =>
    obtain ⟨rfl, rfl⟩ := hcut
    apply_assumption
    go_cut [3] from 26 to 76 (fun x wx => x = .bool false ∧ wx.heap[M]? = some (.cells #[Value.int IntKind.i64 (kindW a), Value.int IntKind.i64 0, Value.string (bs d), Value.int IntKind.i64 0, Value.string ⟨#[]⟩] 28 (0, 0)) ∧ Below M wc wx)
    case first =>
      have m0 : wc.cell? ⟨M, 0, none⟩ = some (.int .i64 0) := by rw [cell_of_row _ _ _ _ _ _ hMr]; rfl
      have f0 : wc.frozen? ⟨M, 0, none⟩ = false := by simp [World.frozen?, hMr]
      have T1 : ((bs a).toList == [112, 111, 115, 116]) = decide (a = wordM 1) := by rw [toList_bs']; exact beq_word a _
      have T2 : ((bs a).toList == [101, 100, 105, 116]) = decide (a = wordM 2) := by rw [toList_bs']; exact beq_word a _
      have T3 : ((bs a).toList == [100, 101, 108, 101, 116, 101]) = decide (a = wordM 3) := by rw [toList_bs']; exact beq_word a _
      have hk := kindW_cases a
      have HMr := Lib.hid hMr; clear hMr
      rcases hk with ⟨d1, hk⟩ | ⟨d1, d2, hk⟩ | ⟨d1, d2, d3, hk⟩ | ⟨d1, d2, d3, hk⟩
      · rw [d1] at T1
        have HKW := Lib.hid hk
        clear d1 hk T2 T3
        go_wp2_with fail
        go_meet
        exact ⟨rfl, by rw [HKW.out]; exact set_row HMr.out _, (Below.refl _ _).setCell (p := ⟨M, 0, none⟩) (Nat.le_refl _) _⟩
      · rw [d1] at T1
        rw [d2] at T2
        have HKW := Lib.hid hk
        clear d1 d2 hk T3
        go_wp2_with fail
        go_meet
        exact ⟨rfl, by rw [HKW.out]; exact set_row HMr.out _, (Below.refl _ _).setCell (p := ⟨M, 0, none⟩) (Nat.le_refl _) _⟩
      · rw [d1] at T1
        rw [d2] at T2
        rw [d3] at T3
        have HKW := Lib.hid hk
        clear d1 d2 d3 hk
        go_wp2_with fail
        go_meet
        exact ⟨rfl, by rw [HKW.out]; exact set_row HMr.out _, (Below.refl _ _).setCell (p := ⟨M, 0, none⟩) (Nat.le_refl _) _⟩
      · rw [d1] at T1
        rw [d2] at T2
        rw [d3] at T3
        have HKW := Lib.hid hk
        clear d1 d2 d3 hk
        go_wp2_with fail
        go_meet
        exact ⟨rfl, by rw [HKW.out]; exact HMr.out, Below.refl _ _⟩
    case rest =>
      obtain ⟨rfl, hM3, hb3⟩ := hcut
      obtain ⟨W3, hW3⟩ : ∃ W3 : World, W3 = wc := ⟨_, rfl⟩
      rw [← hW3] at hM3 hb3 ⊢
      clear hW3
      have hbw3 := hbw2.trans (hb3.mono (by omega))
      have hz3 := hb3.size
      have Q1' := HCS2.out W3 hb3 1 (by simp)
      have HQ2 := Lib.hid (HCS2.out W3 hb3 2 (by simp))
      have HQ4 := Lib.hid (fun e (he : r = [e]) => show W3.cell? ⟨w.heap.size + 1, 4, none⟩ = some (.string (bs e)) from by subst he; exact HCS2.out W3 hb3 4 (by simp))
      have HZ3 := Lib.hid ((hb3.block w.heap.size (by omega)).trans HZ2.out)
      have hV3 := HV.out.later hbw3
      have HB := HML.out b (by simp)
      have HC1 := HML.out c1 (by simp)
      have HE1 := Lib.hid (fun e (he : r = [e]) => HML.out e (by rw [he]; simp))
      simp only [List.getElem_cons_zero, List.getElem_cons_succ] at Q1'
      have HM3 := Lib.hid hM3
      have HR := Lib.hid (show r = [] ∨ ∃ e, r = [e] by
        match r, h5 with
        | [], _ => exact .inl rfl
        | [e], _ => exact .inr ⟨e, rfl⟩
        | _ :: _ :: _, h => simp at h)
      clear hMr Q1 Q2 HCS2 HZ2 hbw2 hb3 hM3 h5
      go_wp2_with fail
      refine (atoi_any (bs b) W3 hV3 (by rw [size_bs]; omega)).mono ?_
      rintro e w4 ⟨⟨i, x, rfl, hx⟩, hb4⟩
      rw [bl_bs] at hx
      have HX1 := Lib.hid hx
      have q2 := (hb4.cell (p := ⟨w.heap.size + 1, 2, none⟩) (by dsimp only; omega)).trans HQ2.out
      simp only [List.getElem_cons_zero, List.getElem_cons_succ] at q2
      have HB4 := Lib.hid hb4
      have hV4 := hV3.later hb4
      clear hx Q1' HQ2 hb4
      go_wp2_with fail
      refine (atoi_any (bs c1) w4 hV4 (by rw [size_bs]; omega)).mono ?_
      rintro e w5 ⟨⟨t, y, rfl, hy⟩, hb5⟩
      rw [bl_bs] at hy
      have HY1 := Lib.hid hy
      have hb45 := HB4.out.trans (hb5.mono HB4.out.size)
      have hM5 := (hb45.block M (by omega)).trans HM3.out
      have hZ5 := (hb45.block w.heap.size (by omega)).trans HZ3.out
      have HQ5 := Lib.hid (fun e (he : r = [e]) => (hb45.cell (p := ⟨w.heap.size + 1, 4, none⟩) (by dsimp only; omega)).trans (HQ4.out e he))
      have hbw5 := hbw3.trans (hb45.mono hbw3.size)
      have hMz5 := hb45.size
      clear q2 HQ4 HM3 HZ3 hy hb5 HB4 hb45 HB HC1 hV3 hV4 hbw3
      have m0 : w5.cell? ⟨M, 0, none⟩ = some (.int .i64 (kindW a)) := by rw [cell_of_row _ _ _ _ _ _ hM5]; rfl
      have m1 : w5.cell? ⟨M, 1, none⟩ = some (.int .i64 0) := by rw [cell_of_row _ _ _ _ _ _ hM5]; rfl
      have m2 : w5.cell? ⟨M, 2, none⟩ = some (.string (bs d)) := by rw [cell_of_row _ _ _ _ _ _ hM5]; rfl
      have m3 : w5.cell? ⟨M, 3, none⟩ = some (.int .i64 0) := by rw [cell_of_row _ _ _ _ _ _ hM5]; rfl
      have m4 : w5.cell? ⟨M, 4, none⟩ = some (.string ⟨#[]⟩) := by rw [cell_of_row _ _ _ _ _ _ hM5]; rfl
      have fm : ∀ j, w5.frozen? ⟨M, j, none⟩ = false := fun j => by simp [World.frozen?, hM5]
      have HM5 := Lib.hid hM5
      have HZ5 := Lib.hid hZ5
      have hMR : ¬ M = w.heap.size := by omega
      have hRM : ¬ w.heap.size = M := by omega
      have hwM : w.heap.size ≤ M := by omega
      clear hM5 hZ5
      rcases HR.out with rfl | ⟨ee, rfl⟩
      · have fz : ∀ j, w5.frozen? ⟨w.heap.size, j, none⟩ = false := fun j => by simp [World.frozen?, HZ5.out]
        have z0 : w5.cell? ⟨w.heap.size, 0, none⟩ = some (.int .i64 0) := by rw [cell_of_row _ _ _ _ _ _ HZ5.out]; rfl
        have z1 : w5.cell? ⟨w.heap.size, 1, none⟩ = some (.int .i64 0) := by rw [cell_of_row _ _ _ _ _ _ HZ5.out]; rfl
        have z2 : w5.cell? ⟨w.heap.size, 2, none⟩ = some (.string ⟨#[]⟩) := by rw [cell_of_row _ _ _ _ _ _ HZ5.out]; rfl
        have z3 : w5.cell? ⟨w.heap.size, 3, none⟩ = some (.int .i64 0) := by rw [cell_of_row _ _ _ _ _ _ HZ5.out]; rfl
        have z4 : w5.cell? ⟨w.heap.size, 4, none⟩ = some (.string ⟨#[]⟩) := by rw [cell_of_row _ _ _ _ _ _ HZ5.out]; rfl
        rcases HX1.out with ⟨rfl, hx⟩ | ⟨⟨tp, pp, rfl⟩, hx⟩ <;> rcases HY1.out with ⟨rfl, hy⟩ | ⟨⟨tq, pq, rfl⟩, hy⟩
        · have HN := Lib.hid (show lineW [a, b, c1, d] = some ⟨kindW a, i, d, t, []⟩ by simp only [lineW, hx, hy])
          go_wp2_with fail
          go_region
          all_goals
            go_wp2_with fail
            refine bodyPost_ret (v := .tuple #[.agg (encM ⟨kindW a, i, d, t, []⟩).toArray, .bool true]) (by simp [results, Tryz.results38, go_sem, z0, z1, z2, z3, z4, encM]; try rfl) rfl ?_
            exact ⟨⟨_, _, rfl, .inl ⟨rfl, HN.out⟩⟩, (((((((hbw5.setCell (p := ⟨M, 1, none⟩) hwM _).setCell (p := ⟨M, 3, none⟩) hwM _).setCell (p := ⟨w.heap.size, 0, none⟩) (Nat.le_refl _) _).setCell (p := ⟨w.heap.size, 1, none⟩) (Nat.le_refl _) _).setCell (p := ⟨w.heap.size, 2, none⟩) (Nat.le_refl _) _).setCell (p := ⟨w.heap.size, 3, none⟩) (Nat.le_refl _) _).setCell (p := ⟨w.heap.size, 4, none⟩) (Nat.le_refl _) _).drew⟩
        · have HN := Lib.hid (show lineW [a, b, c1, d] = none by simp only [lineW, hx, hy])
          go_wp2_with fail
          go_region
          all_goals
            go_wp2_with fail
            refine bodyPost_ret (v := .tuple #[.agg (encM ⟨kindW a, i, d, t, []⟩).toArray, .bool false]) (by simp [results, Tryz.results38, go_sem, z0, z1, z2, z3, z4, encM]; try rfl) rfl ?_
            exact ⟨⟨_, _, rfl, .inr ⟨rfl, HN.out⟩⟩, (((((((hbw5.setCell (p := ⟨M, 1, none⟩) hwM _).setCell (p := ⟨M, 3, none⟩) hwM _).setCell (p := ⟨w.heap.size, 0, none⟩) (Nat.le_refl _) _).setCell (p := ⟨w.heap.size, 1, none⟩) (Nat.le_refl _) _).setCell (p := ⟨w.heap.size, 2, none⟩) (Nat.le_refl _) _).setCell (p := ⟨w.heap.size, 3, none⟩) (Nat.le_refl _) _).setCell (p := ⟨w.heap.size, 4, none⟩) (Nat.le_refl _) _).drew⟩
        · have HN := Lib.hid (show lineW [a, b, c1, d] = none by simp only [lineW, hx, hy])
          go_wp2_with fail
          go_region
          all_goals
            go_wp2_with fail
            refine bodyPost_ret (v := .tuple #[.agg (encM ⟨kindW a, i, d, t, []⟩).toArray, .bool false]) (by simp [results, Tryz.results38, go_sem, z0, z1, z2, z3, z4, encM]; try rfl) rfl ?_
            exact ⟨⟨_, _, rfl, .inr ⟨rfl, HN.out⟩⟩, (((((((hbw5.setCell (p := ⟨M, 1, none⟩) hwM _).setCell (p := ⟨M, 3, none⟩) hwM _).setCell (p := ⟨w.heap.size, 0, none⟩) (Nat.le_refl _) _).setCell (p := ⟨w.heap.size, 1, none⟩) (Nat.le_refl _) _).setCell (p := ⟨w.heap.size, 2, none⟩) (Nat.le_refl _) _).setCell (p := ⟨w.heap.size, 3, none⟩) (Nat.le_refl _) _).setCell (p := ⟨w.heap.size, 4, none⟩) (Nat.le_refl _) _).drew⟩
        · have HN := Lib.hid (show lineW [a, b, c1, d] = none by simp only [lineW, hx, hy])
          go_wp2_with fail
          go_region
          all_goals
            go_wp2_with fail
            refine bodyPost_ret (v := .tuple #[.agg (encM ⟨kindW a, i, d, t, []⟩).toArray, .bool false]) (by simp [results, Tryz.results38, go_sem, z0, z1, z2, z3, z4, encM]; try rfl) rfl ?_
            exact ⟨⟨_, _, rfl, .inr ⟨rfl, HN.out⟩⟩, (((((((hbw5.setCell (p := ⟨M, 1, none⟩) hwM _).setCell (p := ⟨M, 3, none⟩) hwM _).setCell (p := ⟨w.heap.size, 0, none⟩) (Nat.le_refl _) _).setCell (p := ⟨w.heap.size, 1, none⟩) (Nat.le_refl _) _).setCell (p := ⟨w.heap.size, 2, none⟩) (Nat.le_refl _) _).setCell (p := ⟨w.heap.size, 3, none⟩) (Nat.le_refl _) _).setCell (p := ⟨w.heap.size, 4, none⟩) (Nat.le_refl _) _).drew⟩
      · have he5 := HQ5.out ee rfl
        have hel := HE1.out ee rfl
        have D := fun w => Decode_any 4 (bs ee) w (by rw [size_bs]; omega)
        unfold DdPost at D
        rw [bl_bs] at D
        have HD := Lib.hid D; clear D
        have HT := Lib.hid (textF_cases ee)
        obtain ⟨E, hE⟩ : ∃ E, decErr 4 ee = E := ⟨_, rfl⟩
        obtain ⟨O, hO⟩ : ∃ O, decOut 4 ee = O := ⟨_, rfl⟩
        rw [hE, hO] at HT HD
        clear hE hO
        go_wp2_with fail
        refine (HD.out _).mono ?_
        rintro e w6 ⟨v6, rfl, hv6, hb6⟩
        obtain ⟨A6, n6, c6, rfl⟩ := hv6.form_
        have hcv := hv6.conv (P := Tryz.prog) (T := 30) (d := 9) Tryz.underlying30 Tryz.underlying5 Tryz.underlying9
        have hbw6 := ((hbw5.setCell (p := ⟨M, 1, none⟩) hwM (.int .i64 i)).setCell (p := ⟨M, 3, none⟩) hwM (.int .i64 t)).trans (hb6.mono (by have h1 := hbw5.size; simpa using h1))
        have hM6 : w6.heap[M]? = some (.cells #[Value.int .i64 (kindW a), Value.int .i64 i, Value.string (bs d), Value.int .i64 t, Value.string ⟨#[]⟩] 28 (0, 0)) := by
          rw [hb6.block M (by simp; omega)]
          simp [World.setCell, Array.getElem?_modify, HM5.out]
        have hZ6 : w6.heap[w.heap.size]? = _ := (hb6.block w.heap.size (by simp; omega)).trans ((Below.heap_setCell _ _ _ _ hRM).trans ((Below.heap_setCell _ _ _ _ hRM).trans HZ5.out))
        have m0' : w6.cell? ⟨M, 0, none⟩ = some (.int .i64 (kindW a)) := by rw [cell_of_row _ _ _ _ _ _ hM6]; rfl
        have m1' : w6.cell? ⟨M, 1, none⟩ = some (.int .i64 i) := by rw [cell_of_row _ _ _ _ _ _ hM6]; rfl
        have m2' : w6.cell? ⟨M, 2, none⟩ = some (.string (bs d)) := by rw [cell_of_row _ _ _ _ _ _ hM6]; rfl
        have m3' : w6.cell? ⟨M, 3, none⟩ = some (.int .i64 t) := by rw [cell_of_row _ _ _ _ _ _ hM6]; rfl
        have m4' : w6.cell? ⟨M, 4, none⟩ = some (.string ⟨#[]⟩) := by rw [cell_of_row _ _ _ _ _ _ hM6]; rfl
        have fm' : ∀ j, w6.frozen? ⟨M, j, none⟩ = false := fun j => by simp [World.frozen?, hM6]
        have fz : ∀ j, w6.frozen? ⟨w.heap.size, j, none⟩ = false := fun j => by simp [World.frozen?, hZ6]
        have z0 : w6.cell? ⟨w.heap.size, 0, none⟩ = some (.int .i64 0) := by rw [cell_of_row _ _ _ _ _ _ hZ6]; rfl
        have z1 : w6.cell? ⟨w.heap.size, 1, none⟩ = some (.int .i64 0) := by rw [cell_of_row _ _ _ _ _ _ hZ6]; rfl
        have z2 : w6.cell? ⟨w.heap.size, 2, none⟩ = some (.string ⟨#[]⟩) := by rw [cell_of_row _ _ _ _ _ _ hZ6]; rfl
        have z3 : w6.cell? ⟨w.heap.size, 3, none⟩ = some (.int .i64 0) := by rw [cell_of_row _ _ _ _ _ _ hZ6]; rfl
        have z4 : w6.cell? ⟨w.heap.size, 4, none⟩ = some (.string ⟨#[]⟩) := by rw [cell_of_row _ _ _ _ _ _ hZ6]; rfl
        clear hM6 hZ6 HM5 HZ5 m0 m1 m2 m3 m4 fm hv6 hb6 hbw5 hMz5
        rcases HX1.out with ⟨rfl, hx⟩ | ⟨⟨tp, pp, rfl⟩, hx⟩ <;> rcases HY1.out with ⟨rfl, hy⟩ | ⟨⟨tq, pq, rfl⟩, hy⟩ <;> rcases HT.out with ⟨rfl, ht⟩ | ⟨hE, ht⟩
        · have HN := Lib.hid (show lineW [a, b, c1, d, ee] = some ⟨kindW a, i, d, t, O⟩ by simp only [lineW, hx, hy, ht])
          clear HT HX1 HY1 hx hy ht
          go_wp2_with fail
          go_region
          all_goals
            go_wp2_with fail
            refine bodyPost_ret (v := .tuple #[.agg (encM ⟨kindW a, i, d, t, O⟩).toArray, .bool true]) (by simp [results, Tryz.results38, go_sem, z0, z1, z2, z3, z4, encM]; try rfl) rfl ?_
            exact ⟨⟨_, _, rfl, .inl ⟨rfl, HN.out⟩⟩, ((((((hbw6.setCell (p := ⟨M, 4, none⟩) hwM _).setCell (p := ⟨w.heap.size, 0, none⟩) (Nat.le_refl _) _).setCell (p := ⟨w.heap.size, 1, none⟩) (Nat.le_refl _) _).setCell (p := ⟨w.heap.size, 2, none⟩) (Nat.le_refl _) _).setCell (p := ⟨w.heap.size, 3, none⟩) (Nat.le_refl _) _).setCell (p := ⟨w.heap.size, 4, none⟩) (Nat.le_refl _) _).drew⟩
        · have HN := Lib.hid (show lineW [a, b, c1, d, ee] = none by simp only [lineW, hx, hy, ht])
          clear HT HX1 HY1 hx hy ht
          go_wp2_with fail
          go_region
          all_goals
            go_wp2_with fail
            refine bodyPost_ret (v := .tuple #[.agg (encM ⟨kindW a, i, d, t, O⟩).toArray, .bool false]) (by simp [results, Tryz.results38, go_sem, z0, z1, z2, z3, z4, encM]; try rfl) rfl ?_
            exact ⟨⟨_, _, rfl, .inr ⟨rfl, HN.out⟩⟩, ((((((hbw6.setCell (p := ⟨M, 4, none⟩) hwM _).setCell (p := ⟨w.heap.size, 0, none⟩) (Nat.le_refl _) _).setCell (p := ⟨w.heap.size, 1, none⟩) (Nat.le_refl _) _).setCell (p := ⟨w.heap.size, 2, none⟩) (Nat.le_refl _) _).setCell (p := ⟨w.heap.size, 3, none⟩) (Nat.le_refl _) _).setCell (p := ⟨w.heap.size, 4, none⟩) (Nat.le_refl _) _).drew⟩
        · have HN := Lib.hid (show lineW [a, b, c1, d, ee] = none by simp only [lineW, hx, hy, ht])
          clear HT HX1 HY1 hx hy ht
          go_wp2_with fail
          go_region
          all_goals
            go_wp2_with fail
            refine bodyPost_ret (v := .tuple #[.agg (encM ⟨kindW a, i, d, t, O⟩).toArray, .bool false]) (by simp [results, Tryz.results38, go_sem, z0, z1, z2, z3, z4, encM]; try rfl) rfl ?_
            exact ⟨⟨_, _, rfl, .inr ⟨rfl, HN.out⟩⟩, ((((((hbw6.setCell (p := ⟨M, 4, none⟩) hwM _).setCell (p := ⟨w.heap.size, 0, none⟩) (Nat.le_refl _) _).setCell (p := ⟨w.heap.size, 1, none⟩) (Nat.le_refl _) _).setCell (p := ⟨w.heap.size, 2, none⟩) (Nat.le_refl _) _).setCell (p := ⟨w.heap.size, 3, none⟩) (Nat.le_refl _) _).setCell (p := ⟨w.heap.size, 4, none⟩) (Nat.le_refl _) _).drew⟩
        · have HN := Lib.hid (show lineW [a, b, c1, d, ee] = none by simp only [lineW, hx, hy, ht])
          clear HT HX1 HY1 hx hy ht
          go_wp2_with fail
          go_region
          all_goals
            go_wp2_with fail
            refine bodyPost_ret (v := .tuple #[.agg (encM ⟨kindW a, i, d, t, O⟩).toArray, .bool false]) (by simp [results, Tryz.results38, go_sem, z0, z1, z2, z3, z4, encM]; try rfl) rfl ?_
            exact ⟨⟨_, _, rfl, .inr ⟨rfl, HN.out⟩⟩, ((((((hbw6.setCell (p := ⟨M, 4, none⟩) hwM _).setCell (p := ⟨w.heap.size, 0, none⟩) (Nat.le_refl _) _).setCell (p := ⟨w.heap.size, 1, none⟩) (Nat.le_refl _) _).setCell (p := ⟨w.heap.size, 2, none⟩) (Nat.le_refl _) _).setCell (p := ⟨w.heap.size, 3, none⟩) (Nat.le_refl _) _).setCell (p := ⟨w.heap.size, 4, none⟩) (Nat.le_refl _) _).drew⟩
        · have HN := Lib.hid (show lineW [a, b, c1, d, ee] = none by simp only [lineW, hx, hy, ht])
          clear HT HX1 HY1 hx hy ht
          go_wp2_with fail
          go_region
          all_goals
            go_wp2_with fail
            refine bodyPost_ret (v := .tuple #[.agg (encM ⟨kindW a, i, d, t, O⟩).toArray, .bool false]) (by simp [results, Tryz.results38, go_sem, z0, z1, z2, z3, z4, encM]; try rfl) rfl ?_
            exact ⟨⟨_, _, rfl, .inr ⟨rfl, HN.out⟩⟩, ((((((hbw6.setCell (p := ⟨M, 4, none⟩) hwM _).setCell (p := ⟨w.heap.size, 0, none⟩) (Nat.le_refl _) _).setCell (p := ⟨w.heap.size, 1, none⟩) (Nat.le_refl _) _).setCell (p := ⟨w.heap.size, 2, none⟩) (Nat.le_refl _) _).setCell (p := ⟨w.heap.size, 3, none⟩) (Nat.le_refl _) _).setCell (p := ⟨w.heap.size, 4, none⟩) (Nat.le_refl _) _).drew⟩
        · have HN := Lib.hid (show lineW [a, b, c1, d, ee] = none by simp only [lineW, hx, hy, ht])
          clear HT HX1 HY1 hx hy ht
          go_wp2_with fail
          go_region
          all_goals
            go_wp2_with fail
            refine bodyPost_ret (v := .tuple #[.agg (encM ⟨kindW a, i, d, t, O⟩).toArray, .bool false]) (by simp [results, Tryz.results38, go_sem, z0, z1, z2, z3, z4, encM]; try rfl) rfl ?_
            exact ⟨⟨_, _, rfl, .inr ⟨rfl, HN.out⟩⟩, ((((((hbw6.setCell (p := ⟨M, 4, none⟩) hwM _).setCell (p := ⟨w.heap.size, 0, none⟩) (Nat.le_refl _) _).setCell (p := ⟨w.heap.size, 1, none⟩) (Nat.le_refl _) _).setCell (p := ⟨w.heap.size, 2, none⟩) (Nat.le_refl _) _).setCell (p := ⟨w.heap.size, 3, none⟩) (Nat.le_refl _) _).setCell (p := ⟨w.heap.size, 4, none⟩) (Nat.le_refl _) _).drew⟩
        · have HN := Lib.hid (show lineW [a, b, c1, d, ee] = none by simp only [lineW, hx, hy, ht])
          clear HT HX1 HY1 hx hy ht
          go_wp2_with fail
          go_region
          all_goals
            go_wp2_with fail
            refine bodyPost_ret (v := .tuple #[.agg (encM ⟨kindW a, i, d, t, O⟩).toArray, .bool false]) (by simp [results, Tryz.results38, go_sem, z0, z1, z2, z3, z4, encM]; try rfl) rfl ?_
            exact ⟨⟨_, _, rfl, .inr ⟨rfl, HN.out⟩⟩, ((((((hbw6.setCell (p := ⟨M, 4, none⟩) hwM _).setCell (p := ⟨w.heap.size, 0, none⟩) (Nat.le_refl _) _).setCell (p := ⟨w.heap.size, 1, none⟩) (Nat.le_refl _) _).setCell (p := ⟨w.heap.size, 2, none⟩) (Nat.le_refl _) _).setCell (p := ⟨w.heap.size, 3, none⟩) (Nat.le_refl _) _).setCell (p := ⟨w.heap.size, 4, none⟩) (Nat.le_refl _) _).drew⟩
        · have HN := Lib.hid (show lineW [a, b, c1, d, ee] = none by simp only [lineW, hx, hy, ht])
          clear HT HX1 HY1 hx hy ht
          go_wp2_with fail
          go_region
          all_goals
            go_wp2_with fail
            refine bodyPost_ret (v := .tuple #[.agg (encM ⟨kindW a, i, d, t, O⟩).toArray, .bool false]) (by simp [results, Tryz.results38, go_sem, z0, z1, z2, z3, z4, encM]; try rfl) rfl ?_
            exact ⟨⟨_, _, rfl, .inr ⟨rfl, HN.out⟩⟩, ((((((hbw6.setCell (p := ⟨M, 4, none⟩) hwM _).setCell (p := ⟨w.heap.size, 0, none⟩) (Nat.le_refl _) _).setCell (p := ⟨w.heap.size, 1, none⟩) (Nat.le_refl _) _).setCell (p := ⟨w.heap.size, 2, none⟩) (Nat.le_refl _) _).setCell (p := ⟨w.heap.size, 3, none⟩) (Nat.le_refl _) _).setCell (p := ⟨w.heap.size, 4, none⟩) (Nat.le_refl _) _).drew⟩
end Go.Proofs.YthmpcdjhighhgaaGreatDoor
