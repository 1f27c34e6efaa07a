/- Walks: the lines of messages, by the code. Conditions: the messages are right one by one, not too many; the library's variables read as laid. · The code's check of messages. · The reference's check of messages. · Walks: Format of the code. · The chapter's example: the plain law. · What the law looks at. -/
import Derived.Deep.RegionHeld3
import Derived.Deep.CutRange
import Derived.Test.YtklnakjmiljmhaaGreatDoorY20
import Derived.Test.YtklnakjmiljmhaaGreatDoorY19
import Derived.Test.YtklnakjmiljmhaaGreatDoorY22
import Derived.Test.YtklnakjmiljmhaaGreatDoorY21
import Derived.Test.YtklnakjmiljmhaaGreatDoorY01
namespace Go.Proofs.YtklnakjmiljmhaaGreatDoor
set_option linter.unusedVariables false
set_option linter.unusedSimpArgs false
set_option maxRecDepth 100000
open Go.RowKit
theorem line_join4 (ni nt : Nat) (who tx : List UInt8) : lineM ⟨3, ni, who, nt, tx⟩ = joinW [wordM 3, Lib.decDigits ni, Lib.decDigits nt, who] := by
  simp [lineM, joinW, Lib.join, List.intercalate, tailM, numL]
theorem line_join5 (kd : Int) (hk : kd ≠ 3) (ni nt : Nat) (who tx : List UInt8) : lineM ⟨kd, ni, who, nt, tx⟩ = joinW [wordM kd, Lib.decDigits ni, Lib.decDigits nt, who, encF escE tx] := by
  simp [lineM, joinW, Lib.join, List.intercalate, tailM, numL, hk]
theorem wordM_len (k : Int) : (wordM k).length ≤ 6 := by
  unfold wordM; split
  · simp
  · split <;> simp
theorem line_len (kd : Int) (ni nt : Nat) (who tx : List UInt8) (h1 : ni < 10000000000) (h2 : nt < 10000000000000) (h3 : who.length ≤ 40) (h4 : tx.length ≤ 65536) : (lineM ⟨kd, ni, who, nt, tx⟩).length ≤ 262300 := by
  have e1 := wordM_len kd
  have e2 := dec_len ni 10 (by omega)
  have e3 := dec_len nt 13 (by omega)
  have e4 := encEsc_len tx
  unfold lineM tailM numL
  simp only [Int.toNat_natCast]
  split <;> (simp; omega)
/-- What a slice of words in memory is. -/
theorem ownW {w : World} {e g B : Nat} {cs : List Value} (h : w.heap[g]? = some (.cells cs.toArray e (0, 0))) (hB : B ≤ g) (hc : cs.length ≤ 100) : w.ownsRow B e 1 (.slice (some ⟨g, 0, none⟩) cs.length cs.length) cs.length cs :=
  ⟨by simp, .inr ⟨g, cs.length, cs.toArray, rfl, hB, h, Nat.le_refl _, by unfold maxLen; omega, by simp, by simp⟩⟩
def strsV (ws : List (List UInt8)) : List Value := ws.map fun x => .string (bs x)
theorem join_own {w : World} {B e g c n : Nat} (ws : List (List UInt8)) (h : w.ownsRow B e 1 (.slice (some ⟨g, 0, none⟩) n c) n (strsV ws)) (hn : n = ws.length) (h100 : n ≤ 100) (hlen : (joinW ws).length ≤ 1000000000) :
    Calls Tryz.prog 68 #[.slice (some ⟨g, 0, none⟩) n c, .string ⟨#[32]⟩] w fun e w' => e = .returned (.string (bs (joinW ws))) ∧ Below w.heap.size w w' := by
  subst hn
  obtain ⟨-, ⟨h1, -⟩ | ⟨g', cap, cur, h1, -, hg, hle, -, -, -⟩⟩ := id h
  · cases h1
  · injection h1 with e1 e2 e3
    injection e1 with e1
    injection e1 with e1
    subst e1 e3
    refine join_any g c ws.length ws w rfl (fun j hj => ?_) (Array.getElem?_eq_some_iff.1 hg).1 hle h100 hlen
    have := World.ownsRow.cellAt h j (by simpa using hj)
    rw [this]
    unfold strsV
    rw [List.getElem?_map, List.getElem?_eq_getElem hj]; rfl
theorem strsV_len (ws : List (List UInt8)) : (strsV ws).length = ws.length := by simp [strsV]
theorem strsV_one (ws : List (List UInt8)) : ∀ u ∈ strsV ws, u.oneCell' = true := by
  intro u hu; unfold strsV at hu; obtain ⟨c, -, rfl⟩ := List.mem_map.1 hu; rfl
theorem strsV_app (a b : List (List UInt8)) : strsV (a ++ b) = strsV a ++ strsV b := by simp [strsV]
theorem set_row {w : World} {G e : Nat} {cs : Array Value} {m : Nat × Nat} (h : w.heap[G]? = some (.cells cs e m)) (v : Value) : (w.setCell ⟨G, 0, none⟩ v).heap[G]? = some (.cells (cs.setIfInBounds 0 v) e m) := by
  simp [World.setCell, Array.getElem?_modify, h]
theorem line_end (x : List UInt8) : bs x ++ ⟨#[10]⟩ = bs (x ++ [10]) := by show bs x ++ bs [10] = _; rw [cat_bs, bl_bs]
theorem own_later {w w' : World} {B e n k B2 : Nat} {v : Value} {xs : List Value} (h : w.ownsRow B e k v n xs) (hb : Below B2 w w') (hB : B2 = w.heap.size) : w'.ownsRow B e k v n xs := by
  subst hB
  refine ⟨h.1, ?_⟩
  rcases h.2 with q | ⟨g, cap, cur, q1, q2, q3, rest⟩
  · exact .inl q
  · exact .inr ⟨g, cap, cur, q1, q2, (hb.block g (Array.getElem?_eq_some_iff.1 q3).1).trans q3, rest⟩
theorem below_two {W1 wA wB : World} (hA : Below W1.drew.heap.size W1.drew wA) (hB : Below wA.heap.size wA wB) : Below W1.heap.size W1 wB := (below_of_drew hA).trans (hB.mono hA.size)
set_option maxHeartbeats 4000000 in
theorem write_any (v : Value) (l : List Ms) (w : World) (h : MC v l w) (hs : ∀ m ∈ l, wrongM m = false ∧ lateM m = false) (hn : l.length ≤ 300) (hz : sizeF l ≤ 65536) (hv : VrOK w) :
    Calls Tryz.prog 34 #[v] w fun e w' => ∃ u, e = .returned u ∧ OB 5 w.heap.size u (fmtM l) w' ∧ Below w.heap.size w w' := by
  obtain ⟨i0, hi, hz0, hz1, hz2⟩ := info_parts info_str
  have HV := Lib.hid hv; clear hv
  have HZ := Lib.hid hz; clear hz
  have HS := Lib.hid hs; clear hs
  obtain ⟨A, c, rfl, hc, hcell⟩ := h
  have HC := Lib.hid hcell; clear hcell
  go_enter Tryz.func34, Tryz.ntmps34
  go_wp2
  go_loopw [11] (fun i wr => ∃ (k : Nat) (o : List UInt8), k ≤ l.length ∧ i = .int .i64 (k : Int) ∧ BufC w.heap.size w.heap.size o wr ∧ Below w.heap.size w wr ∧ o.length ≤ k * 300000 ∧ Hid (o ++ fmtM (l.drop k) = fmtM l)) (fun i _ => l.length - (intOf i).toNat)
  case atStart => exact ⟨0, [], by omega, rfl, BufC.fresh w, (Below.refl _ w).alloc (Nat.le_refl _) _, by simp, rfl⟩
  case round =>
    obtain ⟨k, o, hk, rfl, hbuf, hbel, ho, HR⟩ := hrel
    by_cases hlt : k < l.length
    · have hd : decide ((k : Int) < (l.length : Int)) = true := decide_eq_true (by omega)
      have hdn : decide (k < l.length) = true := decide_eq_true hlt
      obtain ⟨g, ff, rfl, hg, hcs⟩ := HC.out.resolve_left (by intro e; rw [e] at hlt; simp at hlt)
      obtain ⟨a0, a1, a2, a3, a4⟩ := (hcs k hlt).later (hbel.block g hg)
      clear hcs
      have HD := Lib.hid (show o ++ (lineM l[k] ++ 10 :: fmtM (l.drop (k + 1))) = fmtM l by rw [← HR.out, List.drop_eq_getElem_cons hlt]; rfl)
      have hm := HS.out l[k] (List.getElem_mem hlt)
      have htl : l[k].text.length ≤ 65536 := by have h1 := sizeF_mem (List.getElem_mem hlt); have h2 := HZ.out; omega
      obtain ⟨⟨kd, id, who, tm, tx⟩, hmm⟩ : ∃ m, l[k] = m := ⟨_, rfl⟩
      rw [hmm] at a0 a1 a2 a3 a4 HD hm htl
      clear hmm
      obtain ⟨k1, k3, i1, i2, -, -, hw2, -⟩ := wrongM_no hm.1
      obtain ⟨t1, t2⟩ := lateM_no hm.2
      clear hm
      dsimp only at a0 a1 a2 a3 a4 htl k1 k3 i1 i2 hw2 t1 t2
      obtain ⟨ni, rfl⟩ := Int.eq_ofNat_of_zero_le (show 0 ≤ id by omega)
      obtain ⟨nt, rfl⟩ := Int.eq_ofNat_of_zero_le t1
      have HL := Lib.hid (line_len kd ni nt who tx (by omega) (by omega) hw2 htl)
      have I1 := Lib.hid (fun w' hv' => itoa_any ni (by omega) w' hv')
      have I2 := Lib.hid (fun w' hv' => itoa_any nt (by omega) w' hv')
      have HB1 := Lib.hid (And.intro i1 (And.intro i2 (And.intro t1 (And.intro t2 (And.intro hw2 htl)))))
      clear i1 i2 t1 t2 hw2 htl
      obtain ⟨W1, hW1⟩ : ∃ W, wr.alloc (Obj.cells #[Value.int IntKind.i64 kd, Value.int IntKind.i64 (ni : Int), Value.string (bs who), Value.int IntKind.i64 (nt : Int), Value.string (bs tx)] 43) = W := ⟨_, rfl⟩
      have hM : MCell W1 wr.heap.size 0 ⟨kd, ni, who, nt, tx⟩ := by
        rw [← hW1]; refine ⟨?_, ?_, ?_, ?_, ?_⟩ <;> (rw [World.cell?_alloc_mark]; rfl)
      have hb1 : Below wr.heap.size wr W1 := by rw [← hW1]; exact (Below.refl _ _).alloc (Nat.le_refl _) _
      have hz1w : W1.heap.size = wr.heap.size + 1 := by rw [← hW1]; simp
      have HF := Lib.hid (fun w' (hb : Below wr.heap.size wr w') => show BufC w.heap.size w.heap.size o w' ∧ Below w.heap.size w w' ∧ VrOK w' from ⟨hbuf.below hb, hbel.trans (hb.mono hbel.size), HV.out.later (hbel.trans (hb.mono hbel.size))⟩)
      have HX := Lib.hid (And.intro hM (And.intro hz1w (And.intro hb1 hbel.size)))
      have HW1 := Lib.hid hW1
      clear hM hb1 hz1w hW1
      go_upto_region 5 with fail
      rw [HW1.out]
      obtain ⟨⟨m0, m1, m2, m3, m4⟩, hz1w, hb1, hsw⟩ := HX.out
      have HVW := (HF.out _ hb1).2.2
      dsimp only at m0 m1 m2 m3 m4
      simp only [Nat.zero_add] at m1 m2 m3 m4
      clear HX HW1 a0 a1 a2 a3 a4 hbuf hbel hg
      obtain ⟨M, hM⟩ : ∃ M, wr.heap.size = M := ⟨_, rfl⟩
      rw [hM] at HF hb1 hz1w hsw m0 m1 m2 m3 m4 ⊢
      have HM := Lib.hid hM; clear hM
      go_cut [6, 11] from 12 to 52 (fun s i wx => i = .int .i64 (k : Int) ∧ ∃ G, s = .slice (some ⟨G, 0, none⟩) 4 4 ∧ wx.heap[G]? = some (.cells #[.string (bs (wordM 1)), .string (bs (Lib.decDigits ni)), .string (bs (Lib.decDigits nt)), .string (bs who)] 9 (0, 0)) ∧ M < G ∧ G < wx.heap.size ∧ Below W1.heap.size W1 wx)
      case first =>
        have HK := Lib.hid (fun w' (hb : Below W1.heap.size W1 w') => show w'.cell? ⟨M, 1, none⟩ = some (.int .i64 (ni : Int)) ∧ w'.cell? ⟨M, 3, none⟩ = some (.int .i64 (nt : Int)) ∧ w'.cell? ⟨M, 2, none⟩ = some (.string (bs who)) ∧ VrOK w' from
          ⟨(hb.cell (p := ⟨M, 1, none⟩) (by dsimp only; omega)).trans m1, (hb.cell (p := ⟨M, 3, none⟩) (by dsimp only; omega)).trans m3, (hb.cell (p := ⟨M, 2, none⟩) (by dsimp only; omega)).trans m2, HVW.later hb⟩)
        go_region_held3 (fun w' => w'.cell? ⟨M, 1, none⟩ = some (.int .i64 (ni : Int)) ∧ w'.cell? ⟨M, 3, none⟩ = some (.int .i64 (nt : Int)) ∧ w'.cell? ⟨M, 2, none⟩ = some (.string (bs who)) ∧ VrOK w')
          (first | exact HK.out _ (Below.refl _ _).drew | exact HK.out _ (below_of_drew hbA) | exact HK.out _ (below_two hbA hbB) | exact HK.out _ ((below_two hbA hbB).alloc (below_two hbA hbB).size _))
          ((go_at_call 65; (first
            | ((with_reducible show Calls _ _ #[Value.int IntKind.i64 (ni : Int)] _ _); refine (I1.out _ (by first | exact HVW.later (Below.refl _ _).drew | exact HVW.later (below_of_drew hbA))).mono ?_; rintro e wA ⟨rfl, hbA⟩)
            | ((with_reducible show Calls _ _ #[Value.int IntKind.i64 (nt : Int)] _ _); refine (I2.out _ (by first | exact HVW.later (Below.refl _ _).drew | exact HVW.later (below_of_drew hbA))).mono ?_; rintro e wB ⟨rfl, hbB⟩))))
        all_goals
          go_wp2_with fail
          go_meet
          exact ⟨rfl, wB.heap.size, rfl, heap_alloc_new _ _, by have h1 := (below_two hbA hbB).size; omega, by simp, (below_two hbA hbB).alloc (below_two hbA hbB).size _⟩
      case rest =>
        obtain ⟨rfl, G, rfl, hG, hMG, hGs, hbx⟩ := hcut
        obtain ⟨W2, hW2⟩ : ∃ W2 : World, W2 = wc := ⟨_, rfl⟩
        rw [← hW2] at hG hGs hbx ⊢
        clear hW2
        have x0 := (hbx.cell (p := ⟨M, 0, none⟩) (by dsimp only; omega)).trans m0
        have x4 := (hbx.cell (p := ⟨M, 4, none⟩) (by dsimp only; omega)).trans m4
        have hb2 := hb1.trans (hbx.mono (by omega))
        have g0 : W2.cell? ⟨G, 0, none⟩ = some (.string (bs (wordM 1))) := by rw [cell_of_row _ _ _ _ _ _ hG]; rfl
        have gf : W2.frozen? ⟨G, 0, none⟩ = false := by simp [World.frozen?, hG]
        have hne : ¬ M = G := by omega
        have hne2 : ¬ G = M := by omega
        have HG := Lib.hid hG
        have HB2 := Lib.hid hb2
        have HK := Lib.hid (show ∀ j : List UInt8, lineM ⟨kd, ni, who, nt, tx⟩ = j → j.length ≤ 262300 from fun j hj => by rw [← hj]; exact HL.out)
        have hzz := hb2.size
        clear m0 m1 m2 m3 m4 HVW I1 I2 hb2 hb1 hbx
        apply_assumption
        refine wp_seq_k ?_
        intro K0 hK0
        go_cut [6, 11] from 12 to 52 (fun s i wx => i = .int .i64 (k : Int) ∧ s = .slice (some ⟨G, 0, none⟩) 4 4 ∧ Below M wr wx ∧ wx.heap[G]? = some (.cells (strsV [wordM kd, Lib.decDigits ni, Lib.decDigits nt, who]).toArray 9 (0, 0)) ∧ wx.cell? ⟨M, 0, none⟩ = some (.int .i64 kd) ∧ wx.cell? ⟨M, 4, none⟩ = some (.string (bs tx)))
        case first =>
          have hkd : kd = 1 ∨ kd = 2 ∨ kd = 3 := by omega
          rcases hkd with rfl | rfl | rfl
          · go_wp2_with fail
            go_meet
            exact ⟨rfl, rfl, HB2.out, HG.out, x0, x4⟩
          · go_wp2_with fail
            go_meet
            exact ⟨rfl, rfl, HB2.out.setCell (p := ⟨G, 0, none⟩) (by dsimp only; omega) _, set_row HG.out _, (World.cell?_of_block (a := ⟨M, 0, none⟩) (Below.heap_setCell _ _ _ _ hne)).trans x0, (World.cell?_of_block (a := ⟨M, 4, none⟩) (Below.heap_setCell _ _ _ _ hne)).trans x4⟩
          · go_wp2_with fail
            go_meet
            exact ⟨rfl, rfl, HB2.out.setCell (p := ⟨G, 0, none⟩) (by dsimp only; omega) _, set_row HG.out _, (World.cell?_of_block (a := ⟨M, 0, none⟩) (Below.heap_setCell _ _ _ _ hne)).trans x0, (World.cell?_of_block (a := ⟨M, 4, none⟩) (Below.heap_setCell _ _ _ _ hne)).trans x4⟩
        case rest =>
          clear x0 x4 g0 gf HG HB2
          obtain ⟨rfl, rfl, hb3, hG, x0, x4⟩ := hcut
          obtain ⟨W3, hW3⟩ : ∃ W3 : World, W3 = wc := ⟨_, rfl⟩
          rw [← hW3] at hb3 hG x0 x4 ⊢
          clear hW3
          have hown : W3.ownsRow M 9 1 (.slice (some ⟨G, 0, none⟩) 4 4) 4 (strsV [wordM kd, Lib.decDigits ni, Lib.decDigits nt, who]) := ownW (cs := strsV [wordM kd, Lib.decDigits ni, Lib.decDigits nt, who]) hG (by omega) (by rw [strsV_len]; simp)
          by_cases e3 : kd = 3
          · subst e3
            have HJ := Lib.hid (line_join4 ni nt who tx)
            have hjl := HK.out _ HJ.out
            have JN := join_own [wordM 3, Lib.decDigits ni, Lib.decDigits nt, who] hown rfl (by decide) (by omega)
            go_wp2_with fail
            refine JN.mono ?_
            rintro e w4 ⟨rfl, hb4⟩
            have hb5 := hb3.trans (hb4.mono (by have h1 := hb3.size; have h2 := HM.out; omega))
            obtain ⟨hbuf4, hbel4, -⟩ := HF.out _ hb5
            obtain ⟨X, hX⟩ : ∃ X, joinW [wordM 3, Lib.decDigits ni, Lib.decDigits nt, who] = X := ⟨_, rfl⟩
            rw [hX] at HJ hjl ⊢
            have HE := Lib.hid (show (o ++ (X ++ [10])) ++ fmtM (l.drop (k + 1)) = fmtM l by rw [← HD.out, HJ.out]; simp)
            have hcl : ¬ 9223372036854775807 < (bs X).size + ByteArray.size ⟨#[10]⟩ := by rw [size_bs]; show ¬ _ < X.length + 1; omega
            have HCT := Lib.hid (line_end X)
            have hXl : (X ++ [10]).length ≤ 262301 := by simp; omega
            clear hX HJ JN hown
            go_wp2_with (go_at_call 67; rw [HCT.out]; refine (bufw_any _ _ _ _ _ hbuf4 (by omega)).mono ?_; rintro e w5 ⟨⟨n, rfl⟩, hbuf5, hb6⟩)
            go_roundw
            case rel => exact ⟨k + 1, o ++ (X ++ [10]), by omega, by go_num, hbuf5, hbel4.trans hb6, by simp only [List.length_append] at hXl ⊢; omega, HE⟩
            case measure => simp [intOf]; omega
          · have d3 : (kd != 3) = true := by simpa using e3
            obtain ⟨-, -, -, -, -, htl⟩ := HB1.out
            have hcv := fun w => Lib.run_convert_string_bytes (P := Tryz.prog) w 9 23 5 (bs tx) Tryz.underlying9 Tryz.underlying23 Tryz.underlying5
            obtain ⟨W4, C4, B4, hW4, hC4, hB4, hrb, hbb4, hsz4⟩ := RB.names W3 5 (bs tx)
            go_wp2_with fail
            rw [← hW4, ← hC4, ← hB4]
            have hbin : BIn W4.heap.size W4 (.slice (some ⟨B4, 0, none⟩) (bs tx).size C4) tx := by
              rw [bl_bs] at hrb
              exact BIn.of_RB hrb (size_bs _) (by rw [hC4]; exact grownCap_ge _ _ _ _)
            have hb4 := hb3.trans (hbb4.mono (by have h1 := hb3.size; have h2 := HM.out; omega))
            have hown4 := own_later hown hbb4 hB4
            refine (Encode_any 4 _ tx _ (by omega) hbin).mono ?_
            rintro e w5 ⟨rfl, hb5⟩
            have hee : encErr 4 tx = 0 := by unfold encErr; rw [if_neg (by decide), if_neg (by omega)]
            have heo : encOut 4 tx = encF escE tx := by unfold encOut; rw [if_neg (by decide), if_neg (by omega)]; rfl
            rw [hee, heo]
            have hb6 := hb4.trans (hb5.mono (by have h1 := hb4.size; have h2 := HM.out; omega))
            have hown5 := own_later hown4 hb5 rfl
            have hM5 : M ≤ w5.heap.size := by have h1 := hb6.size; have h2 := HM.out; omega
            clear hcv hW4 hC4 hB4 hrb hbb4 hsz4 hbin hee heo hown hown4 hb3 hb4 hb5 hG
            go_wp2_with (at_builtin; refine app_new Tryz.underlying55 hi hz0 hz1 hz2 rfl _ _ _ 4 1 1 _ [.string (bs (encF escE tx))] M rfl rfl rfl rfl rfl hown5 (by intro u hu; simp at hu; subst hu; rfl) (by decide) (by decide) hM5 ?_; intro v7 w7 hown7 hb7 _h7)
            have hown8 : w7.ownsRow M 9 1 v7 5 (strsV [wordM kd, Lib.decDigits ni, Lib.decDigits nt, who, encF escE tx]) := hown7
            obtain ⟨g7, c7, rfl⟩ : ∃ g7 c7, v7 = .slice (some ⟨g7, 0, none⟩) 5 c7 := by
              rcases hown8.2 with ⟨-, h0⟩ | ⟨g', cap, cur, h1, -⟩
              · cases h0
              · exact ⟨_, _, h1⟩
            have HJ := Lib.hid (line_join5 kd e3 ni nt who tx)
            have hjl := HK.out _ HJ.out
            have JN := join_own [wordM kd, Lib.decDigits ni, Lib.decDigits nt, who, encF escE tx] hown8 rfl (by decide) (by omega)
            have hb8 := hb6.trans hb7
            clear hown7 hown8 hown5
            refine JN.mono ?_
            rintro e w8 ⟨rfl, hb9⟩
            have hbA := hb8.trans (hb9.mono (by have h1 := hb8.size; have h2 := HM.out; omega))
            obtain ⟨hbuf4, hbel4, -⟩ := HF.out _ hbA
            obtain ⟨X, hX⟩ : ∃ X, joinW [wordM kd, Lib.decDigits ni, Lib.decDigits nt, who, encF escE tx] = X := ⟨_, rfl⟩
            rw [hX] at HJ hjl ⊢
            have HE := Lib.hid (show (o ++ (X ++ [10])) ++ fmtM (l.drop (k + 1)) = fmtM l by rw [← HD.out, HJ.out]; simp)
            have hcl : ¬ 9223372036854775807 < (bs X).size + ByteArray.size ⟨#[10]⟩ := by rw [size_bs]; show ¬ _ < X.length + 1; omega
            have HCT := Lib.hid (line_end X)
            have hXl : (X ++ [10]).length ≤ 262301 := by simp; omega
            clear hX HJ JN
            go_wp2_with (go_at_call 67; rw [HCT.out]; refine (bufw_any _ _ _ _ _ hbuf4 (by omega)).mono ?_; rintro e w9 ⟨⟨n, rfl⟩, hbuf5, hb6⟩)
            go_roundw
            case rel => exact ⟨k + 1, o ++ (X ++ [10]), by omega, by go_num, hbuf5, hbel4.trans hb6, by simp only [List.length_append] at hXl ⊢; omega, HE⟩
            case measure => simp [intOf]; omega
    · obtain rfl : k = l.length := by omega
      have hd : decide ((l.length : Int) < (l.length : Int)) = false := decide_eq_false (by omega)
      have hdn : decide (l.length < l.length) = false := decide_eq_false (by omega)
      have HE := Lib.hid (show o = fmtM l by rw [← HR.out, List.drop_length]; simp [fmtM])
      go_wp2_with (go_at_call 69; refine (bufb_any _ _ _ _ hbuf).mono ?_; rintro e w1 ⟨u, rfl, hu, hb1⟩)
      go_ret
      exact ⟨_, rfl, HE.out ▸ hu, hbel.trans (hb1.mono hbel.size)⟩
end Go.Proofs.YtklnakjmiljmhaaGreatDoor
namespace Go.Proofs.YtklnakjmiljmhaaGreatDoor
set_option linter.unusedVariables false
set_option linter.unusedSimpArgs false
set_option maxRecDepth 100000
open Go.RowKit
theorem bytime_any (x y : Ms) (w : World) : Calls Tryz.prog 47 #[.agg (encM x).toArray, .agg (encM y).toArray] w fun e w' => e = .returned (.int .i64 (cmpI x.time y.time)) ∧ Below w.heap.size w w' := by
  obtain ⟨k1, i1, w1, t1, x1⟩ := x
  obtain ⟨k2, i2, w2, t2, x2⟩ := y
  have C := fun w => cmp_any t1 t2 w
  generalize cmpI t1 t2 = r at *
  unfold encM
  dsimp only
  go_enter Tryz.func47, Tryz.ntmps47
  go_wp2_with (go_at_call 42; refine (C _).mono ?_; rintro e wq ⟨rfl, rfl⟩)
  go_ret
  exact ⟨rfl, ((Below.refl _ w).alloc (Nat.le_refl _) _).alloc (by simp) _⟩
theorem back_at {l : List Ms} {k : Nat} (h1 : 1 ≤ k) (h2 : k < l.length) : backF (l.drop (k - 1)) = (decide ((l[k]).time < (l[k - 1]'(by omega)).time) || backF (l.drop k)) := by
  rw [List.drop_eq_getElem_cons (show k - 1 < l.length by omega), List.drop_eq_getElem_cons (show k - 1 + 1 < l.length by omega), backF]
  have e : k - 1 + 1 = k := by omega
  simp only [e]
  rw [← List.drop_eq_getElem_cons h2]
theorem back_drop {l : List Ms} (k : Nat) (h : backF (l.drop k) = true) : backF l = true := by
  cases hb : backF l with
  | true => rfl
  | false => rw [backF_no.2 ((backF_no.1 hb).sublist (List.drop_sublist k l))] at h; cases h
theorem cmpI_lt {a b : Int} (h : a < b) : decide (cmpI a b < 0) = true := by unfold cmpI; rw [if_pos h]; rfl
theorem cmpI_ge {a b : Int} (h : ¬ a < b) : decide (cmpI a b < 0) = false := by unfold cmpI; rw [if_neg h]; split <;> rfl
set_option maxHeartbeats 1000000 in
theorem sorted_any (v : Value) (l : List Ms) (w : World) (h : MC v l w) (hl : l.length ≤ 1000000) :
    Calls Tryz.prog 46 #[v, .func (.func 47) #[] #[]] w fun e w' => e = .returned (.bool (!backF l)) ∧ Below w.heap.size w w' := by
  have ei := enters_of Tryz.func47 (by kernel_rfl) rfl
  obtain ⟨A, c, rfl, hc, hcell⟩ := h
  by_cases h0 : l = []
  · subst h0
    go_enter Tryz.func46, Tryz.ntmps46
    go_wp2
    go_loop [5] (fun v => v = .int .i64 (-1)) (fun _ => 0)
    case atStart => rfl
    case round =>
      subst hrel
      go_wp2
      go_ret
      exact ⟨rfl, Below.refl _ _⟩
  · obtain ⟨g, ff, rfl, hg, hcs⟩ := hcell.resolve_left h0
    have hpos : 0 < l.length := List.length_pos_iff.2 h0
    have HC := Lib.hid hcs; clear hcs h0 hcell
    go_enter Tryz.func46, Tryz.ntmps46
    go_wp2
    go_loopw [5] (fun v wr => ∃ k : Nat, k < l.length ∧ v = .int .i64 (k : Int) ∧ Below w.heap.size w wr ∧ Hid (backF (l.drop k) = false)) (fun v _ => (intOf v).toNat)
    case atStart => exact ⟨l.length - 1, by omega, by go_num, Below.refl _ _, by
      show _ = _
      rw [List.drop_eq_getElem_cons (show l.length - 1 < l.length by omega), List.drop_eq_nil_of_le (by omega)]; rfl⟩
    case round =>
      obtain ⟨k, hk, rfl, hbel, HR⟩ := hrel
      by_cases hlt : 0 < k
      · have hd : decide ((0 : Int) < (k : Int)) = true := decide_eq_true (by omega)
        have hdn : decide (0 < k) = true := decide_eq_true hlt
        have hcd : ∀ (d : BelT wr.heap.size wr) (j : Nat), d.val.cell? ⟨g, j, none⟩ = w.cell? ⟨g, j, none⟩ := fun d j => (World.cell?_of_block (d.property.block g (Nat.lt_of_lt_of_le hg hbel.size))).trans (World.cell?_of_block (hbel.block g hg))
        have hk1 : k - 1 < l.length := by omega
        obtain ⟨a0, a1, a2, a3, a4⟩ := HC.out k hk
        obtain ⟨b0, b1, b2, b3, b4⟩ := HC.out (k - 1) hk1
        have HB := Lib.hid (back_at hlt hk)
        obtain ⟨x, hx⟩ : ∃ x, l[k] = x := ⟨_, rfl⟩
        obtain ⟨y, hy⟩ : ∃ y, l[k - 1] = y := ⟨_, rfl⟩
        rw [hx] at a0 a1 a2 a3 a4 HB
        rw [hy] at b0 b1 b2 b3 b4 HB
        clear hx hy
        have A0 := fun d => (hcd d _).trans a0
        have A1 := fun d => (hcd d _).trans a1
        have A2 := fun d => (hcd d _).trans a2
        have A3 := fun d => (hcd d _).trans a3
        have A4 := fun d => (hcd d _).trans a4
        have B0 := fun d => (hcd d _).trans b0
        have B1 := fun d => (hcd d _).trans b1
        have B2 := fun d => (hcd d _).trans b2
        have B3 := fun d => (hcd d _).trans b3
        have B4 := fun d => (hcd d _).trans b4
        clear a0 a1 a2 a3 a4 b0 b1 b2 b3 b4 hcd
        have hw2 : IntKind.i64.wrap ((k : Int) - 1) = (k : Int) - 1 := IntWalk.i64_in _ (by omega)
        have hw3 : ((k : Int) - 1).toNat = k - 1 := by omega
        have hw4 : (0 : Int) ≤ (k : Int) - 1 := by omega
        have hw5 : (1 : Int) ≤ (k : Int) := by omega
        have T := fun w => bytime_any x y w
        by_cases hxy : x.time < y.time
        · have hc1 := cmpI_lt hxy
          have HE := Lib.hid (show false = !backF l by rw [back_drop (k - 1) (by rw [HB.out, decide_eq_true hxy]; rfl)]; rfl)
          clear hxy
          generalize cmpI x.time y.time = r at *
          have HT := Lib.hid T; clear T
          go_wp2_with fail
          refine wp_region_below (Below.refl wr.heap.size wr) (by kernel_rfl) (by kernel_rfl) ?_
          repeat (go_big_quiet_step ((go_at_call 47; exact Calls.below_of (Nat.le_refl _) (HT.out _))))
          refine wpQuiet_nil ?_
          intro w2 hw'
          obtain ⟨⟨w3, hb3⟩, rfl⟩ := hw'
          clear A0 A1 A2 A3 A4 B0 B1 B2 B3 B4
          go_wp2_with fail
          go_ret
          exact ⟨ret_bool HE.out, hbel.trans (hb3.mono hbel.size)⟩
        · have hc1 := cmpI_ge hxy
          have HE := Lib.hid (show backF (l.drop (k - 1)) = false by rw [HB.out, decide_eq_false hxy, HR.out]; rfl)
          clear hxy
          generalize cmpI x.time y.time = r at *
          have HT := Lib.hid T; clear T
          go_wp2_with fail
          refine wp_region_below (Below.refl wr.heap.size wr) (by kernel_rfl) (by kernel_rfl) ?_
          repeat (go_big_quiet_step ((go_at_call 47; exact Calls.below_of (Nat.le_refl _) (HT.out _))))
          refine wpQuiet_nil ?_
          intro w2 hw'
          obtain ⟨⟨w3, hb3⟩, rfl⟩ := hw'
          clear A0 A1 A2 A3 A4 B0 B1 B2 B3 B4
          clear hw2 hw3
          go_wp2_with fail
          go_roundw
          case rel => exact ⟨k - 1, by omega, by go_num, hbel.trans (hb3.mono hbel.size), HE⟩
          case measure => simp [intOf]; omega
      · obtain rfl : k = 0 := by omega
        have HE := Lib.hid (show true = !backF l by have := HR.out; rw [List.drop_zero] at this; rw [this]; rfl)
        go_wp2_with fail
        go_ret
        exact ⟨ret_bool HE.out, hbel⟩
/-- What a list of messages must be for the checks' walks: its lengths, and numbers that are ints. -/
def Small (l : List Ms) : Prop := l.length ≤ 100000 ∧ ∀ m ∈ l, m.who.length ≤ 1000000 ∧ m.text.length ≤ 1000000
theorem sizeF_drop {l : List Ms} {k : Nat} (h : k < l.length) : sizeF (l.drop k) = (l[k]).text.length + sizeF (l.drop (k + 1)) := by
  rw [List.drop_eq_getElem_cons h, sizeF]
theorem sizeF_bd : ∀ {l : List Ms}, (∀ m ∈ l, m.text.length ≤ 1000000) → sizeF l ≤ l.length * 1000000
  | [], _ => by simp [sizeF]
  | m :: r, h => by
    have h1 := h m (by simp)
    have h2 := sizeF_bd (l := r) (fun x hx => h x (by simp [hx]))
    rw [sizeF, List.length_cons, Nat.succ_mul]; omega
theorem errM_at {l : List Ms} : errM l = (if 300 < l.length ∨ 65536 < sizeF l then 3 else if anyM wrongM l = true then 1 else if anyM lateM l = true then 2 else if backF l = true then 11 else folF l (fun _ => none)) := rfl
set_option maxHeartbeats 1000000 in
/-- The code's Valid. -/
theorem valid_any (v : Value) (l : List Ms) (w : World) (h : MC v l w) (hs : Small l) :
    Calls Tryz.prog 17 #[v] w fun e w' => e = .returned (.int .i64 (errM l)) ∧ Below w.heap.size w w' := by
  have hz := sizeF_bd (fun m hm => (hs.2 m hm).2)
  have hl := hs.1
  have hsz : sizeF l ≤ 100000000000 := by omega
  have HS := Lib.hid hs; have H := Lib.hid h
  clear hs hz
  have HT := Lib.hid (fun m hm => (HS.out.2 m hm).2)
  have C1 := Lib.hid (fun w h => contains_any 44 wrongM v l w h ⟨enters_of Tryz.func44 (by kernel_rfl) rfl, fun m hm w => wrong_any m w (HS.out.2 m hm).1⟩ (by have := HS.out.1; omega))
  have C2 := Lib.hid (fun w h => contains_any 45 lateM v l w h ⟨enters_of Tryz.func45 (by kernel_rfl) rfl, fun m _ w => late_any m w⟩ (by have := HS.out.1; omega))
  have C3 := Lib.hid (fun w h => sorted_any v l w h (by have := HS.out.1; omega))
  obtain ⟨A, c, rfl, hc, hcell⟩ := h
  have HC := Lib.hid hcell; clear hcell
  go_enter Tryz.func17, Tryz.ntmps17
  go_wp2
  go_loopw [3, 8] (fun s v wr => ∃ (k n : Nat), k ≤ l.length ∧ v = .int .i64 (k : Int) ∧ s = .int .i64 (n : Int) ∧ Below w.heap.size w wr ∧ n ≤ 100000000000 ∧ Hid (n + sizeF (l.drop k) = sizeF l)) (fun _ v _ => l.length - (intOf v).toNat)
  case atStart => exact ⟨0, 0, by omega, rfl, rfl, Below.refl _ _, by omega, by show _ = _; simp⟩
  case round =>
    obtain ⟨k, n, hk, rfl, rfl, hbel, hn, HR⟩ := hrel
    by_cases hlt : k < l.length
    · have hd : decide ((k : Int) < (l.length : Int)) = true := decide_eq_true (by omega)
      have hdn : decide (k < l.length) = true := decide_eq_true hlt
      obtain ⟨g, ff, rfl, hg, hcs⟩ := HC.out.resolve_left (by intro e; rw [e] at hlt; simp at hlt)
      obtain ⟨a0, a1, a2, a3, a4⟩ := (hcs k hlt).later (hbel.block g hg)
      have HD := Lib.hid (sizeF_drop hlt)
      clear hcs
      obtain ⟨m, hm⟩ : ∃ m, l[k] = m := ⟨_, rfl⟩
      rw [hm] at a0 a1 a2 a3 a4 HD
      have htl := HT.out m (by rw [← hm]; exact List.getElem_mem hlt)
      clear hm
      have hbt : (bs m.text).size ≤ 1000000 := by rw [size_bs]; exact htl
      have HE := Lib.hid (show (n + (bs m.text).size) + sizeF (l.drop (k + 1)) = sizeF l by rw [size_bs, ← HR.out, HD.out]; omega)
      have hle : n + (bs m.text).size ≤ 100000000000 := by have := HE.out; omega
      generalize bs m.text = T at *
      go_wp2_with fail
      go_roundw
      case rel => exact ⟨k + 1, n + T.size, by omega, by go_num, by first | rfl | go_num, hbel.alloc hbel.size _, hle, HE⟩
      case measure => simp [intOf]; omega
    · obtain rfl : k = l.length := by omega
      have hd : decide ((l.length : Int) < (l.length : Int)) = false := decide_eq_false (by omega)
      have hdn : decide (l.length < l.length) = false := decide_eq_false (by omega)
      have hnz : n = sizeF l := by have := HR.out; rw [List.drop_length, sizeF] at this; omega
      have HN := Lib.hid hnz; clear hnz
      have HMC := Lib.hid (H.out.later hbel (Nat.le_refl _))
      have HB := Lib.hid hbel; clear hbel
      by_cases h1 : 300 < l.length
      · have d1 : decide ((300 : Int) < (l.length : Int)) = true := decide_eq_true (by omega)
        have d1n : decide (300 < l.length) = true := decide_eq_true h1
        have HE := Lib.hid (show errM l = 3 by rw [errM_at, if_pos (.inl h1)])
        go_wp2_with fail
        go_ret
        exact ⟨ret_int HE.out.symm, HB.out⟩
      have d1 : decide ((300 : Int) < (l.length : Int)) = false := decide_eq_false (by omega)
      have d1n : decide (300 < l.length) = false := decide_eq_false h1
      by_cases h2 : 65536 < n
      · have d2 : decide ((65536 : Int) < (n : Int)) = true := decide_eq_true (by omega)
        have d2n : decide (65536 < n) = true := decide_eq_true h2
        have HE := Lib.hid (show errM l = 3 by rw [errM_at, if_pos (.inr (by have := HN.out; omega))])
        go_wp2_with fail
        go_ret
        exact ⟨ret_int HE.out.symm, HB.out⟩
      have d2 : decide ((65536 : Int) < (n : Int)) = false := decide_eq_false (by omega)
      have d2n : decide (65536 < n) = false := decide_eq_false h2
      have HE1 := Lib.hid (show errM l = _ by rw [errM_at, if_neg (by have := HN.out; omega)])
      have HL1 := Lib.hid (And.intro h1 h2)
      clear h1 h2
      cases ha : anyM wrongM l with
      | true =>
        have HE := Lib.hid (show errM l = 1 by rw [HE1.out, ha]; rfl)
        rw [ha] at C1
        clear ha
        go_wp2_with fail
        refine (C1.out _ HMC.out).mono ?_
        rintro e w1 ⟨rfl, hb1⟩
        go_wp2_with fail
        go_ret
        exact ⟨ret_int HE.out.symm, HB.out.trans (hb1.mono HB.out.size)⟩
      | false =>
        have HA := Lib.hid ha
        rw [ha] at C1
        clear ha
        go_wp2_with fail
        refine (C1.out _ HMC.out).mono ?_
        rintro e w1 ⟨rfl, hb1⟩
        have HMC1 := Lib.hid (HMC.out.later hb1 (Nat.le_refl _))
        have HB1 := Lib.hid (HB.out.trans (hb1.mono HB.out.size))
        clear hb1
        cases hb : anyM lateM l with
        | true =>
          have HE := Lib.hid (show errM l = 2 by rw [HE1.out, HA.out, hb]; rfl)
          rw [hb] at C2
          clear hb
          go_wp2_with fail
          refine (C2.out _ HMC1.out).mono ?_
          rintro e w2 ⟨rfl, hb2⟩
          go_wp2_with fail
          go_ret
          exact ⟨ret_int HE.out.symm, HB1.out.trans (hb2.mono HB1.out.size)⟩
        | false =>
          have HB' := Lib.hid hb
          rw [hb] at C2
          clear hb
          go_wp2_with fail
          refine (C2.out _ HMC1.out).mono ?_
          rintro e w2 ⟨rfl, hb2⟩
          have HMC2 := Lib.hid (HMC1.out.later hb2 (Nat.le_refl _))
          have HB2 := Lib.hid (HB1.out.trans (hb2.mono HB1.out.size))
          clear hb2
          cases hbk : backF l with
          | true =>
            have HE := Lib.hid (show errM l = 11 by rw [HE1.out, HA.out, HB'.out, hbk]; rfl)
            rw [hbk] at C3
            clear hbk
            go_wp2_with fail
            refine (C3.out _ HMC2.out).mono ?_
            rintro e w3 ⟨rfl, hb3⟩
            go_wp2_with fail
            go_ret
            exact ⟨ret_int HE.out.symm, HB2.out.trans (hb3.mono HB2.out.size)⟩
          | false =>
            have HE := Lib.hid (show errM l = folF l (fun _ => none) by rw [HE1.out, HA.out, HB'.out, hbk]; rfl)
            rw [hbk] at C3
            clear hbk
            go_wp2_with fail
            refine (C3.out _ HMC2.out).mono ?_
            rintro e w3 ⟨rfl, hb3⟩
            have HMC3 := Lib.hid (HMC2.out.later hb3 (Nat.le_refl _))
            have HB3 := Lib.hid (HB2.out.trans (hb3.mono HB2.out.size))
            clear hb3
            go_wp2_with fail
            refine (follow_any _ l _ HMC3.out (fun m hm => by have := wrongM_no (anyM_no.1 HA.out m hm); omega) (by omega)).mono ?_
            rintro e w4 ⟨rfl, hb4⟩
            go_wp2_with fail
            go_ret
            exact ⟨ret_int HE.out.symm, HB3.out.trans (hb4.mono HB3.out.size)⟩
end Go.Proofs.YtklnakjmiljmhaaGreatDoor
namespace Go.Proofs.YtklnakjmiljmhaaGreatDoor
set_option linter.unusedVariables false
set_option linter.unusedSimpArgs false
set_option maxRecDepth 100000
open Go.RowKit
open Go.Maps (Keyed)
def formE (l : List Ms) : Int :=
  if 300 < l.length ∨ 65536 < sizeF l then 3 else if anyM wrongM l = true then 1 else if anyM lateM l = true then 2 else if backF l = true then 11 else 0
theorem errM_form (l : List Ms) : errM l = if formE l = 0 then folF l (fun _ => none) else formE l := by
  unfold errM formE
  split
  · rfl
  · split
    · rfl
    · split
      · rfl
      · split <;> rfl
theorem any_drop {p : Ms → Bool} {l : List Ms} {k : Nat} (hk : k < l.length) : anyM p (l.drop k) = (p l[k] || anyM p (l.drop (k + 1))) := by rw [List.drop_eq_getElem_cons hk, anyM]
theorem below_drewN {B : Nat} {a w : World} (h : Below B a w) (n : Nat) : Below B a (w.drewN n) := ⟨h.os, h.tape, h.output, h.size, h.block⟩
set_option maxHeartbeats 8000000 in
theorem form_ref (v : Value) (l : List Ms) (w : World) (h : MC v l w) (hs : Small l) :
    Calls Tryz.prog 49 #[v] w fun e w' => e = .returned (.int .i64 (formE l)) ∧ Below w.heap.size w w' := by
  have hz := sizeF_bd (fun m hm => (hs.2 m hm).2)
  have hl := hs.1
  have hsz : sizeF l ≤ 100000000000 := by omega
  have HS := Lib.hid hs; have H := Lib.hid h
  clear hs hz
  obtain ⟨A, c, rfl, hc, hcell⟩ := h
  have HC := Lib.hid hcell; clear hcell
  go_enter Tryz.func49, Tryz.ntmps49
  go_wp2
  go_loop [3, 4] (fun s v => ∃ (k n : Nat), k ≤ l.length ∧ v = .int .i64 (k : Int) ∧ s = .int .i64 (n : Int) ∧ n ≤ 100000000000 ∧ Hid (n + sizeF (l.drop k) = sizeF l)) (fun _ v => l.length - (intOf v).toNat)
  case atStart => exact ⟨0, 0, by omega, rfl, rfl, by omega, by show _ = _; simp⟩
  case round =>
    obtain ⟨k, n, hk, rfl, rfl, hn, HR⟩ := hrel
    by_cases hlt : k < l.length
    · have hd : decide ((k : Int) < (l.length : Int)) = true := decide_eq_true (by omega)
      have hdn : decide (k < l.length) = true := decide_eq_true hlt
      obtain ⟨g, ff, rfl, hg, hcs⟩ := HC.out.resolve_left (by intro e; rw [e] at hlt; simp at hlt)
      obtain ⟨a0, a1, a2, a3, a4⟩ := hcs k hlt
      have HD := Lib.hid (sizeF_drop hlt)
      clear hcs
      obtain ⟨m, hm⟩ : ∃ m, l[k] = m := ⟨_, rfl⟩
      rw [hm] at a0 a1 a2 a3 a4 HD
      have htl := (HS.out.2 m (by rw [← hm]; exact List.getElem_mem hlt)).2
      clear hm
      have hbt : (bs m.text).size ≤ 1000000 := by rw [size_bs]; exact htl
      have HE := Lib.hid (show (n + (bs m.text).size) + sizeF (l.drop (k + 1)) = sizeF l by rw [size_bs, ← HR.out, HD.out]; omega)
      have hle : n + (bs m.text).size ≤ 100000000000 := by have := HE.out; omega
      generalize bs m.text = T at *
      go_wp2_with fail
      go_round
      case rel => exact ⟨k + 1, n + T.size, by omega, by go_num, by first | rfl | go_num, hle, HE⟩
      case measure => simp [intOf]; omega
    · obtain rfl : k = l.length := by omega
      have hd : decide ((l.length : Int) < (l.length : Int)) = false := decide_eq_false (by omega)
      have hdn : decide (l.length < l.length) = false := decide_eq_false (by omega)
      have hnz : n = sizeF l := by have := HR.out; rw [List.drop_length, sizeF] at this; omega
      have HN := Lib.hid hnz; clear hnz
      by_cases h1 : 300 < l.length
      · have d1 : decide ((300 : Int) < (l.length : Int)) = true := decide_eq_true (by omega)
        have d1n : decide (300 < l.length) = true := decide_eq_true h1
        have HE := Lib.hid (show formE l = 3 by unfold formE; rw [if_pos (.inl h1)])
        go_wp2_with fail
        go_ret
        exact ⟨ret_int HE.out.symm, Below.refl _ _⟩
      have d1 : decide ((300 : Int) < (l.length : Int)) = false := decide_eq_false (by omega)
      have d1n : decide (300 < l.length) = false := decide_eq_false h1
      by_cases h2 : 65536 < n
      · have d2 : decide ((65536 : Int) < (n : Int)) = true := decide_eq_true (by omega)
        have d2n : decide (65536 < n) = true := decide_eq_true h2
        have HE := Lib.hid (show formE l = 3 by unfold formE; rw [if_pos (.inr (by have := HN.out; omega))])
        go_wp2_with fail
        go_ret
        exact ⟨ret_int HE.out.symm, Below.refl _ _⟩
      have d2 : decide ((65536 : Int) < (n : Int)) = false := decide_eq_false (by omega)
      have d2n : decide (65536 < n) = false := decide_eq_false h2
      have HE1 := Lib.hid (show formE l = _ by unfold formE; rw [if_neg (by have := HN.out; omega)])
      clear h1 h2 HR HN
      go_wp2_with fail
      go_loopw [5] (fun v wr => ∃ k : Nat, k ≤ l.length ∧ v = .int .i64 (k : Int) ∧ Below w.heap.size w wr ∧ Hid (anyM wrongM (l.drop k) = anyM wrongM l)) (fun v _ => l.length - (intOf v).toNat)
      case atStart => exact ⟨0, by omega, rfl, Below.refl _ _, rfl⟩
      case round =>
        obtain ⟨k, hk, rfl, hbel, HR⟩ := hrel
        by_cases hlt : k < l.length
        · have hd : decide ((k : Int) < (l.length : Int)) = true := decide_eq_true (by omega)
          have hdn : decide (k < l.length) = true := decide_eq_true hlt
          obtain ⟨g, ff, rfl, hg, hcs⟩ := HC.out.resolve_left (by intro e; rw [e] at hlt; simp at hlt)
          obtain ⟨a0, a1, a2, a3, a4⟩ := (hcs k hlt).later (hbel.block g hg)
          have HD := Lib.hid (show (wrongM l[k] || anyM wrongM (l.drop (k + 1))) = anyM wrongM l by rw [← any_drop hlt]; exact HR.out)
          clear hcs
          obtain ⟨m, hm⟩ : ∃ m, l[k] = m := ⟨_, rfl⟩
          rw [hm] at a0 a1 a2 a3 a4 HD
          have hwl := (HS.out.2 m (by rw [← hm]; exact List.getElem_mem hlt)).1
          clear hm
          obtain ⟨kd, id, who, tm, tx⟩ := m
          dsimp only at a0 a1 a2 a3 a4 hwl
          have hbel1 := hbel.alloc hbel.size (.cells #[.int .i64 kd, .int .i64 id, .string (bs who), .int .i64 tm, .string (bs tx)] 43)
          have AU := fun w => author_ref (bs who) w (by rw [size_bs]; exact hwl)
          rw [bl_bs] at AU
          have HT := Lib.hid (show (bs tx).toList.isEmpty = tx.isEmpty by rw [bl_emp, bl_bs])
          have HY := Lib.hid (show wrongM ⟨kd, id, who, tm, tx⟩ = true → formE l = 1 from fun h => by rw [HE1.out, ← HD.out, h]; rfl)
          have HNo := Lib.hid (show wrongM ⟨kd, id, who, tm, tx⟩ = false → anyM wrongM (l.drop (k + 1)) = anyM wrongM l from fun h => by rw [← HD.out, h]; rfl)
          have HW := Lib.hid (show wrongM ⟨kd, id, who, tm, tx⟩ = (decide (kd < 1) || (decide (3 < kd) || (decide (id < 1) || (decide (1073741824 < id) || (!whoOK who || (kd == 3 && !tx.isEmpty)))))) from rfl)
          clear HD hwl
          generalize bs who = S at *
          generalize bs tx = T at *
          by_cases h1 : kd < 1
          · have e1 : decide (kd < 1) = true := decide_eq_true h1
            have HE := Lib.hid (HY.out (by rw [HW.out, e1]; rfl))
            go_wp2_with fail
            go_ret
            exact ⟨ret_int HE.out.symm, hbel1⟩
          have e1 : decide (kd < 1) = false := decide_eq_false h1
          by_cases h2 : 3 < kd
          · have e2 : decide (3 < kd) = true := decide_eq_true h2
            have HE := Lib.hid (HY.out (by rw [HW.out, e1, e2]; rfl))
            go_wp2_with fail
            go_ret
            exact ⟨ret_int HE.out.symm, hbel1⟩
          have e2 : decide (3 < kd) = false := decide_eq_false h2
          by_cases h3 : id < 1
          · have e3 : decide (id < 1) = true := decide_eq_true h3
            have HE := Lib.hid (HY.out (by rw [HW.out, e1, e2, e3]; rfl))
            go_wp2_with fail
            go_ret
            exact ⟨ret_int HE.out.symm, hbel1⟩
          have e3 : decide (id < 1) = false := decide_eq_false h3
          by_cases h4 : 1073741824 < id
          · have e4 : decide (1073741824 < id) = true := decide_eq_true h4
            have HE := Lib.hid (HY.out (by rw [HW.out, e1, e2, e3, e4]; rfl))
            go_wp2_with fail
            go_ret
            exact ⟨ret_int HE.out.symm, hbel1⟩
          have e4 : decide (1073741824 < id) = false := decide_eq_false h4
          cases hw : whoOK who with
          | false =>
            rw [hw] at AU
            have HE := Lib.hid (HY.out (by rw [HW.out, e1, e2, e3, e4, hw]; rfl))
            clear hw
            go_wp2_with (go_at_call 79; refine (AU _).mono ?_; rintro e w1 ⟨rfl, rfl⟩)
            go_ret
            exact ⟨ret_int HE.out.symm, hbel1⟩
          | true =>
            rw [hw] at AU
            have HW2 := Lib.hid (show wrongM ⟨kd, id, who, tm, tx⟩ = (kd == 3 && !tx.isEmpty) by rw [HW.out, e1, e2, e3, e4, hw]; rfl)
            clear hw
            by_cases h5 : kd = 3
            · have e5 : (kd == 3) = true := by simpa using h5
              cases hte : tx.isEmpty with
              | true =>
                have t0 : T.toList.isEmpty = true := by rw [HT.out, hte]
                have t1 : (!T.toList.isEmpty) = false := by rw [t0]; rfl
                have HE := Lib.hid (HNo.out (by rw [HW2.out, hte]; simp))
                clear hte h5
                go_wp2_with (go_at_call 79; refine (AU _).mono ?_; rintro e w1 ⟨rfl, rfl⟩)
                go_roundw
                case rel => exact ⟨k + 1, by omega, by go_num, hbel1, HE⟩
                case measure => simp [intOf]; omega
              | false =>
                have t0 : T.toList.isEmpty = false := by rw [HT.out, hte]
                have t1 : (!T.toList.isEmpty) = true := by rw [t0]; rfl
                have HE := Lib.hid (HY.out (by rw [HW2.out, hte, e5]; rfl))
                clear hte h5
                go_wp2_with (go_at_call 79; refine (AU _).mono ?_; rintro e w1 ⟨rfl, rfl⟩)
                go_ret
                exact ⟨ret_int HE.out.symm, hbel1⟩
            · have e5 : (kd == 3) = false := by simpa using h5
              have HE := Lib.hid (HNo.out (by rw [HW2.out, e5]; rfl))
              clear h5
              go_wp2_with (go_at_call 79; refine (AU _).mono ?_; rintro e w1 ⟨rfl, rfl⟩)
              go_roundw
              case rel => exact ⟨k + 1, by omega, by go_num, hbel1, HE⟩
              case measure => simp [intOf]; omega
        · obtain rfl : k = l.length := by omega
          have HA := Lib.hid (show anyM wrongM l = false by rw [← HR.out, List.drop_length]; rfl)
          have HE2 := Lib.hid (show formE l = _ by rw [HE1.out, HA.out, if_neg (by decide)])
          have hd : decide ((l.length : Int) < (l.length : Int)) = false := decide_eq_false (by omega)
          have hdn : decide (l.length < l.length) = false := decide_eq_false (by omega)
          have HB := Lib.hid hbel
          clear HR HE1 HA
          obtain ⟨W2, hW2⟩ : ∃ W2 : World, W2 = wr := ⟨_, rfl⟩
          rw [← hW2] at HB hbel ⊢
          clear hW2
          have HC2 := Lib.hid (show ∀ w1, Below W2.heap.size W2 w1 → ∀ g f i (h : i < l.length), A = some ⟨g, f, none⟩ → g < w.heap.size → MCell w g (f + i * 5) l[i] → MCell w1 g (f + i * 5) l[i] from fun w1 hb g f i hi _ hg hm => (hm.later (HB.out.block g hg)).later (hb.block g (Nat.lt_of_lt_of_le hg HB.out.size)))
          go_wp2_with fail
          go_loopw [7] (fun v wr => ∃ k : Nat, k ≤ l.length ∧ v = .int .i64 (k : Int) ∧ wr = W2 ∧ Hid (anyM lateM (l.drop k) = anyM lateM l)) (fun v _ => l.length - (intOf v).toNat)
          case atStart => exact ⟨0, by omega, rfl, rfl, rfl⟩
          case round =>
            obtain ⟨k, hk, rfl, rfl, HR⟩ := hrel
            by_cases hlt : k < l.length
            · have hd : decide ((k : Int) < (l.length : Int)) = true := decide_eq_true (by omega)
              have hdn : decide (k < l.length) = true := decide_eq_true hlt
              obtain ⟨g, ff, rfl, hg, hcs⟩ := HC.out.resolve_left (by intro e; rw [e] at hlt; simp at hlt)
              obtain ⟨a0, a1, a2, a3, a4⟩ := (hcs k hlt).later (hbel.block g hg)
              have HD := Lib.hid (show (lateM l[k] || anyM lateM (l.drop (k + 1))) = anyM lateM l by rw [← any_drop hlt]; exact HR.out)
              clear hcs a0 a1 a2 a4
              obtain ⟨m, hm⟩ : ∃ m, l[k] = m := ⟨_, rfl⟩
              rw [hm] at a3 HD
              clear hm
              obtain ⟨kd, id, who, tm, tx⟩ := m
              dsimp only at a3
              have HW := Lib.hid (show lateM ⟨kd, id, who, tm, tx⟩ = (decide (tm < 0) || decide (1099511627776 < tm)) from rfl)
              by_cases h1 : tm < 0
              · have e1 : decide (tm < 0) = true := decide_eq_true h1
                have HE := Lib.hid (show formE l = 2 by rw [HE2.out, ← HD.out, HW.out, e1]; rfl)
                go_wp2_with fail
                go_ret
                exact ⟨ret_int HE.out.symm, HB.out⟩
              have e1 : decide (tm < 0) = false := decide_eq_false h1
              by_cases h2 : 1099511627776 < tm
              · have e2 : decide (1099511627776 < tm) = true := decide_eq_true h2
                have HE := Lib.hid (show formE l = 2 by rw [HE2.out, ← HD.out, HW.out, e1, e2]; rfl)
                go_wp2_with fail
                go_ret
                exact ⟨ret_int HE.out.symm, HB.out⟩
              have e2 : decide (1099511627776 < tm) = false := decide_eq_false h2
              have HE := Lib.hid (show anyM lateM (l.drop (k + 1)) = anyM lateM l by rw [← HD.out, HW.out, e1, e2]; rfl)
              go_wp2_with fail
              go_roundw
              case rel => exact ⟨k + 1, by omega, by go_num, by first | rfl | trivial, HE⟩
              case measure => simp [intOf]; omega
            · obtain rfl : k = l.length := by omega
              have hd : decide ((l.length : Int) < (l.length : Int)) = false := decide_eq_false (by omega)
              have hdn : decide (l.length < l.length) = false := decide_eq_false (by omega)
              have HL := Lib.hid (show anyM lateM l = false by rw [← HR.out, List.drop_length]; rfl)
              have HE3 := Lib.hid (show formE l = _ by rw [HE2.out, HL.out, if_neg (by decide)])
              clear HR HE2 HL
              go_wp2_with fail
              go_loopw [8] (fun v wr => ∃ k : Nat, k ≤ l.length + 1 ∧ 1 ≤ k ∧ v = .int .i64 (k : Int) ∧ Below w.heap.size w wr ∧ Hid (backF (l.drop (k - 1)) = backF l)) (fun v _ => l.length + 1 - (intOf v).toNat)
              case atStart => exact ⟨1, by omega, by omega, rfl, HB.out, rfl⟩
              case round =>
                obtain ⟨k, hk, hk1, rfl, hbl, HR⟩ := hrel
                by_cases hlt : k < l.length
                · have hd : decide ((k : Int) < (l.length : Int)) = true := decide_eq_true (by omega)
                  have hdn : decide (k < l.length) = true := decide_eq_true hlt
                  obtain ⟨g, ff, rfl, hg, hcs⟩ := HC.out.resolve_left (by intro e; rw [e] at hlt; simp at hlt)
                  obtain ⟨-, -, -, a3, -⟩ := (hcs k hlt).later (hbl.block g hg)
                  obtain ⟨-, -, -, b3, -⟩ := (hcs (k - 1) (by omega)).later (hbl.block g hg)
                  have HBK := Lib.hid (back_at hk1 hlt)
                  clear hcs
                  obtain ⟨x, hx⟩ : ∃ x, (l[k]).time = x := ⟨_, rfl⟩
                  obtain ⟨y, hy⟩ : ∃ y, (l[k - 1]).time = y := ⟨_, rfl⟩
                  rw [hx] at a3 HBK
                  rw [hy] at b3 HBK
                  clear hx hy
                  have hw2 : IntKind.i64.wrap ((k : Int) - 1) = (k : Int) - 1 := IntWalk.i64_in _ (by omega)
                  have hw3 : ((k : Int) - 1).toNat = k - 1 := by omega
                  have hw4 : (0 : Int) ≤ (k : Int) - 1 := by omega
                  have hw5 : k - 1 < l.length := by omega
                  by_cases hxy : x < y
                  · have e1 : decide (x < y) = true := decide_eq_true hxy
                    have HE := Lib.hid (show formE l = 11 by rw [HE3.out, ← HR.out, HBK.out, e1]; rfl)
                    go_wp2_with fail
                    go_quiet (fail)
                    go_wp2_with fail
                    go_ret
                    exact ⟨ret_int HE.out.symm, below_drewN hbl _⟩
                  · have e1 : decide (x < y) = false := decide_eq_false hxy
                    have HE := Lib.hid (show backF (l.drop (k + 1 - 1)) = backF l by rw [← HR.out, HBK.out, e1, Nat.add_sub_cancel]; rfl)
                    go_wp2_with fail
                    go_quiet (fail)
                    clear hw2 hw3
                    go_wp2_with fail
                    go_roundw
                    case rel => exact ⟨k + 1, by omega, by omega, by go_num, below_drewN hbl _, HE⟩
                    case measure => simp [intOf]; omega
                · have hd : decide ((k : Int) < (l.length : Int)) = false := decide_eq_false (by omega)
                  have hdn : decide (k < l.length) = false := decide_eq_false (by omega)
                  have HE := Lib.hid (show formE l = 0 by
                    rw [HE3.out, ← HR.out]
                    have : backF (l.drop (k - 1)) = false := by
                      rcases Nat.lt_or_ge (k - 1) l.length with h | h
                      · rw [List.drop_eq_getElem_cons h, List.drop_eq_nil_of_le (by omega)]; rfl
                      · rw [List.drop_eq_nil_of_le h]; rfl
                    rw [this]; rfl)
                  go_wp2_with fail
                  go_ret
                  exact ⟨ret_int HE.out.symm, hbl⟩
end Go.Proofs.YtklnakjmiljmhaaGreatDoor
namespace Go.Proofs.YtklnakjmiljmhaaGreatDoor
set_option linter.unusedVariables false
set_option linter.unusedSimpArgs false
set_option maxRecDepth 100000
open Go.RowKit
def fmtO (l : List Ms) : List UInt8 := if errM l = 0 then fmtM l else []
def FmPost (l : List Ms) (w : World) (e : Ending) (w' : World) : Prop := ∃ u, e = .returned (.tuple #[u, .int .i64 (errM l)]) ∧ OB 5 w.heap.size u (fmtO l) w' ∧ Below w.heap.size w w'
theorem format_any (v : Value) (l : List Ms) (w : World) (h : MC v l w) (hs : Small l) (hv : VrOK w) : Calls Tryz.prog 20 #[v] w (FmPost l w) := by
  have V := Lib.hid (valid_any v l w h hs)
  by_cases h0 : errM l = 0
  · obtain ⟨p1, p2, p3, p4, -, -⟩ := errM_ok.1 h0
    have W := Lib.hid (fun w' (hb : Below w.heap.size w w') => write_any v l w' (h.later hb (Nat.le_refl _)) (fun m hm => ⟨p3 m hm, p4 m hm⟩) p1 p2 (hv.later hb))
    have HF := Lib.hid (show fmtO l = fmtM l by unfold fmtO; rw [if_pos h0])
    have H0 := Lib.hid h0
    rw [h0] at V
    clear h0 h hs hv p1 p2 p3 p4
    go_enter Tryz.func20, Tryz.ntmps20
    go_wp2_with fail
    refine V.out.mono ?_
    rintro e w1 ⟨rfl, hb1⟩
    go_wp2_with fail
    refine (W.out _ hb1).mono ?_
    rintro e w2 ⟨u, rfl, hu, hb2⟩
    go_wp2_with fail
    go_ret2
    exact ⟨_, by rw [H0.out]; rfl, by rw [HF.out]; exact hu.mono hb1.size, hb1.trans (hb2.mono hb1.size)⟩
  · have d0 : (errM l != 0) = true := by simpa using h0
    have HF := Lib.hid (show fmtO l = [] by unfold fmtO; rw [if_neg h0])
    have HE := Lib.hid (rfl : errM l = errM l)
    obtain ⟨x, hx⟩ : ∃ x, errM l = x := ⟨_, rfl⟩
    have HX := Lib.hid hx
    rw [hx] at V d0
    clear h0 hx h hs hv HE
    go_enter Tryz.func20, Tryz.ntmps20
    go_wp2_with fail
    refine V.out.mono ?_
    rintro e w1 ⟨rfl, hb1⟩
    go_wp2_with fail
    go_ret2
    exact ⟨_, by rw [HX.out]; rfl, by rw [HF.out]; exact OB.nil_ _ _ _, hb1⟩
end Go.Proofs.YtklnakjmiljmhaaGreatDoor
namespace Go.Proofs.YtklnakjmiljmhaaGreatDoor
set_option linter.unusedVariables false
set_option linter.unusedSimpArgs false
set_option maxRecDepth 100000
open Go.RowKit
def wake0 : List Ms := [⟨1, 1, [97, 110, 110], 5, [104, 101, 108, 108, 111]⟩, ⟨2, 1, [97, 110, 110], 6, [98, 121, 101]⟩, ⟨3, 1, [97, 110, 110], 7, []⟩]
def wakeB : List UInt8 := "post 1 5 ann hello\nedit 1 6 ann bye\ndelete 1 7 ann\n".toUTF8.data.toList
theorem numL_small {n : Int} {k : Nat} (h : n = k) (hk : k < 10) : numL n = [UInt8.ofNat (48 + k)] := by
  subst h; unfold numL; rw [Int.toNat_natCast, dec_small _ hk]
theorem wake_err : errM wake0 = 0 := by decide +kernel
theorem wake_fmt : fmtM wake0 = wakeB := by
  unfold wake0
  simp only [fmtM, lineM, numL_small (n := 1) (k := 1) rfl (by decide), numL_small (n := 5) (k := 5) rfl (by decide), numL_small (n := 6) (k := 6) rfl (by decide), numL_small (n := 7) (k := 7) rfl (by decide)]
  decide +kernel
theorem wake_parse : parseM wakeB = some wake0 := parseM_some.2 ⟨wake_err, wake_fmt⟩
theorem wake_texts : (textsM wake0).length = 2 := by decide +kernel
theorem wake_at6 : (atM wake0 6).length = 1 := by decide +kernel
theorem wake_at7 : (atM wake0 7).length = 0 := by decide +kernel
end Go.Proofs.YtklnakjmiljmhaaGreatDoor
namespace Go.Proofs.YtklnakjmiljmhaaGreatDoor
set_option linter.unusedVariables false
set_option linter.unusedSimpArgs false
set_option maxRecDepth 100000
open Go.RowKit
def sumM : List Ms → Nat
  | [] => 0
  | m :: r => (m.text.length + m.who.length) + sumM r
def fewM (l : List Ms) : Bool := decide (l.length ≤ 60) && decide (sumM l ≤ 3000)
theorem sumM_drop {l : List Ms} {k : Nat} (h : k < l.length) : sumM (l.drop k) = ((l[k]).text.length + (l[k]).who.length) + sumM (l.drop (k + 1)) := by
  rw [List.drop_eq_getElem_cons h, sumM]
theorem sumM_bd : ∀ {l : List Ms}, (∀ m ∈ l, m.who.length ≤ 1000000 ∧ m.text.length ≤ 1000000) → sumM l ≤ l.length * 2000000
  | [], _ => by simp [sumM]
  | m :: r, h => by
    have h1 := h m (by simp)
    have h2 := sumM_bd (l := r) (fun x hx => h x (by simp [hx]))
    rw [sumM, List.length_cons, Nat.succ_mul]; omega
set_option maxHeartbeats 8000000 in
theorem few_law (v : Value) (l : List Ms) (w : World) (h : MC v l w) (hs : Small l) :
    Calls Tryz.prog 19 #[v] w fun e w' => e = .returned (.bool (fewM l)) ∧ Below w.heap.size w w' := by
  have hz := sumM_bd hs.2
  have hl := hs.1
  have hsz : sumM l ≤ 200000000000 := by omega
  have HS := Lib.hid hs; have H := Lib.hid h
  clear hs hz
  obtain ⟨A, c, rfl, hc, hcell⟩ := h
  have HC := Lib.hid hcell; clear hcell
  go_enter Tryz.func19, Tryz.ntmps19
  go_wp2
  go_loopw [3, 4] (fun s v wr => ∃ (k n : Nat), k ≤ l.length ∧ v = .int .i64 (k : Int) ∧ s = .int .i64 (n : Int) ∧ n ≤ 200000000000 ∧ Below w.heap.size w wr ∧ Hid (n + sumM (l.drop k) = sumM l)) (fun _ v _ => l.length - (intOf v).toNat)
  case atStart => exact ⟨0, 0, by omega, rfl, rfl, by omega, Below.refl _ _, by show _ = _; simp⟩
  case round =>
    obtain ⟨k, n, hk, rfl, rfl, hn, hbel, HR⟩ := hrel
    by_cases hlt : k < l.length
    · have hd : decide ((k : Int) < (l.length : Int)) = true := decide_eq_true (by omega)
      have hdn : decide (k < l.length) = true := decide_eq_true hlt
      obtain ⟨g, ff, rfl, hg, hcs⟩ := HC.out.resolve_left (by intro e; rw [e] at hlt; simp at hlt)
      obtain ⟨a0, a1, a2, a3, a4⟩ := (hcs k hlt).later (hbel.block g hg)
      have HD := Lib.hid (sumM_drop hlt)
      clear hcs
      obtain ⟨m, hm⟩ : ∃ m, l[k] = m := ⟨_, rfl⟩
      rw [hm] at a0 a1 a2 a3 a4 HD
      have htl := (HS.out.2 m (by rw [← hm]; exact List.getElem_mem hlt)).2
      have hwl := (HS.out.2 m (by rw [← hm]; exact List.getElem_mem hlt)).1
      clear hm
      have hbt : (bs m.text).size ≤ 1000000 := by rw [size_bs]; exact htl
      have hbw : (bs m.who).size ≤ 1000000 := by rw [size_bs]; exact hwl
      have HE := Lib.hid (show (n + ((bs m.text).size + (bs m.who).size)) + sumM (l.drop (k + 1)) = sumM l by rw [size_bs, size_bs, ← HR.out, HD.out]; omega)
      have hle : n + ((bs m.text).size + (bs m.who).size) ≤ 200000000000 := by have := HE.out; omega
      clear htl hwl HD
      generalize bs m.text = T at *
      generalize bs m.who = U at *
      have hq1 : IntKind.i64.wrap ((T.size : Int) + (U.size : Int)) = (T.size : Int) + (U.size : Int) := IntWalk.i64_in _ (by omega)
      have hq2 : IntKind.i64.wrap ((n : Int) + ((T.size : Int) + (U.size : Int))) = (n : Int) + ((T.size : Int) + (U.size : Int)) := IntWalk.i64_in _ (by omega)
      go_wp2_with fail
      go_region_held3 (fun w' => w'.cell? ⟨g, ff + k * 5 + 2, none⟩ = some (.string U) ∧ w'.cell? ⟨g, ff + k * 5 + 4, none⟩ = some (.string T)) (first | go_keep | exact ⟨a2, a4⟩) (fail)
      go_wp2_with fail
      go_roundw
      case rel => exact ⟨k + 1, n + (T.size + U.size), by omega, by go_num, by first | rfl | go_num, hle, by first | exact hbel.drew | exact hbel, HE⟩
      case measure => simp [intOf]; omega
    · obtain rfl : k = l.length := by omega
      have hd : decide ((l.length : Int) < (l.length : Int)) = false := decide_eq_false (by omega)
      have hdn : decide (l.length < l.length) = false := decide_eq_false (by omega)
      have hnz : n = sumM l := by have := HR.out; rw [List.drop_length, sumM] at this; omega
      have HN := Lib.hid hnz; clear hnz
      by_cases h1 : l.length ≤ 60
      · have d1 : decide ((l.length : Int) ≤ 60) = true := decide_eq_true (by omega)
        have d1n : decide (l.length ≤ 60) = true := decide_eq_true h1
        obtain ⟨b, hb⟩ : ∃ b, decide (n ≤ 3000) = b := ⟨_, rfl⟩
        have hbi : decide ((n : Int) ≤ 3000) = b := by rw [← hb, decide_eq_decide]; omega
        have HE := Lib.hid (show fewM l = b by unfold fewM; rw [decide_eq_true h1, ← HN.out, hb]; rfl)
        go_wp2_with fail
        go_ret
        exact ⟨ret_bool HE.out.symm, hbel⟩
      · have d1 : decide ((l.length : Int) ≤ 60) = false := decide_eq_false (by omega)
        have d1n : decide (l.length ≤ 60) = false := decide_eq_false h1
        have HE := Lib.hid (show fewM l = false by unfold fewM; rw [decide_eq_false h1]; rfl)
        go_wp2_with fail
        go_ret
        exact ⟨ret_bool HE.out.symm, by first | exact hbel | exact hbel.drew⟩
end Go.Proofs.YtklnakjmiljmhaaGreatDoor
