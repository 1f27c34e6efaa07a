/- Walks: the edges of a group. Conditions: the variables read as laid. · The memory of a compile: what is read alone while groups and edges are made. · Walks: machine.describe. Conditions: the variables read as laid. · Walks: machine.classes. Conditions: the variables read as laid. · Walks: machine.least. Conditions: the variables read as laid. · A compile: where groups begin; what it answers. -/
import Derived.Test.YtoaibhacognbjaaGreatDoorY25
import Derived.Test.YtoaibhacognbjaaGreatDoorY07
import Derived.Test.YtoaibhacognbjaaGreatDoorY16
import Derived.Test.YtoaibhacognbjaaGreatDoorY19
import Derived.Test.YtoaibhacognbjaaGreatDoorY03
import Derived.Test.YtoaibhacognbjaaGreatDoorY21
import Derived.Laws.AppendOwnNone
import Derived.Test.YtoaibhacognbjaaGreatDoorY04
import Derived.Test.YtoaibhacognbjaaGreatDoorY17
namespace Go.Proofs.YtoaibhacognbjaaGreatDoor
set_option linter.unusedVariables false
set_option linter.unusedSimpArgs false
set_option maxRecDepth 100000
open Go.RowKit
/-- A row of ints of the call's own, nil only where it is empty. -/
def CU (B : Nat) (v : Value) (L : List Nat) (w : World) : Prop := w.ownsRow B 3 1 v L.length (ints L) ∧ (v = .slice none 0 0 ∨ L ≠ [])
theorem CU.later {B : Nat} {v : Value} {L : List Nat} {w w' : World} (h : CU B v L w) (hb : Below w.heap.size w w') : CU B v L w' := ⟨own_later h.1 hb, h.2⟩
theorem CU.il {B : Nat} {v : Value} {L : List Nat} {w : World} (h : CU B v L w) : IL w v L := IL.of_own h.1 fun hv => h.2.resolve_left hv
/-- What holds behind some cuts: the edges, the groups. -/
structure EgR (w0 : World) (s mb : Nat) (v0 v1 v2 : Value) (b : Pb) (gs : List (List Nat)) (fp fo : List Nat) (wB : World) (cuts : List Nat) (i : Nat) (row : List Ed) (gs' : List (List Nat)) (fp' : List Nat) (ov : Value) (wr : World) : Prop where
  own : OR 169 3 edC wB.heap.size ov row wr
  out : outOf fp' ov
  sb : SbI w0.heap.size s mb v0 v1 v2 gs' fp' wr
  kf : KeepF fp fp' wB wr
  ri : RowI b fo gs' row (vAt cuts i)
  gg : GrowG b fo gs gs'
  ln : gs'.length ≤ gs.length + i ∧ row.length ≤ i
def EdPost (w0 : World) (s mb : Nat) (v0 v1 v2 : Value) (b : Pb) (gs : List (List Nat)) (fp fo : List Nat) (w : World) (e : Ending) (w' : World) : Prop :=
  ∃ row gs' fp' rv, e = .returned rv ∧ (EdIn w' rv row ∧ outOf fp' rv ∧ ∀ g, rv.ownBlock = some g → w.heap.size ≤ g ∧ g < w'.heap.size) ∧ SbI w0.heap.size s mb v0 v1 v2 gs' fp' w' ∧ KeepF fp fp' w w' ∧ RowI b fo gs' row 256 ∧ GrowG b fo gs gs' ∧ gs'.length ≤ gs.length + 257 ∧ row.length ≤ 257
set_option maxHeartbeats 16000000 in
theorem edges_any (w0 : World) (s mb : Nat) (v0 v1 v2 : Value) (b : Pb) (gs : List (List Nat)) (fp : List Nat) (w : World) (fo : List Nat) (v : Value)
    (h : SbI w0.heap.size s mb v0 v1 v2 gs fp w) (hs : SetC w0 fp w v0 b.sets) (hbel : Below w0.heap.size w0 w) (hR : ∀ rs ∈ b.sets, rngF rs = true)
    (hv : IL w v fo) (ho : outOf fp v) (hfo : ∀ p ∈ fo, p < b.sets.length) (hfl : fo.length ≤ 600) (hsl : b.sets.length ≤ 600) (hgs : gs.length ≤ 100000) (h0 : gs[0]? = some []) (hvr : VrOK w) (hlow : nG ≤ w0.heap.size) :
    Calls Tryz.prog 137 #[.pointer (some ⟨s, 0, none⟩), v] w (EdPost w0 s mb v0 v1 v2 b gs fp fo w) := by
  obtain ⟨Af, cf, rfl, hcf1, hcf2⟩ := hv.form
  obtain ⟨vg, gv, F, rfl, hb⟩ := h
  obtain ⟨Av, cv, rfl, hcv, -⟩ := id hs
  have hcs := hb.cs
  have hlt := hb.lt
  have hls : s < w.heap.size := (hlt s (by simp [fpG])).2
  obtain ⟨nf, hnf⟩ : ∃ n, fo.length = n := ⟨_, rfl⟩
  obtain ⟨ns, hns⟩ : ∃ n, b.sets.length = n := ⟨_, rfl⟩
  obtain ⟨ii, hii, hj0, hj1, hj2⟩ := info_parts info_int
  have h256 := hs.lt
  have HSL := Lib.hid (show (∀ rs ∈ b.sets, rs.length ≤ 257) ∧ ∀ rs ∈ b.sets, ∀ r ∈ rs, r.1 < 256 ∧ r.2 < 256 from ⟨fun rs h => rngF_le (hR rs h) fun r hr => (h256 rs h r hr).2, h256⟩)
  clear h256
  rw [hns] at hs hb
  have HV := Lib.hid hv
  have HO := Lib.hid ho
  have HS := Lib.hid hs
  have HB := Lib.hid hb
  have HR := Lib.hid hR
  have HFO := Lib.hid hfo
  have HLT := Lib.hid hlt
  have HBEL := Lib.hid hbel
  have H0 := Lib.hid h0
  have HVR := Lib.hid hvr
  have HN := Lib.hid (And.intro hnf hns)
  have HGS := Lib.hid hgs
  rw [hns] at hcs hsl hcv
  rw [hnf] at hfl hcf1 ⊢
  have HCS := Lib.hid hcs
  rw [hns]
  have hw0w := hbel.size
  clear hv ho hs hb hR hfo hlt hbel h0 hvr hnf hns hgs hcs
  go_enter Tryz.func137, Tryz.ntmps137
  go_wp2_with fail
  go_loopw [19, 5] (fun iv cu wr => ∃ k : Nat, k ≤ nf ∧ iv = .int .i64 (k : Int) ∧ Hid (CU w.heap.size cu (cutF b.sets (fo.take k)) wr) ∧ Hid (Below w.heap.size w wr)) (fun iv _ _ => nf - (intOf iv).toNat)
  case atStart => exact ⟨0, Nat.zero_le _, rfl, ⟨World.ownsRow_nil _ _ _ _, .inl rfl⟩, Below.refl _ _⟩
  case round =>
    obtain ⟨k, hk, rfl, HC, HBW⟩ := hrel
    by_cases hlt : k < nf
    · have hd : decide ((k : Int) < (nf : Int)) = true := decide_eq_true (by omega)
      have hkl : k < fo.length := by rw [HN.out.1]; exact hlt
      obtain ⟨g, f, rfl, hg, hcell⟩ := HV.out.at_ hkl
      have hc0 := hcell wr (HBW.out.block g hg)
      have hwr := HBW.out.size
      have hglr : g < wr.heap.size := by omega
      obtain ⟨p, hpe⟩ : ∃ p, fo[k] = p := ⟨_, rfl⟩
      have hpm : p ∈ fo := by rw [← hpe]; exact List.getElem_mem hkl
      have hpl := HFO.out p hpm
      obtain ⟨gS, rv, rfl, -, hgS, hcS, hrg⟩ := HS.out.at_ hpl
      have hcS2 := (World.cell?_of_block (a := ⟨gS, p, none⟩) (HBW.out.block gS hgS)).trans hcS
      have hgSr : gS < wr.heap.size := by omega
      rw [hpe] at hc0
      have hlsr : s < wr.heap.size := by omega
      have hrow : wr.heap[s]? = _ := (HBW.out.block s hls).trans HCS.out
      have d0 : wr.cell? ⟨s, 0, none⟩ = some (.slice (some ⟨gS, 0, none⟩) ns cv) := by rw [cell_of_row _ _ _ _ _ _ hrow]; rfl
      have hpn : p < ns := by rw [← HN.out.2]; exact hpl
      have hdp : decide (p < ns) = true := decide_eq_true hpn
      obtain ⟨rs, hrs⟩ : ∃ rs, b.sets[p] = rs := ⟨_, rfl⟩
      rw [hrs] at hrg
      obtain ⟨Ar, cr, rfl, hcr, hrgc⟩ := id hrg
      have hrgd : rs = [] ∨ ∃ g f, Ar = some ⟨g, f, none⟩ ∧ g < w0.heap.size ∧ ∀ i (h : i < rs.length), (w0.cell? ⟨g, f + i * 2, none⟩ = some (.int .u8 (rs[i].1 : Int)) ∧ w0.cell? ⟨g, f + i * 2 + 1, none⟩ = some (.int .u8 (rs[i].2 : Int))) ∧ rs[i].1 < 256 ∧ rs[i].2 < 256 := hrgc
      have hrl : rs.length ≤ 257 := HSL.out.1 rs (by rw [← hrs]; exact List.getElem_mem hpl)
      obtain ⟨nr, hnr⟩ : ∃ n, rs.length = n := ⟨_, rfl⟩
      have hsp : b.sets[p]? = some rs := by rw [List.getElem?_eq_getElem hpl, hrs]
      have hstep : cutF b.sets (fo.take k) ++ cutR rs = cutF b.sets (fo.take (k + 1)) := by rw [List.take_succ_eq_append_getElem hkl, hpe, cutF_snoc, hsp]; rfl
      have HST := Lib.hid hstep
      have HRD := Lib.hid hrgd
      have HNR := Lib.hid hnr
      rw [hnr] at hcr hrl hcS2
      have hlen0 : (cutF b.sets (fo.take k)).length ≤ 2 * 257 * k := Nat.le_trans (cutF_len HSL.out.1 _) (Nat.mul_le_mul_left _ (List.length_take_le _ _))
      obtain ⟨L0, hL0⟩ : ∃ L, cutF b.sets (fo.take k) = L := ⟨_, rfl⟩
      rw [hL0] at HC HST hlen0
      have HBWR := Lib.hid HBW.out
      clear hcell hpe hpm hpl hcS hrg hrs hrgc hrgd hsp hstep hrow hkl hL0 HBW
      go_wp2_with fail
      obtain ⟨WO, rfl⟩ : ∃ W : World, W = wr := ⟨_, rfl⟩
      go_loopw [32, 5] (fun jv cu2 wr => ∃ j : Nat, j ≤ nr ∧ jv = .int .i64 (j : Int) ∧ Hid (CU w.heap.size cu2 (L0 ++ cutR (rs.take j)) wr) ∧ Hid (Below w.heap.size w wr)) (fun jv _ _ => nr - (intOf jv).toNat)
      case atStart => exact ⟨0, Nat.zero_le _, rfl, by rw [List.take_zero]; simp only [cutR, List.append_nil]; exact HC, HBWR⟩
      case round =>
        obtain ⟨j, hj, rfl, HC2, HB2⟩ := hrel
        by_cases hlt2 : j < nr
        · have hd2 : decide ((j : Int) < (nr : Int)) = true := decide_eq_true (by omega)
          have hjl : j < rs.length := by rw [HNR.out]; exact hlt2
          obtain ⟨g2, f2, rfl, hg2, hcr2⟩ := HRD.out.resolve_left (fun e => by rw [e] at hjl; cases hjl)
          obtain ⟨⟨q1, q2⟩, q3, q4⟩ := hcr2 j hjl
          have hw2 := HB2.out.size
          have hblk : wr.heap[g2]? = w0.heap[g2]? := (HB2.out.block g2 (by omega)).trans (HBEL.out.block g2 hg2)
          have r1 := (World.cell?_of_block (a := ⟨g2, f2 + j * 2, none⟩) hblk).trans q1
          have r2 := (World.cell?_of_block (a := ⟨g2, f2 + j * 2 + 1, none⟩) hblk).trans q2
          have hg2l : g2 < wr.heap.size := by omega
          obtain ⟨lo, hi, hx⟩ : ∃ lo hi, rs[j] = (lo, hi) := ⟨_, _, rfl⟩
          rw [hx] at r1 r2 q3 q4
          have hst2 : (L0 ++ cutR (rs.take j)) ++ [lo, hi + 1] = L0 ++ cutR (rs.take (j + 1)) := by rw [List.take_succ_eq_append_getElem hjl, hx, cutR_snoc, List.append_assoc]
          have HS2 := Lib.hid hst2
          have hln2 : (L0 ++ cutR (rs.take j)).length ≤ 1000000 := by
            have := List.length_take_le j rs
            rw [List.length_append, cutR_len]; omega
          obtain ⟨Ac, nc, cc, rfl⟩ : ∃ A n c, u5 = .slice A n c := by
            obtain ⟨A, c, e, -⟩ := own_form HC2.out.1
            exact ⟨_, _, _, e⟩
          have HL2 := Lib.hid hln2
          clear hcr2 q1 q2 hblk hx hst2 hln2 hjl
          have hownA : (wr.alloc (.cells #[.int .u8 (lo : Int), .int .u8 (hi : Int)] 98)).ownsRow w.heap.size 3 1 (.slice Ac nc cc) (L0 ++ cutR (rs.take j)).length (ints (L0 ++ cutR (rs.take j))) := HC2.out.1.alloc _
          have hszA : (wr.alloc (.cells #[.int .u8 (lo : Int), .int .u8 (hi : Int)] 98)).heap.size = wr.heap.size + 1 := by simp
          go_wp2_with (at_builtin; refine app_new (w := wr.alloc (.cells #[.int .u8 (lo : Int), .int .u8 (hi : Int)] 98)) Tryz.underlying22 hii hj0 hj1 hj2 rfl _ _ _ _ 2 2 _ [.int .i64 (lo : Int), .int .i64 ((hi : Int) + 1)] w.heap.size rfl rfl rfl (by rw [hszA]; rfl) rfl hownA (by intro u hu; simp at hu; rcases hu with rfl | rfl <;> rfl) (by have := HL2.out; omega) (by have := HL2.out; omega) (by omega) ?_)
          intro v' w3 hown3 hb3 hnil3
          obtain ⟨A', n', c', rfl⟩ : ∃ A n c, v' = .slice A n c := by
            obtain ⟨A, c, e, -⟩ := own_form hown3
            exact ⟨_, _, _, e⟩
          have hcu3 : CU w.heap.size (.slice A' n' c') (L0 ++ cutR (rs.take (j + 1))) w3 := by
            rw [← HS2.out]
            refine ⟨?_, .inr (by simp)⟩
            rw [ints_app, List.length_append, List.length_append]
            have : ints [lo, hi + 1] = [.int .i64 (lo : Int), .int .i64 ((hi : Int) + 1)] := by simp [ints]
            rw [this]; exact hown3
          have HC3 := Lib.hid hcu3
          have HB3 := Lib.hid (HB2.out.trans ((((Below.refl w.heap.size wr).alloc (by omega) _)).trans (hb3.mono (Nat.le_refl _))))
          clear hown3 hb3 hnil3 hcu3 hownA
          go_wp2_with fail
          go_roundw
          case rel => exact ⟨j + 1, by omega, by go_num, HC3, HB3⟩
          case measure => simp [intOf]; omega
        · obtain rfl : j = nr := by omega
          have hd2 : decide ((j : Int) < (j : Int)) = false := decide_eq_false (by omega)
          have hc4 := HC2.out
          rw [List.take_of_length_le (by rw [HNR.out]; exact Nat.le_refl _), HST.out] at hc4
          have HC4 := Lib.hid hc4
          clear hc4
          go_wp2_with fail
          go_roundw
          case rel => exact ⟨k + 1, by omega, by go_num, HC4, HB2⟩
          case measure => simp [intOf]; omega
    · obtain rfl : k = nf := by omega
      have hd : decide ((k : Int) < (k : Int)) = false := decide_eq_false (by omega)
      have hcu := HC.out
      rw [List.take_of_length_le (by rw [HN.out.1]; exact Nat.le_refl _)] at hcu
      have hlenL : (cutF b.sets fo).length ≤ 2 * 257 * k := by rw [← HN.out.1]; exact cutF_len HSL.out.1 _
      have hso := sorted_any u5 _ wr hcu.il (by omega)
      have HSO := Lib.hid hso
      obtain ⟨Ac, nc, cc, rfl⟩ : ∃ A n c, u5 = .slice A n c := by
        obtain ⟨A, c, e, -⟩ := own_form hcu.1
        exact ⟨_, _, _, e⟩
      clear hcu hso HC
      go_wp2_with fail
      refine HSO.out.mono ?_
      rintro e wB ⟨vc, cuts, rfl, hsf, hown, hil, hbB⟩
      have hci : CutI b fo cuts := ⟨hsf.1, fun p hp r hr => by
        have := cutF_mem (sets := b.sets) hp hr
        exact ⟨(hsf.2 _).2 this.1, (hsf.2 _).2 this.2⟩, fun v hv => cutF_le HSL.out.2 v ((hsf.2 v).1 hv)⟩
      have hB := HBW.out.trans (hbB.mono HBW.out.size)
      have hout : outOf (fpG s mb vg) vc := fun g hg hm => by have := (hown.lt g hg).1; have := (HLT.out g hm).2; have := HBW.out.size; omega
      have hstart : EgR w0 s mb (.slice Av ns cv) v1 v2 b gs (fpG s mb vg) fo wB cuts 0 [] gs (fpG s mb vg) (.slice none 0 0) wB :=
        ⟨OR.nil_ _ _ _, fun g hg => by simp [Value.ownBlock] at hg, SbI.later ⟨vg, gv, F, rfl, HB.out⟩ hB, KeepF.refl _ _, hci.start gs, GrowG.refl _ _ _, ⟨by omega, by simp⟩⟩
      obtain ⟨Av', cv', rfl, hcv1, hcv2⟩ := hil.form
      obtain ⟨nc, hnc⟩ : ∃ n, cuts.length = n := ⟨_, rfl⟩
      have hnc257 : nc ≤ 257 := by rw [← hnc]; exact asc_len (a := 0) hsf.1 fun p hp => ⟨Nat.zero_le _, by have := hci.le p hp; omega⟩
      rw [hnc] at hcv1
      have HST := Lib.hid hstart
      have HCI := Lib.hid hci
      have HIL := Lib.hid (And.intro hil hout)
      have HBB := Lib.hid hB
      have HNC := Lib.hid hnc
      rw [hnc]
      have hwB := hB.size
      clear hsf hown hil hbB hci hB hout hstart hnc
      go_wp2_with fail
      go_loopw [10, 11] (fun ov iv wr => ∃ (i : Nat) (row : List Ed) (gs' : List (List Nat)) (fp' : List Nat), (i = 0 ∨ i + 1 ≤ nc) ∧ iv = .int .i64 (i : Int) ∧ Hid (EgR w0 s mb (.slice Av ns cv) v1 v2 b gs (fpG s mb vg) fo wB cuts i row gs' fp' ov wr)) (fun _ iv _ => nc - (intOf iv).toNat)
      case atStart => exact ⟨0, [], gs, fpG s mb vg, .inl rfl, rfl, HST⟩
      case round =>
        obtain ⟨i, row, gs', fp', hi, rfl, HE⟩ := hrel
        have hkf := HE.out.kf
        obtain ⟨hswr, d0, -, -⟩ := HE.out.sb.cells
        obtain ⟨Ao, no, co, rfl⟩ : ∃ A n c, u10 = .slice A n c := by
          obtain ⟨A, c, e, -⟩ := own_form HE.out.own
          exact ⟨_, _, _, e⟩
        by_cases hlt3 : i + 1 < nc
        · have hd3 : decide ((i : Int) + 1 < (nc : Int)) = true := decide_eq_true (by omega)
          have hic : i + 1 < cuts.length := by rw [HNC.out]; exact hlt3
          obtain ⟨hl1, hl2⟩ := HCI.out.lt hic
          have hilw := (HIL.out.1.keep HIL.out.2 hkf).1
          obtain ⟨gc, fc, rfl, hgc, hcc⟩ := hilw.at_ (show i < cuts.length by omega)
          obtain ⟨gc', fc', e', -, hcc'⟩ := hilw.at_ hic
          obtain ⟨rfl, rfl⟩ : gc = gc' ∧ fc = fc' := by injection e' with e'; injection e' with e1 e2; exact ⟨e1, e2⟩
          have z0 := hcc wr rfl
          have z1 := hcc' wr rfl
          have e1 : vAt cuts i = cuts[i] := by unfold vAt; rw [List.getElem?_eq_getElem (by omega)]; rfl
          have e2 : vAt cuts (i + 1) = cuts[i + 1] := by unfold vAt; rw [List.getElem?_eq_getElem hic]; rfl
          obtain ⟨lo, hlo⟩ : ∃ x, vAt cuts i = x := ⟨_, rfl⟩
          obtain ⟨hi', hhi⟩ : ∃ x, vAt cuts (i + 1) = x := ⟨_, rfl⟩
          rw [← e1, hlo] at z0
          rw [← e2, hhi] at z1
          rw [hlo, hhi] at hl1
          rw [hhi] at hl2
          have w1 : IntKind.u8.wrap (lo : Int) = (lo : Int) := IntWalk.u8_in _ (by omega)
          have w2 : IntKind.u8.wrap ((hi' : Int) - 1) = (hi' : Int) - 1 := IntWalk.u8_in _ (by omega)
          have w3 : IntKind.i64.wrap ((i : Int) + 1) = (i : Int) + 1 := IntWalk.i64_in _ (by omega)
          have w4 : ((i : Int) + 1).toNat = i + 1 := by omega
          have w5 : IntKind.i64.wrap ((hi' : Int) - 1) = (hi' : Int) - 1 := IntWalk.i64_in _ (by omega)
          have HVA := Lib.hid (And.intro hlo hhi)
          have HIW := Lib.hid hilw
          clear hcc hcc' e' e1 e2 hilw hlo hhi
          go_wp2_with fail
          go_quiet (fail)
          go_wp2_with fail
          obtain ⟨WO, rfl⟩ : ∃ W : World, W = wr := ⟨_, rfl⟩
          go_loopw [71, 14] (fun jv gvv wr => ∃ j : Nat, j ≤ k ∧ jv = .int .i64 (j : Int) ∧ Hid (CU WO.heap.size gvv (selG b (fo.take j) lo) wr) ∧ Hid (Below WO.heap.size WO wr)) (fun jv _ _ => k - (intOf jv).toNat)
          case atStart => exact ⟨0, Nat.zero_le _, rfl, ⟨World.ownsRow_nil _ _ _ _, .inl rfl⟩, ⟨rfl, rfl, rfl, Nat.le_refl _, fun _ _ => rfl⟩⟩
          case round =>
            obtain ⟨j, hj, rfl, HC4, HB4⟩ := hrel
            have hw4 := HB4.out.size
            by_cases hlt4 : j < k
            · have hd4 : decide ((j : Int) < (k : Int)) = true := decide_eq_true (by omega)
              have hjl : j < fo.length := by rw [HN.out.1]; exact hlt4
              have hfo4 := ((HV.out.later HBB.out).keep HO.out hkf).1
              obtain ⟨gf, ff, rfl, hgf, hcf⟩ := hfo4.at_ hjl
              have hc0 := hcf wr (HB4.out.block gf hgf)
              obtain ⟨p, hpe⟩ : ∃ p, fo[j] = p := ⟨_, rfl⟩
              have hpm : p ∈ fo := by rw [← hpe]; exact List.getElem_mem hjl
              have hpl := HFO.out p hpm
              obtain ⟨gS, rv, rfl, -, hgS, hcS, hrg⟩ := ((HS.out.later HBB.out).keep hkf).at_ hpl
              have hcS2 := (World.cell?_of_block (a := ⟨gS, p, none⟩) (HB4.out.block gS hgS)).trans hcS
              rw [hpe] at hc0
              have hpn : p < ns := by rw [← HN.out.2]; exact hpl
              have hdp : decide (p < ns) = true := decide_eq_true hpn
              obtain ⟨rs, hrs⟩ : ∃ rs, b.sets[p] = rs := ⟨_, rfl⟩
              rw [hrs] at hrg
              have d04 := (World.cell?_of_block (a := ⟨s, 0, none⟩) (HB4.out.block s hswr)).trans d0
              have hb0 : Below w0.heap.size w0 wr := by
                have h1 := HBEL.out.trans (HBB.out.mono hw0w)
                have h2 : Below w0.heap.size wB WO := hkf.below (fun q hq => (HLT.out q hq).1) (by omega)
                exact (h1.trans h2).trans (HB4.out.mono (by have := h2.size; omega))
              have hrw := hrg.later hb0
              have hbt : inR rs lo = setP b p lo := by unfold setP; rw [List.getElem?_eq_getElem hpl, hrs]; rfl
              have hsel : selG b (fo.take (j + 1)) lo = if setP b p lo = true then selG b (fo.take j) lo ++ [p] else selG b (fo.take j) lo := by
                unfold selG
                rw [List.take_succ_eq_append_getElem hjl, hpe, List.filter_append]
                by_cases hx : setP b p lo = true <;> simp [hx]
              have HH := Lib.hid (fun W (h : RgIn W rv rs) => holds_any rv rs lo W h)
              have HRW := Lib.hid hrw
              obtain ⟨q, hq⟩ : ∃ q, inR rs lo = q := ⟨_, rfl⟩
              rw [hq] at HH hbt
              rw [← hbt] at hsel
              have HSE := Lib.hid hsel
              have hln4 : (selG b (fo.take j) lo).length ≤ 1000 := by
                have h1 : (selG b (fo.take j) lo).length ≤ (fo.take j).length := List.length_filter_le _ _
                have h2 := List.length_take_le j fo
                omega
              obtain ⟨Ag4, ng4, cg4, rfl⟩ : ∃ A n c, u14 = .slice A n c := by
                obtain ⟨A, c, e, -⟩ := own_form HC4.out.1
                exact ⟨_, _, _, e⟩
              obtain ⟨Ar, cr, hrf, -⟩ := id hrw
              obtain ⟨nr4, hnr4⟩ : ∃ n, rs.length = n := ⟨_, rfl⟩
              rw [hnr4] at hrf
              subst hrf
              have hgSr : gS < wr.heap.size := by omega
              have hgfr : gf < wr.heap.size := by omega
              have hsr : s < wr.heap.size := by omega
              have HLN4 := Lib.hid hln4
              clear hcf hpe hpm hpl hcS hrg hrs hb0 hrw hbt hsel hq hln4 hjl hfo4
              go_wp2_with fail
              refine (HH.out _ HRW.out).mono ?_
              rintro e w5 ⟨rfl, hb5⟩
              have HC5 := Lib.hid (HC4.out.later hb5)
              have HB5 := Lib.hid (HB4.out.trans (hb5.mono hw4))
              have hw5 := hb5.size
              clear hb5
              cases q with
              | false =>
                have hse := HSE.out
                rw [if_neg (by decide)] at hse
                have hc6 := HC5.out
                rw [← hse] at hc6
                have HC6 := Lib.hid hc6
                clear hc6 hse
                go_wp2_with fail
                go_roundw
                case rel => exact ⟨j + 1, by omega, by go_num, HC6, HB5⟩
                case measure => simp [intOf]; omega
              | true =>
                have hse := HSE.out
                rw [if_pos rfl] at hse
                have HS6 := Lib.hid hse
                clear hse
                have hown5 := HC5.out.1
                go_wp2_with (at_builtin; refine app_new (w := w5) Tryz.underlying22 hii hj0 hj1 hj2 rfl _ _ _ _ 1 1 _ [.int .i64 (p : Int)] WO.heap.size rfl rfl rfl rfl rfl hown5 (by intro u hu; simp at hu; subst hu; rfl) (by have := HLN4.out; omega) (by have := HLN4.out; omega) (by omega) ?_)
                intro v' w6 hown6 hb6 hnil6
                obtain ⟨A', n', c', rfl⟩ : ∃ A n c, v' = .slice A n c := by
                  obtain ⟨A, c, e, -⟩ := own_form hown6
                  exact ⟨_, _, _, e⟩
                have hcu6 : CU WO.heap.size (.slice A' n' c') (selG b (fo.take (j + 1)) lo) w6 := by
                  rw [HS6.out]
                  refine ⟨?_, .inr (by simp)⟩
                  rw [ints_app, List.length_append]
                  exact hown6
                have HC6 := Lib.hid hcu6
                have HB6 := Lib.hid (HB5.out.trans hb6)
                clear hown6 hb6 hnil6 hcu6 hown5
                go_wp2_with fail
                go_roundw
                case rel => exact ⟨j + 1, by omega, by go_num, HC6, HB6⟩
                case measure => simp [intOf]; omega
            · obtain rfl : j = k := by omega
              have hd4 : decide ((j : Int) < (j : Int)) = false := decide_eq_false (by omega)
              have hc7 := HC4.out
              rw [List.take_of_length_le (by rw [HN.out.1]; exact Nat.le_refl _)] at hc7
              have hsb4 := HE.out.sb.later HB4.out
              have hown4 : OR 169 3 edC wB.heap.size (.slice Ao no co) row wr := HE.out.own.later HB4.out
              have hkf4 := hkf.trans (KeepF.of_below HB4.out)
              have hil7 := hc7.il
              have hti7 := TI.of_own hc7.1
              have hou7 : outOf fp' (u14) := fun g hg hm => by have := (hc7.1.lt g hg).1; have := (HE.out.sb.lt g hm).2; omega
              have hgl := HE.out.ln
              by_cases hS0 : selG b fo lo = []
              · have hR1 := HCI.out.skip hic HE.out.ri (by rw [HVA.out.1]; exact hS0)
                obtain ⟨A7, c7, e7, -⟩ := own_form hc7.1
                rw [hS0, List.length_nil] at e7
                subst e7
                have HEN : Hid (EgR w0 s mb (.slice Av ns cv) v1 v2 b gs (fpG s mb vg) fo wB cuts (i + 1) row gs' fp' (.slice Ao no co) wr) := ⟨hown4, HE.out.out, hsb4, hkf4, hR1, HE.out.gg, by omega⟩
                clear hc7 hsb4 hown4 hkf4 hil7 hti7 hou7 hS0 hR1
                go_wp2_with fail
                go_roundw
                case rel => exact ⟨i + 1, row, gs', fp', .inr (by omega), by go_num, HEN⟩
                case measure => simp [intOf]; omega
              · obtain ⟨A7, c7, e7, hc7a, hc7b⟩ := own_form hc7.1
                obtain ⟨SS, hSS⟩ : ∃ x, selG b fo lo = x := ⟨_, rfl⟩
                obtain ⟨n7, hn7⟩ : ∃ n, SS.length = n := ⟨_, rfl⟩
                rw [hSS, hn7] at e7 hc7a
                subst e7
                have hn70 : 0 < n7 := by rw [← hn7]; rw [hSS] at hS0; cases SS with | nil => exact absurd rfl hS0 | cons a r => simp
                have hd7 : decide ((0 : Int) < (n7 : Int)) = true := decide_eq_true (by omega)
                have hn7l : n7 ≤ 1000 := by
                  rw [← hn7, ← hSS]
                  have h1 : (selG b fo lo).length ≤ fo.length := List.length_filter_le _ _
                  rw [HN.out.1] at h1; omega
                have hvrw : VrOK wr := by
                  have h1 := HVR.out.later HBB.out
                  have hlow := HVR.out.low
                  have h2 : Below w.heap.size wB WO → VrOK WO := fun h => h1.below h hlow
                  have h3 : VrOK WO := h1.of_low hkf.size fun q hq => hkf.blk q (by omega) fun hm => by have := (HLT.out q hm).1; omega
                  exact h3.later HB4.out
                rw [hSS] at hil7
                have hnum := number_any w0.heap.size s mb _ v1 v2 gs' fp' wr SS _ hsb4 hil7 hou7 hti7 (by omega) (fun p hp => by rw [← hSS] at hp; have := HFO.out p (selG_mem.1 hp).1; have := HN.out.2; omega) (by have := HGS.out; omega) hvrw
                have HNU := Lib.hid hnum
                have HO4 := Lib.hid hown4
                have HK4 := Lib.hid hkf4
                have HSS := Lib.hid (And.intro hSS hS0)
                have hswr4 : s < wr.heap.size := by omega
                clear hc7 hnum hown4 hkf4 hsb4 hil7 hti7 hou7 hSS hS0 hn7 hvrw
                go_wp2_with fail
                refine HNU.out.mono ?_
                rintro e w8 ⟨fp8, rfl, hsb8, hkf8⟩
                obtain ⟨n8, hn8⟩ : ∃ n, (addG gs' SS).idxOf SS = n := ⟨_, rfl⟩
                rw [hn8]
                have ho8 : OR 169 3 edC wB.heap.size (.slice Ao no co) row w8 := HO4.out.keep fun q hq => hkf8.blk q (World.ownsRow.lt HO4.out q hq).2 (HE.out.out q hq)
                have hout8 := outOf_keep HE.out.out (fun q hq => (World.ownsRow.lt HO4.out q hq).2) hkf8
                have HK8 := Lib.hid (HK4.out.trans hkf8)
                have HS8 := Lib.hid hsb8
                have HO8 := Lib.hid ho8
                have HU8 := Lib.hid hout8
                have HN8 := Lib.hid hn8
                have hz8 := hkf8.size
                have hownA : (w8.alloc (.cells #[.int .u8 (lo : Int), .int .u8 ((hi' : Int) - 1), .int .i64 (n8 : Int)] 169)).ownsRow wB.heap.size 169 3 (.slice Ao no co) row.length (rowF edC row) := World.ownsRow.alloc ho8 _
                have hcx : ∀ j u, [Value.int .u8 (lo : Int), .int .u8 ((hi' : Int) - 1), .int .i64 (n8 : Int)][j]? = some u → (w8.alloc (.cells #[.int .u8 (lo : Int), .int .u8 ((hi' : Int) - 1), .int .i64 (n8 : Int)] 169)).cell? ((⟨w8.heap.size, 0, none⟩ : Addr).add j) = some u := by
                  intro j u hj
                  rw [Addr.add_lit, Nat.zero_add, World.cell?_alloc_mark]
                  simpa using hj
                obtain ⟨i3, hi3, hk0, hk1, hk2⟩ := info_parts info_ed
                clear hsb8 hkf8 ho8 hout8 hn8
                have hbz : wB.heap.size ≤ (w8.alloc (.cells #[.int .u8 (lo : Int), .int .u8 ((hi' : Int) - 1), .int .i64 (n8 : Int)] 169)).heap.size := by have := HK8.out.size; simp; omega
                go_wp2_with (at_builtin; refine appI_at rfl _ _ 167 rfl wB.heap.size 169 i3 _ 3 16 Tryz.underlying167 hi3 hk0 hk1 hk2 rfl (by decide) _ row.length (rowF edC row) rfl hownA ⟨w8.heap.size, 0, none⟩ 1 1 [.int .u8 (lo : Int), .int .u8 ((hi' : Int) - 1), .int .i64 (n8 : Int)] rfl rfl hcx (by intro u hu; simp at hu; rcases hu with rfl | rfl | rfl <;> rfl) (by unfold maxLen; omega) (by omega) hbz ?_)
                intro v' w9 hown9 hg9 hf9
                obtain ⟨A9, n9, c9, rfl⟩ : ∃ A n c, v' = .slice A n c := by
                  obtain ⟨A, c, e, -⟩ := own_form hown9
                  exact ⟨_, _, _, e⟩
                have hEN : EgR w0 s mb (.slice Av ns cv) v1 v2 b gs (fpG s mb vg) fo wB cuts (i + 1) (row ++ [⟨lo, hi' - 1, n8⟩]) (addG gs' SS) fp8 (.slice A9 n9 c9) w9 := by
                  have hBA : Below w8.heap.size w8 (w8.alloc (.cells #[.int .u8 (lo : Int), .int .u8 ((hi' : Int) - 1), .int .i64 (n8 : Int)] 169)) := (Below.refl _ _).alloc (Nat.le_refl _) _
                  have hzA : (w8.alloc (.cells #[.int .u8 (lo : Int), .int .u8 ((hi' : Int) - 1), .int .i64 (n8 : Int)] 169)).heap.size = w8.heap.size + 1 := by simp
                  refine ⟨?_, ?_, (HS8.out.later hBA).grown hownA (by decide) HU8.out hg9, ((HK8.out.trans (KeepF.of_below hBA)).grown hg9 fun q hq => (hownA.lt q hq).1), ?_, ?_, ?_⟩
                  · show w9.ownsRow _ _ _ _ (row ++ [_]).length (rowF edC (row ++ [_]))
                    rw [rowF_app, rowF_single, List.length_append]
                    have : edC ⟨lo, hi' - 1, n8⟩ = [Value.int .u8 (lo : Int), .int .u8 ((hi' : Int) - 1), .int .i64 (n8 : Int)] := by
                      unfold edC
                      simp only [List.cons.injEq, Value.int.injEq, true_and, and_true]
                      omega
                    rw [this]; exact hown9
                  · intro q hq
                    rcases hf9 with hf | ⟨q', hf, hq'⟩
                    · rw [hf] at hq; exact HU8.out q hq
                    · rw [hf] at hq; injection hq with hq; subst hq
                      intro hm; have := (HS8.out.lt q' hm).2; omega
                  · have := HCI.out.add hic HE.out.ri (by
                      have hg := HE.out.gg
                      obtain ⟨more, e, -, -⟩ := hg
                      rw [e]
                      have hl : 0 < gs.length := (List.getElem?_eq_some_iff.1 H0.out).1
                      rw [List.getElem?_append_left hl]; exact H0.out) (by rw [HVA.out.1]; exact HSS.out.2)
                    rw [HVA.out.1, HVA.out.2, HSS.out.1, HN8.out] at this
                    rw [HVA.out.2]; exact this
                  · have := HE.out.gg.add (c := lo) (by omega) HSS.out.2
                    rw [HSS.out.1] at this; exact this
                  · have h1 := (addG_len gs' SS).2
                    rw [List.length_append, List.length_singleton]; omega
                have HEN := Lib.hid hEN
                clear hown9 hg9 hf9 hEN hownA hcx hbz
                go_wp2_with fail
                go_roundw
                case rel => exact ⟨i + 1, _, _, fp8, .inr (by omega), by go_num, HEN⟩
                case measure => simp [intOf]; omega
        · have hd3 : decide ((i : Int) + 1 < (nc : Int)) = false := decide_eq_false (by omega)
          have w3 : IntKind.i64.wrap ((i : Int) + 1) = (i : Int) + 1 := IntWalk.i64_in _ (by omega)
          go_wp2_with fail
          refine post_named fun Wf hWf => ?_
          subst hWf
          refine bodyPost_ret (v := .slice Ao no co) (by simp [results, Tryz.results137, go_sem]; try rfl) rfl ?_
          have hri := HCI.out.done (by rw [HNC.out]; omega) HE.out.ri
          exact ⟨row, gs', fp', _, rfl, ⟨EdIn.of_OR HE.out.own, HE.out.out, fun g hg => ⟨Nat.le_trans HBB.out.size (World.ownsRow.lt HE.out.own g hg).1, (World.ownsRow.lt HE.out.own g hg).2⟩⟩, HE.out.sb, (KeepF.of_below HBB.out).trans hkf, hri, HE.out.gg, by have := HE.out.ln; omega, by have := HE.out.ln; omega⟩
end Go.Proofs.YtoaibhacognbjaaGreatDoor
namespace Go.Proofs.YtoaibhacognbjaaGreatDoor
set_option linter.unusedVariables false
set_option linter.unusedSimpArgs false
set_option maxRecDepth 100000
open Go.RowKit
open Go.Maps (Keyed)
/-! ### Footprints -/
theorem KeepF.appL {f1 f2 : List Nat} (g : List Nat) {a b : World} (h : KeepF f1 f2 a b) : KeepF (f1 ++ g) (f2 ++ g) a b :=
  ⟨h.os, h.tape, h.output, h.size, fun k hk hn => h.blk k hk fun hm => hn (List.mem_append_left _ hm), fun k hk => (List.mem_append.1 hk).elim (fun hm => (h.new k hm).imp (List.mem_append_left _) id) fun hm => .inl (List.mem_append_right _ hm)⟩
theorem KeepF.appR {f1 f2 : List Nat} (g : List Nat) {a b : World} (h : KeepF f1 f2 a b) : KeepF (g ++ f1) (g ++ f2) a b :=
  ⟨h.os, h.tape, h.output, h.size, fun k hk hn => h.blk k hk fun hm => hn (List.mem_append_right _ hm), fun k hk => (List.mem_append.1 hk).elim (fun hm => .inl (List.mem_append_left _ hm)) fun hm => (h.new k hm).imp (List.mem_append_right _) id⟩
/-- A slice value that reads as a list of ints keeps out of what is written. -/
theorem SL.out {fp fp' : List Nat} {w w' : World} {v : Value} {l : List Nat} (h : SL w v l) (ho : outOf fp v) (hk : KeepF fp fp' w w') (hl : ∀ g, v.ownBlock = some g → g < w.heap.size) : SL w' v l ∧ outOf fp' v :=
  ⟨h.keep ho hk, fun g hg hm => (hk.new g hm).elim (ho g hg) fun hz => by have := hl g hg; omega⟩
/-! ### What a compile reads -/
def FolC (L : List Nat) (w : World) (v : Value) (fol : List (List Nat)) : Prop := ∃ g c, v = .slice (some ⟨g, 0, none⟩) fol.length c ∧ (fol.length ≤ c ∧ c ≤ 9223372036854775807) ∧ g < w.heap.size ∧ g ∉ L ∧
  ∀ i (h : i < fol.length), ∃ rv, w.cell? ⟨g, i, none⟩ = some rv ∧ SL w rv fol[i] ∧ outOf L rv ∧ (∀ k, rv.ownBlock = some k → k < w.heap.size) ∧ ∀ n c, rv = .slice none n c → c = 0
def EnC (L : List Nat) (w : World) (v : Value) (n : Nat) (last : List Nat) : Prop := ∃ g, v = .slice (some ⟨g, 0, none⟩) n n ∧ g < w.heap.size ∧ g ∉ L ∧ ∀ p, p < n → w.cell? ⟨g, p, none⟩ = some (.bool (decide (p ∈ last)))
theorem FolC.keep {L L' : List Nat} {w w' : World} {v : Value} {fol : List (List Nat)} (h : FolC L w v fol) (hk : KeepF L L' w w') : FolC L' w' v fol := by
  obtain ⟨g, c, rfl, hc, hg, hn, hcell⟩ := h
  refine ⟨g, c, rfl, hc, Nat.lt_of_lt_of_le hg hk.size, fun hm => (hk.new g hm).elim hn (fun h => by omega), fun i hi => ?_⟩
  obtain ⟨rv, h1, h2, h3, h4, h5⟩ := hcell i hi
  obtain ⟨q1, q2⟩ := h2.out h3 hk h4
  exact ⟨rv, (World.cell?_of_block (a := ⟨g, i, none⟩) (hk.blk g hg hn)).trans h1, q1, q2, fun k hk2 => Nat.lt_of_lt_of_le (h4 k hk2) hk.size, h5⟩
theorem EnC.keep {L L' : List Nat} {w w' : World} {v : Value} {n : Nat} {last : List Nat} (h : EnC L w v n last) (hk : KeepF L L' w w') : EnC L' w' v n last := by
  obtain ⟨g, rfl, hg, hn, hcell⟩ := h
  exact ⟨g, rfl, Nat.lt_of_lt_of_le hg hk.size, fun hm => (hk.new g hm).elim hn (fun h => by omega), fun p hp => (World.cell?_of_block (a := ⟨g, p, none⟩) (hk.blk g hg hn)).trans (hcell p hp)⟩
/-- All that is read alone. -/
structure CpS (w0 : World) (L : List Nat) (v0 v1 v2 : Value) (b : Pb) (x : Prt) (P : Nat) (vx vy : Value) (w : World) : Prop where
  set : SetC w0 L w v0 b.sets
  fol : FolC L w v1 b.fol
  ends : EnC L w v2 b.sets.length x.last
  prt : w.heap[P]? = some (.cells #[vx, vy, .bool x.emp] 184 (0, 0)) ∧ P ∉ L
  fst : IL w vx x.first ∧ outOf L vx
theorem CpS.keep {w0 : World} {L L' : List Nat} {v0 v1 v2 : Value} {b : Pb} {x : Prt} {P : Nat} {vx vy : Value} {w w' : World} (h : CpS w0 L v0 v1 v2 b x P vx vy w) (hk : KeepF L L' w w') : CpS w0 L' v0 v1 v2 b x P vx vy w' := by
  have hP := (Array.getElem?_eq_some_iff.1 h.prt.1).1
  exact ⟨h.set.keep hk, h.fol.keep hk, h.ends.keep hk, ⟨(hk.blk P hP h.prt.2).trans h.prt.1, fun hm => (hk.new P hm).elim h.prt.2 (fun h => by omega)⟩, h.fst.1.keep h.fst.2 hk⟩
theorem CpS.later {w0 : World} {L : List Nat} {v0 v1 v2 : Value} {b : Pb} {x : Prt} {P : Nat} {vx vy : Value} {w w' : World} (h : CpS w0 L v0 v1 v2 b x P vx vy w) (hb : Below w.heap.size w w') : CpS w0 L v0 v1 v2 b x P vx vy w' := h.keep (KeepF.of_below hb)
/-- Groups, while rows of other elements are written. -/
theorem SbI.apart {B s mb : Nat} {v0 v1 v2 : Value} {gs : List (List Nat)} {fp L L' : List Nat} {w w' : World} (h : SbI B s mb v0 v1 v2 gs fp w) (hk : KeepF L L' w w') (hd : ∀ k ∈ L, k ∉ fp) (ht : ∀ k ∈ L, ∃ cs e m, w.heap[k]? = some (.cells cs e m) ∧ e ≠ 3) : SbI B s mb v0 v1 v2 gs fp w' := by
  obtain ⟨vg, gv, F, rfl, h⟩ := h
  refine ⟨vg, gv, F, rfl, h.same (fun k hm => hk.blk k (h.lt k hm).2 fun hl => hd k hl hm) hk.size fun v l hi _ hti => ?_⟩
  have ho : outOf L v := fun g hg hl => by
    obtain ⟨cs, m, e1⟩ := hti g hg
    obtain ⟨cs', e', m', e2, hne⟩ := ht g hl
    rw [e1] at e2
    injection e2 with e2
    injection e2 with _ e3 _
    exact hne e3.symm
  exact ⟨(hi.keep ho hk).1, hti.keep ho hk⟩
theorem MkM.types {B N : Nat} {fx : List Nat} {vE vA : Value} {gv : List Value} {rs : List (List Ed)} {acs : List Bool} {w : World} (h : MkM B N fx vE vA gv rs acs w) : ∀ k ∈ fpM N vE vA, ∃ cs e m, w.heap[k]? = some (.cells cs e m) ∧ e ≠ 3 := fun k hk => by
  rcases mem_fpM.1 hk with rfl | hk | hk
  · exact ⟨_, _, _, h.hN, by decide⟩
  · obtain ⟨cs, m, e⟩ := own_type h.own k hk; exact ⟨cs, _, m, e, by decide⟩
  · obtain ⟨cs, m, e⟩ := own_type (show w.ownsRow _ _ _ _ _ _ from h.acc) k hk; exact ⟨cs, _, m, e, by decide⟩
/-- An append of a list that is read, nil or not. -/
theorem app_CU {P : Program} {i0 : TypeInfo} {T e : TypeId} (ht : P.underlying T = some (.slice e)) (hi : P.info? e = some i0) (hz0 : i0.zero = some (.int .i64 0)) (hz1 : i0.size = 1) (hz2 : i0.bytes = 8) (he : e = 3)
    {w : World} {ops : Array Oper} {rest : List Oper} {o : Oper} {a : Act} {Q : Exit → Act → World → Prop} (s x : Operand) (v : Value) (A : Option Addr) (n c : Nat) (L l : List Nat) (B : Nat)
    (hgd : o.guard = none) (ho : o.op = .call { callee := .builtin .append, args := #[s, x], argTypes := #[T, T] }) (hs : a.eval s = v) (hx : a.eval x = .slice A n c) (hown : CU B v L w) (hl : SL w (.slice A n c) l) (hA : A = none → c = 0) (hlen : L.length + l.length ≤ 10000000000000) (hB : B ≤ w.heap.size)
    (h : ∀ v' w1, CU B v' (L ++ l) w1 → Below B w w1 → wpList P ops Q rest (a.put o.dst v') w1) : wpList P ops Q (o :: rest) a w := by
  subst he
  obtain ⟨A', c', e', hc, hor⟩ := hl
  injection e' with e1 e2 e3
  subst e1 e2 e3
  rcases hor with rfl | ⟨g, f, rfl, hg, hcell⟩
  · cases A with
    | none =>
      obtain rfl := hA rfl
      refine wpList_append_own_none hgd s x T ho B _ i0 1 ht hi v L.length _ hs hown.1 hx ?_
      exact h v w (by rw [List.append_nil]; exact hown) (Below.refl B w)
    | some ad =>
      refine wpList_append_own _ hgd s x T ho B _ i0 _ 1 8 ht hi hz0 hz1 hz2 rfl (by decide) v L.length _ hs hown.1 ad 0 c [] hx rfl (by intro j u hj; simp at hj) (by intro u hu; cases hu) (by unfold maxLen; simp at hlen; omega) (by simp at hlen; omega) hB ?_
      intro v' w1 hown1 hg hn
      refine h v' w1 ⟨by rw [List.append_nil]; simpa using hown1, ?_⟩ ((Below.refl B w).grown hg hB fun k hk => (hown.1.lt k hk).1)
      rcases hown.2 with h1 | h1
      · exact .inl (hn.2 ⟨h1, rfl⟩)
      · exact .inr (by simpa using h1)
  · refine wpList_append_own _ hgd s x T ho B _ i0 _ 1 8 ht hi hz0 hz1 hz2 rfl (by decide) v L.length _ hs hown.1 ⟨g, f, none⟩ l.length c (ints l) hx (by rw [ints_len, Nat.mul_one]) (fun j u hj => ?_) (fun u hu => ?_) (by unfold maxLen; omega) (by omega) hB ?_
    · unfold ints at hj
      rw [List.getElem?_map] at hj
      cases hq : l[j]? with
      | none => rw [hq] at hj; cases hj
      | some y =>
        rw [hq] at hj
        obtain ⟨hjl, hje⟩ := List.getElem?_eq_some_iff.1 hq
        rw [Addr.add_lit, hcell j hjl, hje]; exact hj
    · unfold ints at hu; obtain ⟨y, -, rfl⟩ := List.mem_map.1 hu; rfl
    · intro v' w1 hown1 hg hn
      refine h v' w1 ⟨by rw [ints_app, List.length_append]; exact hown1, ?_⟩ ((Below.refl B w).grown hg hB fun k hk => (hown.1.lt k hk).1)
      by_cases hl0 : L ++ l = []
      · obtain ⟨h1, h2⟩ := List.append_eq_nil_iff.1 hl0
        exact .inl (hn.2 ⟨hown.2.resolve_right (fun h => h h1), by rw [h2]; rfl⟩)
      · exact .inr hl0
end Go.Proofs.YtoaibhacognbjaaGreatDoor
namespace Go.Proofs.YtoaibhacognbjaaGreatDoor
set_option linter.unusedVariables false
set_option linter.unusedSimpArgs false
set_option maxRecDepth 100000
open Go.RowKit
def factDs (kb lo hi to : Nat) (D0 D1 D2 S5 S6 S12 S13 S17 : ByteArray) : Nat → Nat → Value → World → Prop
  | c, 0, x, w => x = .pointer (some ⟨kb, 0, none⟩)
  | c, 1, x, w => x = .pointer (some ⟨kb, 0, none⟩)
  | c, 2, x, w => x = .int .u8 (lo : Int)
  | c, 3, x, w => x = .int .i64 (lo : Int)
  | c, 4, x, w => x = .string D0
  | c, 5, x, w => x = .string S5
  | c, 6, x, w => x = .string S6
  | c, 7, x, w => x = .pointer (some ⟨kb, 0, none⟩)
  | c, 8, x, w => x = .pointer (some ⟨kb, 1, none⟩)
  | c, 9, x, w => x = .int .u8 (hi : Int)
  | c, 10, x, w => x = .int .i64 (hi : Int)
  | c, 11, x, w => x = .string D1
  | c, 12, x, w => x = .string S12
  | c, 13, x, w => x = .string S13
  | c, 14, x, w => x = .pointer (some ⟨kb, 2, none⟩)
  | c, 15, x, w => x = .int .i64 (to : Int)
  | c, 16, x, w => x = .string D2
  | c, 17, x, w => x = .string S17
  | _, _, _, _ => True
theorem descE_len : ∀ l : List Ed, (∀ e ∈ l, e.lo < 256 ∧ e.hi < 256 ∧ e.to < 1000000) → (descE l).length ≤ 20 * l.length
  | [], _ => Nat.le_refl _
  | e :: r, h => by
    have h1 := descE_len r fun x hx => h x (by simp [hx])
    have h2 := h e (by simp)
    have d0 := dec_len e.lo 2 (by omega)
    have d1 := dec_len e.hi 2 (by omega)
    have d2 := dec_len e.to 6 (by omega)
    simp only [descE, List.length_cons, List.length_append]
    omega
theorem bl_add (a b : ByteArray) : bl (a ++ b) = bl a ++ bl b := by simp [bl]
set_option maxHeartbeats 8000000 in
theorem describe_any (b : Bool) (ev : Value) (l : List Ed) (w : World) (he : EdIn w ev l) (hby : ∀ e ∈ l, e.lo < 256 ∧ e.hi < 256 ∧ e.to < 1000000) (hl : l.length ≤ 100000) (hvr : VrOK w) :
    Calls Tryz.prog 209 #[.bool b, ev] w fun e w' => e = .returned (.string (bs (descT b l))) ∧ Below w.heap.size w w' := by
  obtain ⟨Ae, ce, rfl, hce1, hce2⟩ := he.form
  obtain ⟨nl, hnl⟩ : ∃ n, l.length = n := ⟨_, rfl⟩
  rw [hnl] at he hce1 hl ⊢
  have HE := Lib.hid he
  have HY := Lib.hid hby
  have HN := Lib.hid hnl
  have HVR := Lib.hid hvr
  have HFB := Lib.hid (fun w => Tryz.strconv_FormatBool b w)
  clear he hby hnl hvr
  go_enter Tryz.func209, Tryz.ntmps209
  go_wp2_with (go_at_call 242; refine (HFB.out _).mono ?_; rintro e w1 ⟨rfl, rfl⟩)
  have hi0 : IsB w.heap.size [] (w.alloc (.cells #[.pointer none, .slice none 0 0] 214)) := ⟨Lib.fresh_isBuilder _ _ w, by simp⟩
  have hsb : ((⟨(Lib.formatBool b).toArray⟩ : ByteArray)).size ≤ 1000000 := by cases b <;> decide
  refine (builder_str _ _ _ _ hi0 (by simp) hsb).mono ?_
  rintro e w1 ⟨rfl, hi1, hb1⟩
  have hfb : bl ⟨(Lib.formatBool b).toArray⟩ = boolT b := by cases b <;> rfl
  rw [hfb, List.nil_append] at hi1
  have HI1 := Lib.hid hi1
  have HB1 := Lib.hid (((Below.refl _ w).alloc (Nat.le_refl _) (.cells #[.pointer none, .slice none 0 0] 214)).trans hb1)
  clear hi0 hsb hi1 hb1 hfb
  go_wp2_with fail
  go_loopw [13] (fun iv wr => ∃ k : Nat, k ≤ nl ∧ iv = .int .i64 (k : Int) ∧ Hid (IsB w.heap.size (boolT b ++ descE (l.take k)) wr) ∧ Hid (Below w.heap.size w wr)) (fun iv _ => nl - (intOf iv).toNat)
  case atStart => exact ⟨0, Nat.zero_le _, rfl, by rw [List.take_zero]; simp only [descE, List.append_nil]; exact HI1, HB1⟩
  case round =>
    obtain ⟨k, hk, rfl, HI, HBW⟩ := hrel
    by_cases hlt : k < nl
    · have hd : decide ((k : Int) < (nl : Int)) = true := decide_eq_true (by omega)
      have hkl : k < l.length := by rw [HN.out]; exact hlt
      obtain ⟨g, f, rfl, -, hg, c0, c1, c2⟩ := HE.out.at_ hkl
      obtain ⟨e, hle⟩ : ∃ e, l[k] = e := ⟨_, rfl⟩
      rw [hle] at c0 c1 c2
      have hem : e ∈ l := by rw [← hle]; exact List.getElem_mem hkl
      have hblk := HBW.out.block g hg
      have d0 := (World.cell?_of_block (a := ⟨g, f + k * 3, none⟩) hblk).trans c0
      have d1 := (World.cell?_of_block (a := ⟨g, f + k * 3 + 1, none⟩) hblk).trans c1
      have d2 := (World.cell?_of_block (a := ⟨g, f + k * 3 + 2, none⟩) hblk).trans c2
      have hwr := HBW.out.size
      have hglr : g < wr.heap.size := by omega
      obtain ⟨hb0, hb1, hb2⟩ := HY.out e hem
      have hst : descE (l.take (k + 1)) = descE (l.take k) ++ (32 :: (Lib.decDigits e.lo ++ 45 :: (Lib.decDigits e.hi ++ 58 :: Lib.decDigits e.to))) := by rw [List.take_succ_eq_append_getElem hkl, hle, descE_snoc]
      obtain ⟨lo, hi, to⟩ := e
      simp only at d0 d1 d2 hb0 hb1 hb2 hst
      have hdl0 := dec_len lo 2 (by omega)
      have hdl1 := dec_len hi 2 (by omega)
      have hdl2 := dec_len to 6 (by omega)
      obtain ⟨D0, hD0⟩ : ∃ D, bs (Lib.decDigits lo) = D := ⟨_, rfl⟩
      obtain ⟨D1, hD1⟩ : ∃ D, bs (Lib.decDigits hi) = D := ⟨_, rfl⟩
      obtain ⟨D2, hD2⟩ : ∃ D, bs (Lib.decDigits to) = D := ⟨_, rfl⟩
      have z0 : D0.size ≤ 7 := by rw [← hD0, size_bs]; omega
      have z1 : D1.size ≤ 7 := by rw [← hD1, size_bs]; omega
      have z2 : D2.size ≤ 7 := by rw [← hD2, size_bs]; omega
      obtain ⟨S5, hS5⟩ : ∃ S, (⟨#[32]⟩ : ByteArray) ++ D0 = S := ⟨_, rfl⟩
      obtain ⟨S6, hS6⟩ : ∃ S, S5 ++ (⟨#[45]⟩ : ByteArray) = S := ⟨_, rfl⟩
      obtain ⟨S12, hS12⟩ : ∃ S, S6 ++ D1 = S := ⟨_, rfl⟩
      obtain ⟨S13, hS13⟩ : ∃ S, S12 ++ (⟨#[58]⟩ : ByteArray) = S := ⟨_, rfl⟩
      obtain ⟨S17, hS17⟩ : ∃ S, S13 ++ D2 = S := ⟨_, rfl⟩
      have q32 : ByteArray.size ⟨#[32]⟩ = 1 := rfl
      have q45 : ByteArray.size ⟨#[45]⟩ = 1 := rfl
      have q58 : ByteArray.size ⟨#[58]⟩ = 1 := rfl
      have z5 : S5.size ≤ 8 := by rw [← hS5, ByteArray.size_append]; omega
      have z6 : S6.size ≤ 9 := by rw [← hS6, ByteArray.size_append]; omega
      have z12 : S12.size ≤ 16 := by rw [← hS12, ByteArray.size_append]; omega
      have z13 : S13.size ≤ 17 := by rw [← hS13, ByteArray.size_append]; omega
      have z17 : S17.size ≤ 24 := by rw [← hS17, ByteArray.size_append]; omega
      have n5 : ¬ (9223372036854775807 : Nat) < ByteArray.size ⟨#[32]⟩ + D0.size := by omega
      have n6 : ¬ (9223372036854775807 : Nat) < S5.size + ByteArray.size ⟨#[45]⟩ := by omega
      have n12 : ¬ (9223372036854775807 : Nat) < S6.size + D1.size := by omega
      have n13 : ¬ (9223372036854775807 : Nat) < S12.size + ByteArray.size ⟨#[58]⟩ := by omega
      have n17 : ¬ (9223372036854775807 : Nat) < S13.size + D2.size := by omega
      have hbl : bl S17 = 32 :: (Lib.decDigits lo ++ 45 :: (Lib.decDigits hi ++ 58 :: Lib.decDigits to)) := by
        rw [← hS17, bl_add, ← hS13, bl_add, ← hS12, bl_add, ← hS6, bl_add, ← hS5, bl_add, ← hD0, ← hD1, ← hD2, bl_bs, bl_bs, bl_bs]
        show (([32] ++ _ ++ [45]) ++ _ ++ [58]) ++ _ = _
        simp
      have HIT0 := Lib.hid (fun W (h : VrOK W) => hD0 ▸ itoa_any lo (by omega) W h)
      have HIT1 := Lib.hid (fun W (h : VrOK W) => hD1 ▸ itoa_any hi (by omega) W h)
      have HIT2 := Lib.hid (fun W (h : VrOK W) => hD2 ▸ itoa_any to (by omega) W h)
      have HS5 := Lib.hid hS5
      have HS6 := Lib.hid hS6
      have HS12 := Lib.hid hS12
      have HS13 := Lib.hid hS13
      have HS17 := Lib.hid hS17
      have HST := Lib.hid (And.intro hst hbl)
      have hln : (boolT b ++ descE (l.take k)).length ≤ 1000000000 := by
        have h1 := descE_len (l.take k) fun x hx => HY.out x (List.mem_of_mem_take hx)
        have h2 := List.length_take_le k l
        have h3 : (boolT b).length ≤ 5 := by cases b <;> decide
        rw [List.length_append]; omega
      have HLN := Lib.hid hln
      have hlow := HVR.out.low
      clear hle hem hblk c0 c1 c2 hst hD0 hD1 hD2 hS5 hS6 hS12 hS13 hS17 hbl hdl0 hdl1 hdl2 hkl hln q32 q45 q58
      go_wp2_with fail
      refine wp_named fun W hW => ?_
      have hbW2 : Below wr.heap.size wr W := by rw [hW]; exact (Below.refl _ _).alloc (Nat.le_refl _) _
      have hzW : W.heap.size = wr.heap.size + 1 := by rw [hW]; simp
      have hrW : W.heap[wr.heap.size]? = some (.cells #[.int .u8 (lo : Int), .int .u8 (hi : Int), .int .i64 (to : Int)] 169 (0, 0)) := by rw [hW]; exact heap_alloc_new wr _
      obtain ⟨b0, b1, b2⟩ := cells3 hrW
      have hlW : wr.heap.size < W.heap.size := by omega
      have hvW : VrOK W := HVR.out.below (HBW.out.trans (hbW2.mono hwr)) hlow
      have HIW := Lib.hid (HI.out.later hbW2)
      have HBW3 := Lib.hid (HBW.out.trans (hbW2.mono hwr))
      have HVW := Lib.hid hvW
      have hS0 : Below W.heap.size W W.drew := (Below.refl _ _).drew
      clear hW hrW hbW2 d0 d1 d2 hvW
      refine wp_region_chain 18 [] (factDs wr.heap.size lo hi to D0 D1 D2 S5 S6 S12 S13 S17) (fun _ w' => Below W.heap.size W w') (by kernel_rfl) (by kernel_rfl) (by kernel_rfl) (by kernel_rfl) (by kernel_rfl) (by kernel_rfl) (by decide) hS0 ?_ ?_
      · simp only [List.take_succ_cons, List.take_zero]
        refine HSteps.pure (by decide) ?_ (HSteps.pure (by decide) ?_ (HSteps.pure (by decide) ?_ (HSteps.pure (by decide) ?_ (HSteps.free (by decide) ?_ (HSteps.pure (by decide) ?_ (HSteps.pure (by decide) ?_ (HSteps.pure (by decide) ?_ (HSteps.pure (by decide) ?_ (HSteps.pure (by decide) ?_ (HSteps.pure (by decide) ?_ (HSteps.free (by decide) ?_ (HSteps.pure (by decide) ?_ (HSteps.pure (by decide) ?_ (HSteps.pure (by decide) ?_ (HSteps.pure (by decide) ?_ (HSteps.free (by decide) ?_ (HSteps.pure (by decide) ?_ (HSteps.nil))))))))))))))))))
        · intro v wz c hlo hS hE K hK
          simp only [putAll, Act.put, List.setIfInBounds_toArray, List.set_cons_zero, List.set_cons_succ, Nat.zero_add, Nat.reduceAdd, List.take_succ_cons, List.take_zero] at hK ⊢
          have HX := Lib.hid hS
          clear hS hE hlo
          go_wp2_with fail
          exact hK.out _ rfl
        · intro v wz c hlo hS hE K hK
          simp only [putAll, Act.put, List.setIfInBounds_toArray, List.set_cons_zero, List.set_cons_succ, Nat.zero_add, Nat.reduceAdd, List.take_succ_cons, List.take_zero] at hK ⊢
          have e0 : v 0 = _ := hE.1 rfl
          rw [e0] at hK ⊢
          have HX := Lib.hid hS
          clear hS hE hlo
          go_wp2_with fail
          exact hK.out _ rfl
        · intro v wz c hlo hS hE K hK
          simp only [putAll, Act.put, List.setIfInBounds_toArray, List.set_cons_zero, List.set_cons_succ, Nat.zero_add, Nat.reduceAdd, List.take_succ_cons, List.take_zero] at hK ⊢
          have e1 : v 1 = _ := hE.1 rfl
          rw [e1] at hK ⊢
          have cx0 := (hS.cell (p := ⟨wr.heap.size, 0, none⟩) hlW).trans b0
          have lwz : wr.heap.size < wz.heap.size := by have := hS.size; omega
          have HX := Lib.hid hS
          clear hS hE hlo
          go_wp2_with fail
          exact hK.out _ rfl
        · intro v wz c hlo hS hE K hK
          simp only [putAll, Act.put, List.setIfInBounds_toArray, List.set_cons_zero, List.set_cons_succ, Nat.zero_add, Nat.reduceAdd, List.take_succ_cons, List.take_zero] at hK ⊢
          have e2 : v 2 = _ := hE.1 rfl
          rw [e2] at hK ⊢
          have HX := Lib.hid hS
          clear hS hE hlo
          go_wp2_with fail
          exact hK.out _ rfl
        · intro v wz c hlo hS hE K hK
          simp only [putAll, Act.put, List.setIfInBounds_toArray, List.set_cons_zero, List.set_cons_succ, Nat.zero_add, Nat.reduceAdd, List.take_succ_cons, List.take_zero] at hK ⊢
          have e3 : v 3 = _ := hE.1 rfl
          rw [e3] at hK ⊢
          have hcall := HIT0.out wz (HVW.out.later hS)
          have HC := Lib.hid hcall
          have HX := Lib.hid hS
          clear hS hE hlo hcall
          go_wp2_with fail
          refine HC.out.mono ?_
          rintro e wy ⟨rfl, hb⟩
          have HBY := Lib.hid (HX.out.trans (hb.mono HX.out.size))
          clear hb
          go_wp2_with fail
          refine hK.out _ _ (fun j z hj h => ?_) HBY.out rfl
          match j with
          | 0 | 1 | 2 | 3 | 5 | 6 | 7 | 8 | 9 | 10 | 11 | 12 | 13 | 14 | 15 | 16 | 17 => exact h
          | 4 => exact absurd rfl hj
          | _ + 18 => exact trivial
        · intro v wz c hlo hS hE K hK
          simp only [putAll, Act.put, List.setIfInBounds_toArray, List.set_cons_zero, List.set_cons_succ, Nat.zero_add, Nat.reduceAdd, List.take_succ_cons, List.take_zero] at hK ⊢
          have E4 := hE.1 rfl
          have e4 : v 4 = _ := E4
          rw [e4] at hK ⊢
          have HX := Lib.hid hS
          clear hS hE hlo
          go_wp2_with fail
          exact hK.out _ (by rw [HS5.out]; rfl)
        · intro v wz c hlo hS hE K hK
          simp only [putAll, Act.put, List.setIfInBounds_toArray, List.set_cons_zero, List.set_cons_succ, Nat.zero_add, Nat.reduceAdd, List.take_succ_cons, List.take_zero] at hK ⊢
          have E5 := hE.1 rfl
          have e5 : v 5 = _ := E5
          rw [e5] at hK ⊢
          have HX := Lib.hid hS
          clear hS hE hlo
          go_wp2_with fail
          exact hK.out _ (by rw [HS6.out]; rfl)
        · intro v wz c hlo hS hE K hK
          simp only [putAll, Act.put, List.setIfInBounds_toArray, List.set_cons_zero, List.set_cons_succ, Nat.zero_add, Nat.reduceAdd, List.take_succ_cons, List.take_zero] at hK ⊢
          have HX := Lib.hid hS
          clear hS hE hlo
          go_wp2_with fail
          exact hK.out _ rfl
        · intro v wz c hlo hS hE K hK
          simp only [putAll, Act.put, List.setIfInBounds_toArray, List.set_cons_zero, List.set_cons_succ, Nat.zero_add, Nat.reduceAdd, List.take_succ_cons, List.take_zero] at hK ⊢
          have e7 : v 7 = _ := hE.1 rfl
          rw [e7] at hK ⊢
          have HX := Lib.hid hS
          clear hS hE hlo
          go_wp2_with fail
          exact hK.out _ rfl
        · intro v wz c hlo hS hE K hK
          simp only [putAll, Act.put, List.setIfInBounds_toArray, List.set_cons_zero, List.set_cons_succ, Nat.zero_add, Nat.reduceAdd, List.take_succ_cons, List.take_zero] at hK ⊢
          have e8 : v 8 = _ := hE.1 rfl
          rw [e8] at hK ⊢
          have cx1 := (hS.cell (p := ⟨wr.heap.size, 1, none⟩) hlW).trans b1
          have lwz : wr.heap.size < wz.heap.size := by have := hS.size; omega
          have HX := Lib.hid hS
          clear hS hE hlo
          go_wp2_with fail
          exact hK.out _ rfl
        · intro v wz c hlo hS hE K hK
          simp only [putAll, Act.put, List.setIfInBounds_toArray, List.set_cons_zero, List.set_cons_succ, Nat.zero_add, Nat.reduceAdd, List.take_succ_cons, List.take_zero] at hK ⊢
          have e9 : v 9 = _ := hE.1 rfl
          rw [e9] at hK ⊢
          have HX := Lib.hid hS
          clear hS hE hlo
          go_wp2_with fail
          exact hK.out _ rfl
        · intro v wz c hlo hS hE K hK
          simp only [putAll, Act.put, List.setIfInBounds_toArray, List.set_cons_zero, List.set_cons_succ, Nat.zero_add, Nat.reduceAdd, List.take_succ_cons, List.take_zero] at hK ⊢
          have e10 : v 10 = _ := hE.1 rfl
          rw [e10] at hK ⊢
          have hcall := HIT1.out wz (HVW.out.later hS)
          have HC := Lib.hid hcall
          have HX := Lib.hid hS
          clear hS hE hlo hcall
          go_wp2_with fail
          refine HC.out.mono ?_
          rintro e wy ⟨rfl, hb⟩
          have HBY := Lib.hid (HX.out.trans (hb.mono HX.out.size))
          clear hb
          go_wp2_with fail
          refine hK.out _ _ (fun j z hj h => ?_) HBY.out rfl
          match j with
          | 0 | 1 | 2 | 3 | 4 | 5 | 6 | 7 | 8 | 9 | 10 | 12 | 13 | 14 | 15 | 16 | 17 => exact h
          | 11 => exact absurd rfl hj
          | _ + 18 => exact trivial
        · intro v wz c hlo hS hE K hK
          simp only [putAll, Act.put, List.setIfInBounds_toArray, List.set_cons_zero, List.set_cons_succ, Nat.zero_add, Nat.reduceAdd, List.take_succ_cons, List.take_zero] at hK ⊢
          have E6 := hE.1 rfl
          have E11 := hE.2.1 rfl
          have e6 : v 6 = _ := E6
          have e11 : v 11 = _ := E11
          rw [e6, e11] at hK ⊢
          have HX := Lib.hid hS
          clear hS hE hlo
          go_wp2_with fail
          exact hK.out _ (by rw [HS12.out]; rfl)
        · intro v wz c hlo hS hE K hK
          simp only [putAll, Act.put, List.setIfInBounds_toArray, List.set_cons_zero, List.set_cons_succ, Nat.zero_add, Nat.reduceAdd, List.take_succ_cons, List.take_zero] at hK ⊢
          have E12 := hE.1 rfl
          have e12 : v 12 = _ := E12
          rw [e12] at hK ⊢
          have HX := Lib.hid hS
          clear hS hE hlo
          go_wp2_with fail
          exact hK.out _ (by rw [HS13.out]; rfl)
        · intro v wz c hlo hS hE K hK
          simp only [putAll, Act.put, List.setIfInBounds_toArray, List.set_cons_zero, List.set_cons_succ, Nat.zero_add, Nat.reduceAdd, List.take_succ_cons, List.take_zero] at hK ⊢
          have HX := Lib.hid hS
          clear hS hE hlo
          go_wp2_with fail
          exact hK.out _ rfl
        · intro v wz c hlo hS hE K hK
          simp only [putAll, Act.put, List.setIfInBounds_toArray, List.set_cons_zero, List.set_cons_succ, Nat.zero_add, Nat.reduceAdd, List.take_succ_cons, List.take_zero] at hK ⊢
          have e14 : v 14 = _ := hE.1 rfl
          rw [e14] at hK ⊢
          have cx2 := (hS.cell (p := ⟨wr.heap.size, 2, none⟩) hlW).trans b2
          have lwz : wr.heap.size < wz.heap.size := by have := hS.size; omega
          have HX := Lib.hid hS
          clear hS hE hlo
          go_wp2_with fail
          exact hK.out _ rfl
        · intro v wz c hlo hS hE K hK
          simp only [putAll, Act.put, List.setIfInBounds_toArray, List.set_cons_zero, List.set_cons_succ, Nat.zero_add, Nat.reduceAdd, List.take_succ_cons, List.take_zero] at hK ⊢
          have e15 : v 15 = _ := hE.1 rfl
          rw [e15] at hK ⊢
          have hcall := HIT2.out wz (HVW.out.later hS)
          have HC := Lib.hid hcall
          have HX := Lib.hid hS
          clear hS hE hlo hcall
          go_wp2_with fail
          refine HC.out.mono ?_
          rintro e wy ⟨rfl, hb⟩
          have HBY := Lib.hid (HX.out.trans (hb.mono HX.out.size))
          clear hb
          go_wp2_with fail
          refine hK.out _ _ (fun j z hj h => ?_) HBY.out rfl
          match j with
          | 0 | 1 | 2 | 3 | 4 | 5 | 6 | 7 | 8 | 9 | 10 | 11 | 12 | 13 | 14 | 15 | 17 => exact h
          | 16 => exact absurd rfl hj
          | _ + 18 => exact trivial
        · intro v wz c hlo hS hE K hK
          simp only [putAll, Act.put, List.setIfInBounds_toArray, List.set_cons_zero, List.set_cons_succ, Nat.zero_add, Nat.reduceAdd, List.take_succ_cons, List.take_zero] at hK ⊢
          have E13 := hE.1 rfl
          have E16 := hE.2.1 rfl
          have e13 : v 13 = _ := E13
          have e16 : v 16 = _ := E16
          rw [e13, e16] at hK ⊢
          have HX := Lib.hid hS
          clear hS hE hlo
          go_wp2_with fail
          exact hK.out _ (by rw [HS17.out]; rfl)
      · intro v wz hS hF
        have e0 : v 0 = _ := hF 0 (by decide)
        have e1 : v 1 = _ := hF 1 (by decide)
        have e2 : v 2 = _ := hF 2 (by decide)
        have e3 : v 3 = _ := hF 3 (by decide)
        have e7 : v 7 = _ := hF 7 (by decide)
        have e8 : v 8 = _ := hF 8 (by decide)
        have e9 : v 9 = _ := hF 9 (by decide)
        have e10 : v 10 = _ := hF 10 (by decide)
        have e14 : v 14 = _ := hF 14 (by decide)
        have e15 : v 15 = _ := hF 15 (by decide)
        have E4 := hF 4 (by decide)
        have E5 := hF 5 (by decide)
        have E6 := hF 6 (by decide)
        have E11 := hF 11 (by decide)
        have E12 := hF 12 (by decide)
        have E13 := hF 13 (by decide)
        have E16 := hF 16 (by decide)
        have E17 := hF 17 (by decide)
        simp only [putAll, Act.put, List.setIfInBounds_toArray, List.set_cons_zero, List.set_cons_succ, Nat.zero_add, Nat.reduceAdd, List.take_succ_cons, List.take_zero, List.drop_succ_cons, List.drop_zero, e0, e1, e2, e3, e7, e8, e9, e10, e14, e15]
        clear hF e0 e1 e2 e3 e7 e8 e9 e10 e14 e15
        have e17 : v 17 = _ := E17
        rw [e17]
        have hbz : Below W.heap.size W wz := hS
        have HZ := Lib.hid hbz
        clear hS hbz E4 E5 E6 E11 E12 E13 E16 E17 e17
        go_wp2_with fail
        refine (builder_str _ _ _ _ (HIW.out.later HZ.out) HLN.out (by omega)).mono ?_
        rintro e w9 ⟨rfl, hi9, hb9⟩
        have hi9' : IsB w.heap.size (boolT b ++ descE (l.take (k + 1))) w9 := by rw [HST.out.2, List.append_assoc, ← HST.out.1] at hi9; exact hi9
        have HI9 := Lib.hid hi9'
        have HB9 := Lib.hid (HBW3.out.trans ((HZ.out.mono HBW3.out.size).trans hb9))
        clear hi9 hi9' hb9
        go_wp2_with fail
        go_roundw
        case rel => exact ⟨k + 1, by omega, by go_num, HI9, HB9⟩
        case measure => simp [intOf]; omega
    · obtain rfl : k = nl := by omega
      have hd : decide ((k : Int) < (k : Int)) = false := decide_eq_false (by omega)
      have hib := HI.out
      rw [List.take_of_length_le (by rw [HN.out]; exact Nat.le_refl _)] at hib
      have HSF := Lib.hid (string_f w.heap.size (descT b l) wr ⟨Lib.IsBuilderF.of hib.1, hib.2⟩)
      clear hib
      go_wp2_with fail
      refine HSF.out.mono ?_
      rintro e w1 ⟨rfl, -, hb1⟩
      go_wp2_with fail
      go_ret
      exact ⟨rfl, HBW.out.trans hb1⟩
end Go.Proofs.YtoaibhacognbjaaGreatDoor
namespace Go.Proofs.YtoaibhacognbjaaGreatDoor
set_option linter.unusedVariables false
set_option linter.unusedSimpArgs false
set_option maxRecDepth 100000
open Go.RowKit
open Go.Maps (Keyed)
def factCl (N ga fa n ca ge fe ce k : Nat) (bb : Bool) (rv cv : Value) (cs : List (Option Nat)) (row : List Ed) (NB : ByteArray) : Nat → Nat → Value → World → Prop
  | c, 0, x, w => x = .pointer (some ⟨N, 1, none⟩)
  | c, 1, x, w => x = .slice (some ⟨ga, fa, none⟩) n ca
  | c, 2, x, w => x = .int .i64 (k : Int)
  | c, 3, x, w => x = .pointer (some ⟨ga, fa + k, none⟩)
  | c, 4, x, w => x = .bool bb
  | c, 5, x, w => x = .pointer (some ⟨N, 0, none⟩)
  | c, 6, x, w => x = .slice (some ⟨ge, fe, none⟩) n ce
  | c, 7, x, w => x = .int .i64 (k : Int)
  | c, 8, x, w => x = .pointer (some ⟨ge, fe + k, none⟩)
  | c, 9, x, w => x = rv
  | c, 10, x, w => x = cv
  | c, 11, x, w => ∃ A c, x = .slice A (joinF (clF cs) row).length c ∧ EdIn w x (joinF (clF cs) row)
  | c, 12, x, w => x = .string NB
  | _, _, _, _ => True
/-- What the rounds leave. -/
structure RdR (m : Mc) (WB : World) (cs ds : List (Option Nat)) (seen : List (Bool × List Ed)) (F : Lit → Option Value) (n k : Nat) (wr : World) : Prop where
  mn : MN Tryz.prog 9 WB.heap.size seen.length F wr
  sy : SaysD F seen
  own : OR 3 1 clC (WB.heap.size + 1) (.slice (some ⟨WB.heap.size + 1, 0, none⟩) n n) ds wr
  ri : RndI m cs ds seen k
  bl : Below WB.heap.size WB wr
set_option maxHeartbeats 16000000 in
theorem classes_any (v : Value) (m : Mc) (w : World) (hm : McIn w v m) (hv : Vld m) (hsm : McSm m) (h1 : 1 ≤ m.ed.length) (hvr : VrOK w) :
    Calls Tryz.prog 178 #[v] w (ClPost m m.ed.length w) := by
  have hal := fun W (h : Below w.heap.size w W) => alive_any v m W (hm.later h) hv hsm h1
  obtain ⟨ve, va, rfl, he, ha⟩ := hm
  obtain ⟨Ae, ce, rfl, hce1, hce2⟩ := he.form
  obtain ⟨Aa, ca, rfl, hca1, hca2⟩ := ha.form
  obtain ⟨n, hn⟩ : ∃ n, m.ed.length = n := ⟨_, rfl⟩
  have hac : m.ac.length = n := by rw [hv.len, hn]
  have hnn := hsm.n
  rw [hac] at ha hca1
  rw [hn] at he hce1 h1 hnn
  rw [hn, hac] at hal
  have HAL := Lib.hid hal
  have HE := Lib.hid he
  have HA := Lib.hid ha
  have HV := Lib.hid hv
  have HSM := Lib.hid hsm
  have HN := Lib.hid (And.intro hn hac)
  have HVR := Lib.hid hvr
  have K : Keyed Tryz.prog 9 := Maps.string_keyed Tryz.underlying9
  have hz : ∀ w, (zeroValue 3).run Tryz.prog w = .ok (.int .i64 0) w := fun _ => by kernel_rfl
  have hmk := mk_zeros n (by omega)
  have hmm := @run_makeMap Tryz.prog
  rw [hac, hn]
  have hlow := hvr.low
  clear hal he ha hv hsm hn hac hvr
  go_enter Tryz.func178, Tryz.ntmps178
  go_wp2_with fail
  refine (HAL.out _ ?hb0).mono ?_
  case hb0 => exact ((Below.refl w.heap.size w).alloc (Nat.le_refl _) _).alloc (by simp) _
  rintro e w1 ⟨rv, o, rfl, hown1, hb1, ho1, ho2⟩
  have hzz0 : ((w.alloc (.cells #[.slice Ae n ce, .slice Aa n ca] 76)).alloc (.cells (Array.replicate n (.int .i64 0)) 3)).heap.size = w.heap.size + 2 := by simp
  have hzero := zeros_new (w.alloc (.cells #[.slice Ae n ce, .slice Aa n ca] 76)) n (by omega)
  have hsz1 : (w.alloc (.cells #[.slice Ae n ce, .slice Aa n ca] 76)).heap.size = w.heap.size + 1 := by simp
  rw [hsz1] at hzero
  have hbx1 : w1.heap[w.heap.size]? = some (.cells #[.slice Ae n ce, .slice Aa n ca] 76 (0, 0)) := (hb1.block _ (by omega)).trans ((old_alloc _ _ _ (by simp)).trans (heap_alloc_new w _))
  have hcl1 : OR 3 1 clC (w.heap.size + 1) (.slice (some ⟨w.heap.size + 1, 0, none⟩) n n) (firstC o 0 n) w1 := by rw [firstC_zero]; exact hzero.later hb1
  have hob1 := (BlIn.of_OR hown1)
  have hb1z := hb1.size
  rw [hzz0] at hb1z
  have hbw1 : Below w.heap.size w w1 := (((Below.refl w.heap.size w).alloc (Nat.le_refl _) _).alloc (by simp) _).trans (hb1.mono (by omega))
  obtain ⟨Ao, co, eo, hco1, hco2⟩ := hob1.form
  subst eo
  have HO12 := Lib.hid (And.intro ho1 ho2)
  have HOB := Lib.hid hob1
  have HBX1 := Lib.hid hbx1
  have HCL1 := Lib.hid hcl1
  have HBW1 := Lib.hid hbw1
  have hgo1 := hown1.1
  -- the row of what is alive lies above
  have hoA : o = [] ∨ ∃ g f, Ao = some ⟨g, f, none⟩ ∧ w.heap.size + 2 ≤ g := by
    by_cases h0 : o = []
    · exact .inl h0
    · obtain ⟨A, c, e, -, hor⟩ := hown1.cells bC_E
      obtain ⟨g, hA, hg, -, -⟩ := hor.resolve_left h0
      injection e with e1 _ _
      rw [hzz0] at hg
      exact .inr ⟨g, 0, by rw [e1, hA], hg⟩
  have HOA := Lib.hid hoA
  rw [ho1]
  rw [ho1] at hco1
  clear hown1 hzz0 hzero hsz1 hbx1 hcl1 hob1 hbw1 ho1 ho2 hb1 hgo1 hoA
  go_wp2_with fail
  go_loopw [21] (fun iv wr => ∃ k : Nat, k ≤ n ∧ iv = .int .i64 (k : Int) ∧ Hid (OR 3 1 clC (w.heap.size + 1) (.slice (some ⟨w.heap.size + 1, 0, none⟩) n n) (firstC o k n) wr) ∧ Hid (KeepF [w.heap.size + 1] [w.heap.size + 1] w1 wr)) (fun iv _ => n - (intOf iv).toNat)
  case atStart => exact ⟨0, Nat.zero_le _, rfl, HCL1, KeepF.refl _ _⟩
  case round =>
    obtain ⟨k, hk, rfl, HC, HK⟩ := hrel
    have hwz := HK.out.size
    by_cases hlt : k < n
    · have hd : decide ((k : Int) < (n : Int)) = true := decide_eq_true (by omega)
      have hkl : k < o.length := by rw [HO12.out.1]; exact hlt
      obtain ⟨g, f, rfl, -, hg, c0⟩ := HOB.out.at_ hkl
      have hgA : w.heap.size + 2 ≤ g := by
        rcases HOA.out with h | ⟨g', f', e', h⟩
        · rw [h] at hkl; cases hkl
        · injection e' with e'; injection e' with e1 _; rw [e1]; exact h
      have c0r := (World.cell?_of_block (a := ⟨g, f + k, none⟩) (HK.out.blk g hg (by simp; omega))).trans c0
      obtain ⟨q, hq⟩ : ∃ q, o[k] = q := ⟨_, rfl⟩
      rw [hq] at c0r
      have hok : o[k]? = some q := by rw [List.getElem?_eq_getElem hkl, hq]
      have HOK := Lib.hid hok
      have hgr : g < wr.heap.size := by omega
      obtain ⟨y0, y1⟩ := HC.out.cellC k (by rw [firstC_len]; exact hlt)
      have hgy := HC.out.lt1
      have hkd : decide (k < n) = true := decide_eq_true hlt
      clear c0 hq hok hkl
      cases q with
      | true =>
        go_wp2_with fail
        go_roundw
        case rel => exact ⟨k + 1, by omega, by go_num, by rw [firstC_true HOK.out]; exact HC, HK⟩
        case measure => simp [intOf]; omega
      | false =>
        have hset := HC.out.setC (firstC_len _ _ _) k none
        have hset2 : OR 3 1 clC (w.heap.size + 1) (.slice (some ⟨w.heap.size + 1, 0, none⟩) n n) (firstC o (k + 1) n) (wr.setCell ⟨w.heap.size + 1, k, none⟩ (.int .i64 (-1))) := by rw [firstC_false HOK.out]; exact hset
        have HS2 := Lib.hid hset2
        have hk2 : KeepF [w.heap.size + 1] [w.heap.size + 1] w1 (wr.setCell ⟨w.heap.size + 1, k, none⟩ (.int .i64 (-1))) := HK.out.trans ⟨rfl, rfl, rfl, by simp [World.setCell], fun q _ hn => Below.heap_setCell _ _ _ _ (fun e => hn (by simp [show q = w.heap.size + 1 from e])), fun k hk => .inl hk⟩
        have HK2 := Lib.hid hk2
        clear hset hset2 hk2
        go_wp2_with fail
        go_roundw
        case rel => exact ⟨k + 1, by omega, by go_num, HS2, HK2⟩
        case measure => simp [intOf]; omega
    · obtain rfl : k = n := by omega
      have hd : decide ((k : Int) < (k : Int)) = false := decide_eq_false (by omega)
      have hbxr := (HK.out.blk w.heap.size (by omega) (by simp)).trans HBX1.out
      have hblr : Below w.heap.size w wr := HBW1.out.trans (HK.out.below (fun q hq => by rw [List.mem_singleton] at hq; omega) HBW1.out.size)
      have hhd := HeadC.first (m := m) (o := o) (by rw [HO12.out.1, HN.out.1]) (by rw [HN.out.1]; exact HO12.out.2) (by rw [HN.out.1]; exact h1)
      rw [HN.out.1] at hhd
      have HBXR := Lib.hid hbxr
      have HBLR := Lib.hid hblr
      have HHD := Lib.hid hhd
      obtain ⟨W1, rfl⟩ : ∃ W : World, W = wr := ⟨_, rfl⟩
      clear hbxr hblr hhd
      go_wp2_with fail
      go_loopg [3, 6] (k + 2) (fun q cv kv wr => ∃ (g3 c3 kn : Nat) (cs : List (Option Nat)), cv = .slice (some ⟨g3, 0, none⟩) k c3 ∧ kv = .int .i64 (kn : Int) ∧ q + kn = k + 2 ∧ kn ≤ k ∧ Hid (OR 3 1 clC (w.heap.size + 1) (.slice (some ⟨g3, 0, none⟩) k c3) cs wr) ∧ Hid (HeadC m cs kn) ∧ Hid (wr.heap[w.heap.size]? = some (.cells #[.slice Ae k ce, .slice Aa k ca] 76 (0, 0))) ∧ Hid (Below w.heap.size w wr))
      case atStart => exact ⟨w.heap.size + 1, k, 0, firstC o k k, rfl, rfl, rfl, Nat.zero_le _, HC, HHD, HBXR, HBLR⟩
      case round =>
        obtain ⟨g3, c3, kn, cs, rfl, rfl, hq, hkn, HCS, HH, HBX, HBL⟩ := hrel
        obtain ⟨WB, rfl⟩ : ∃ W : World, W = wr := ⟨_, rfl⟩
        have hg3 := HCS.out.lt1
        have hcsl : cs.length = k := by rw [HH.out.len, HN.out.1]
        have hwB := HBL.out.size
        have hNB : w.heap.size < WB.heap.size := (Array.getElem?_eq_some_iff.1 HBX.out).1
        have hmn0 : MN Tryz.prog 9 WB.heap.size 0 (fun _ => none) (WB.alloc (.map #[] 0)) := MN.made _ _ _
        have hz0 := zeros_new (WB.alloc (.map #[] 0)) k (by omega)
        have hszm : (WB.alloc (.map #[] 0)).heap.size = WB.heap.size + 1 := by simp
        rw [hszm] at hz0
        have hR0 : RdR m WB cs (List.replicate k (some 0)) [] (fun _ => none) k 0 ((WB.alloc (.map #[] 0)).alloc (.cells (Array.replicate k (.int .i64 0)) 3)) :=
          ⟨hmn0.kept (old_alloc _ _ _ (by omega)), SaysD.nil, hz0, RndI.start _ (by simp [HN.out.1]), ((Below.refl _ WB).alloc (Nat.le_refl _) _).alloc (by omega) _⟩
        have HR0 := Lib.hid hR0
        have HCSL := Lib.hid hcsl
        clear hmn0 hz0 hszm hR0 hcsl
        go_wp2_with fail
        go_loopw [38] (fun iv wr => ∃ (j : Nat) (ds : List (Option Nat)) (seen : List (Bool × List Ed)) (F : Lit → Option Value), j ≤ k ∧ iv = .int .i64 (j : Int) ∧ Hid (RdR m WB cs ds seen F k j wr)) (fun iv _ => k - (intOf iv).toNat)
        case atStart => exact ⟨0, _, [], _, Nat.zero_le _, rfl, HR0⟩
        case round =>
          obtain ⟨j, ds, seen, F, hj, rfl, HR⟩ := hrel
          have hwr := HR.out.bl.size
          have hsl := HR.out.own.lt1
          have hdl : ds.length = k := by rw [HR.out.ri.len, HN.out.1]
          by_cases hlt : j < k
          · have hd : decide ((j : Int) < (k : Int)) = true := decide_eq_true (by omega)
            have hdn : decide (j < k) = true := decide_eq_true hlt
            have hjn : j < m.ed.length := by rw [HN.out.1]; exact hlt
            obtain ⟨cc0, -⟩ := HCS.out.cellC j (by rw [HCSL.out]; exact hlt)
            have cc1 := (HR.out.bl.cell (p := ⟨g3, j, none⟩) hg3).trans cc0
            have hg3r : g3 < wr.heap.size := by omega
            obtain ⟨dd0, dd1⟩ := HR.out.own.cellC j (by rw [hdl]; exact hlt)
            have HDL := Lib.hid hdl
            clear cc0 hdl
            cases hcl : clF cs j with
            | none =>
              rw [hcl] at cc1
              have cc2 : wr.cell? ⟨g3, j, none⟩ = some (.int .i64 (-1)) := cc1
              have hset := HR.out.own.setC HDL.out j none
              have hne : WB.heap.size ≠ WB.heap.size + 1 := by omega
              have hR2 : RdR m WB cs (ds.set j none) seen F k (j + 1) (wr.setCell ⟨WB.heap.size + 1, j, none⟩ (.int .i64 (-1))) :=
                ⟨HR.out.mn.kept (Below.heap_setCell _ _ _ _ hne), HR.out.sy, hset, HR.out.ri.none_ hjn hcl, HR.out.bl.setCell (p := ⟨WB.heap.size + 1, j, none⟩) (by show WB.heap.size ≤ WB.heap.size + 1; omega) _⟩
              have HR2 := Lib.hid hR2
              clear cc1 hcl hset hR2
              go_wp2_with fail
              go_roundw
              case rel => exact ⟨j + 1, _, _, _, by omega, by go_num, HR2⟩
              case measure => simp [intOf]; omega
            | some cl =>
              rw [hcl] at cc1
              have cc2 : wr.cell? ⟨g3, j, none⟩ = some (.int .i64 (cl : Int)) := cc1
              have hdc : decide ((cl : Int) < 0) = false := decide_eq_false (by omega)
              have hcn : clF cs j ≠ none := by rw [hcl]; simp
              have HCN := Lib.hid hcn
              have hbwr := HBL.out.trans (HR.out.bl.mono hwB)
              obtain ⟨ga, fa, rfl, -, hga, ca0'⟩ := HA.out.at_ (show j < m.ac.length by rw [HN.out.2]; exact hlt)
              obtain ⟨ge, fe, rv0, rfl, -, hge, ce0', hed0⟩ := HE.out.at_ hjn
              have ca0 := (World.cell?_of_block (a := ⟨ga, fa + j, none⟩) (hbwr.block ga hga)).trans ca0'
              have ce0 := (World.cell?_of_block (a := ⟨ge, fe + j, none⟩) (hbwr.block ge hge)).trans ce0'
              have hed := hed0.later hbwr
              obtain ⟨row, hrow⟩ : ∃ r, m.ed[j] = r := ⟨_, rfl⟩
              obtain ⟨bb, hbb⟩ : ∃ b, m.ac[j]'(by rw [HN.out.2]; exact hlt) = b := ⟨_, rfl⟩
              rw [hrow] at hed
              rw [hbb] at ca0
              have hrm : row ∈ m.ed := by rw [← hrow]; exact List.getElem_mem hjn
              have hrM : rowM m j = row := by unfold rowM; rw [List.getElem?_eq_getElem hjn, hrow]; rfl
              have haM : (m.ac[j]?).getD false = bb := by rw [List.getElem?_eq_getElem (by rw [HN.out.2]; exact hlt), hbb]; rfl
              have hdsc : dsc m cs j = (bb, joinF (clF cs) row) := by unfold dsc descF; rw [hrM, haM]
              have hjb := joinF_by (cls := clF cs) (HV.out.srt row hrm) (HSM.out.by_ row hrm)
              have HTO := Lib.hid (show ∀ e ∈ row, e.to < cs.length from fun e he => by rw [HCSL.out, ← HN.out.1]; exact HV.out.to row hrm e he)
              have HBY := Lib.hid (HSM.out.by_ row hrm)
              have HJB := Lib.hid (show ∀ e ∈ joinF (clF cs) row, e.lo < 256 ∧ e.hi < 256 ∧ e.to < 1000000 from fun e he => by
                obtain ⟨h1, h2, f, hf, h3⟩ := hjb e he
                have := HH.out.lt _ _ h3
                have := HN.out.1
                exact ⟨h1, h2, by omega⟩)
              have hrl := HSM.out.rl row hrm
              have HJL := Lib.hid (show (joinF (clF cs) row).length ≤ 10000 from Nat.le_trans (joinF_len _ _) hrl)
              have hbx := (HR.out.bl.block _ hNB).trans HBX.out
              obtain ⟨c0, c1⟩ : wr.cell? ⟨w.heap.size, 0, none⟩ = some (.slice (some ⟨ge, fe, none⟩) k ce) ∧ wr.cell? ⟨w.heap.size, 1, none⟩ = some (.slice (some ⟨ga, fa, none⟩) k ca) := by
                constructor <;> (rw [cell_of_row _ _ _ _ _ _ hbx]; rfl)
              have hNW : w.heap.size < wr.heap.size := by omega
              have hgaW : ga < wr.heap.size := by omega
              have hgeW : ge < wr.heap.size := by omega
              obtain ⟨Ar, cr, hrf, -⟩ := hed.form
              obtain ⟨nrow, hnrow⟩ : ∃ n, row.length = n := ⟨_, rfl⟩
              rw [hnrow] at hrf hrl
              subst hrf
              have hed' : EdIn wr (.slice Ar nrow cr) row := hed
              have HED := Lib.hid hed'
              have HCI := Lib.hid ((ClIn.of_OR HCS.out).later HR.out.bl)
              have HVW := Lib.hid (HVR.out.below hbwr hlow)
              have HDS := Lib.hid (And.intro hdsc hcl)
              have HNR := Lib.hid hnrow
              obtain ⟨W, hWeq⟩ : ∃ W : World, W = wr := ⟨_, rfl⟩
              subst hWeq
              have hS0 : Below W.heap.size W W.drew := (Below.refl _ _).drew
              have HDD := Lib.hid (And.intro dd0 dd1)
              have HHZ := Lib.hid hz
              obtain ⟨NB, hNB⟩ : ∃ N, bs (descT bb (joinF (clF cs) row)) = N := ⟨_, rfl⟩
              have HNB := Lib.hid hNB
              clear hNB
              clear cc1 hcl hcn hbwr hga ca0' hge ce0' hed0 hed hed' hrow hbb hrm hrM haM hdsc hjb hbx dd0 dd1 hmk hmm hz
              go_wp2_with fail
              refine wp_region_chain 13 [] (factCl w.heap.size ga fa k ca ge fe ce j bb (.slice Ar nrow cr) (.slice (some ⟨g3, 0, none⟩) k c3) cs row NB) (fun _ w' => Below W.heap.size W w') (by kernel_rfl) (by kernel_rfl) (by kernel_rfl) (by kernel_rfl) (by kernel_rfl) (by kernel_rfl) (by decide) hS0 ?_ ?_
              · simp only [List.take_succ_cons, List.take_zero]
                refine HSteps.pure (by decide) ?_ (HSteps.pure (by decide) ?_ (HSteps.pure (by decide) ?_ (HSteps.pure (by decide) ?_ (HSteps.pure (by decide) ?_ (HSteps.pure (by decide) ?_ (HSteps.pure (by decide) ?_ (HSteps.pure (by decide) ?_ (HSteps.pure (by decide) ?_ (HSteps.pure (by decide) ?_ (HSteps.pure (by decide) ?_ (HSteps.free (by decide) ?_ (HSteps.free (by decide) ?_ (HSteps.nil)))))))))))))
                · intro v wz c hlo hS hE K hK
                  simp only [putAll, Act.put, List.setIfInBounds_toArray, List.set_cons_zero, List.set_cons_succ, Nat.zero_add, Nat.reduceAdd, List.take_succ_cons, List.take_zero] at hK ⊢
                  have HX := Lib.hid hS
                  clear hS hE hlo
                  go_wp2_with fail
                  exact hK.out _ rfl
                · intro v wz c hlo hS hE K hK
                  simp only [putAll, Act.put, List.setIfInBounds_toArray, List.set_cons_zero, List.set_cons_succ, Nat.zero_add, Nat.reduceAdd, List.take_succ_cons, List.take_zero] at hK ⊢
                  have e0 : v 0 = _ := hE.1 rfl
                  rw [e0] at hK ⊢
                  have bx0 := (hS.cell (p := ⟨w.heap.size, 0, none⟩) hNW).trans c0
                  have bx1 := (hS.cell (p := ⟨w.heap.size, 1, none⟩) hNW).trans c1
                  have lwz : w.heap.size < wz.heap.size := by have := hS.size; omega
                  have HX := Lib.hid hS
                  clear hS hE hlo
                  go_wp2_with fail
                  exact hK.out _ rfl
                · intro v wz c hlo hS hE K hK
                  simp only [putAll, Act.put, List.setIfInBounds_toArray, List.set_cons_zero, List.set_cons_succ, Nat.zero_add, Nat.reduceAdd, List.take_succ_cons, List.take_zero] at hK ⊢
                  have HX := Lib.hid hS
                  clear hS hE hlo
                  go_wp2_with fail
                  exact hK.out _ rfl
                · intro v wz c hlo hS hE K hK
                  simp only [putAll, Act.put, List.setIfInBounds_toArray, List.set_cons_zero, List.set_cons_succ, Nat.zero_add, Nat.reduceAdd, List.take_succ_cons, List.take_zero] at hK ⊢
                  have e1 : v 1 = _ := hE.1 rfl
                  have e2 : v 2 = _ := hE.2.1 rfl
                  rw [e1, e2] at hK ⊢
                  have HX := Lib.hid hS
                  clear hS hE hlo
                  go_wp2_with fail
                  exact hK.out _ rfl
                · intro v wz c hlo hS hE K hK
                  simp only [putAll, Act.put, List.setIfInBounds_toArray, List.set_cons_zero, List.set_cons_succ, Nat.zero_add, Nat.reduceAdd, List.take_succ_cons, List.take_zero] at hK ⊢
                  have e3 : v 3 = _ := hE.1 rfl
                  rw [e3] at hK ⊢
                  have ax := (hS.cell (p := ⟨ga, fa + j, none⟩) hgaW).trans ca0
                  have lwa : ga < wz.heap.size := by have := hS.size; omega
                  have HX := Lib.hid hS
                  clear hS hE hlo
                  go_wp2_with fail
                  exact hK.out _ rfl
                · intro v wz c hlo hS hE K hK
                  simp only [putAll, Act.put, List.setIfInBounds_toArray, List.set_cons_zero, List.set_cons_succ, Nat.zero_add, Nat.reduceAdd, List.take_succ_cons, List.take_zero] at hK ⊢
                  have HX := Lib.hid hS
                  clear hS hE hlo
                  go_wp2_with fail
                  exact hK.out _ rfl
                · intro v wz c hlo hS hE K hK
                  simp only [putAll, Act.put, List.setIfInBounds_toArray, List.set_cons_zero, List.set_cons_succ, Nat.zero_add, Nat.reduceAdd, List.take_succ_cons, List.take_zero] at hK ⊢
                  have e5 : v 5 = _ := hE.1 rfl
                  rw [e5] at hK ⊢
                  have bx0 := (hS.cell (p := ⟨w.heap.size, 0, none⟩) hNW).trans c0
                  have bx1 := (hS.cell (p := ⟨w.heap.size, 1, none⟩) hNW).trans c1
                  have lwz : w.heap.size < wz.heap.size := by have := hS.size; omega
                  have HX := Lib.hid hS
                  clear hS hE hlo
                  go_wp2_with fail
                  exact hK.out _ rfl
                · intro v wz c hlo hS hE K hK
                  simp only [putAll, Act.put, List.setIfInBounds_toArray, List.set_cons_zero, List.set_cons_succ, Nat.zero_add, Nat.reduceAdd, List.take_succ_cons, List.take_zero] at hK ⊢
                  have HX := Lib.hid hS
                  clear hS hE hlo
                  go_wp2_with fail
                  exact hK.out _ rfl
                · intro v wz c hlo hS hE K hK
                  simp only [putAll, Act.put, List.setIfInBounds_toArray, List.set_cons_zero, List.set_cons_succ, Nat.zero_add, Nat.reduceAdd, List.take_succ_cons, List.take_zero] at hK ⊢
                  have e6 : v 6 = _ := hE.1 rfl
                  have e7 : v 7 = _ := hE.2.1 rfl
                  rw [e6, e7] at hK ⊢
                  have HX := Lib.hid hS
                  clear hS hE hlo
                  go_wp2_with fail
                  exact hK.out _ rfl
                · intro v wz c hlo hS hE K hK
                  simp only [putAll, Act.put, List.setIfInBounds_toArray, List.set_cons_zero, List.set_cons_succ, Nat.zero_add, Nat.reduceAdd, List.take_succ_cons, List.take_zero] at hK ⊢
                  have e8 : v 8 = _ := hE.1 rfl
                  rw [e8] at hK ⊢
                  have ex := (hS.cell (p := ⟨ge, fe + j, none⟩) hgeW).trans ce0
                  have lwe : ge < wz.heap.size := by have := hS.size; omega
                  have HX := Lib.hid hS
                  clear hS hE hlo
                  go_wp2_with fail
                  exact hK.out _ rfl
                · intro v wz c hlo hS hE K hK
                  simp only [putAll, Act.put, List.setIfInBounds_toArray, List.set_cons_zero, List.set_cons_succ, Nat.zero_add, Nat.reduceAdd, List.take_succ_cons, List.take_zero] at hK ⊢
                  have HX := Lib.hid hS
                  clear hS hE hlo
                  go_wp2_with fail
                  exact hK.out _ rfl
                · intro v wz c hlo hS hE K hK
                  simp only [putAll, Act.put, List.setIfInBounds_toArray, List.set_cons_zero, List.set_cons_succ, Nat.zero_add, Nat.reduceAdd, List.take_succ_cons, List.take_zero] at hK ⊢
                  have e9 : v 9 = _ := hE.1 rfl
                  have e10 : v 10 = _ := hE.2.1 rfl
                  rw [e9, e10] at hK ⊢
                  have hcall := joined_any (.slice Ar nrow cr) (.slice (some ⟨g3, 0, none⟩) k c3) row cs wz (HED.out.later hS) (HCI.out.later hS) HTO.out HBY.out (by rw [HNR.out]; omega)
                  have HC := Lib.hid hcall
                  have HX := Lib.hid hS
                  clear hS hE hlo hcall
                  go_wp2_with fail
                  refine HC.out.mono ?_
                  rintro e wy ⟨jv, rfl, ho, hb⟩
                  have hed := EdIn.of_OR ho
                  obtain ⟨Aj, cj, rfl, -⟩ := hed.form
                  have HBY2 := Lib.hid (HX.out.trans (hb.mono HX.out.size))
                  have HJ := Lib.hid hed
                  clear ho hb hed
                  go_wp2_with fail
                  refine hK.out _ _ (fun j z hj h => ?_) HBY2.out ⟨Aj, cj, rfl, HJ.out⟩
                  match j with
                  | 0 | 1 | 2 | 3 | 4 | 5 | 6 | 7 | 8 | 9 | 10 => exact h
                  | 11 => exact absurd rfl hj
                  | 12 => exact h
                  | _ + 13 => exact trivial
                · intro v wz c hlo hS hE K hK
                  simp only [putAll, Act.put, List.setIfInBounds_toArray, List.set_cons_zero, List.set_cons_succ, Nat.zero_add, Nat.reduceAdd, List.take_succ_cons, List.take_zero] at hK ⊢
                  have e4 : v 4 = _ := hE.1 rfl
                  rw [e4] at hK ⊢
                  have E11 := hE.2.1 rfl
                  obtain ⟨Aj, cj, e11, hj⟩ := E11
                  rw [e11] at hK hj ⊢
                  have hcall := describe_any bb _ (joinF (clF cs) row) wz hj HJB.out (by have := HJL.out; omega) (HVW.out.later hS)
                  rw [HNB.out] at hcall
                  have HC := Lib.hid hcall
                  have HX := Lib.hid hS
                  clear hS hE hlo hcall hj e11
                  go_wp2_with fail
                  refine HC.out.mono ?_
                  rintro e wy ⟨rfl, hb⟩
                  have HBY2 := Lib.hid (HX.out.trans (hb.mono HX.out.size))
                  have HB3 := Lib.hid hb
                  clear hb
                  go_wp2_with fail
                  refine hK.out _ _ (fun j z hj h => ?_) HBY2.out rfl
                  match j with
                  | 0 | 1 | 2 | 3 | 4 | 5 | 6 | 7 | 8 | 9 | 10 => exact h
                  | 11 =>
                    obtain ⟨A, c, e, h2⟩ := h
                    exact ⟨A, c, e, h2.later HB3.out⟩
                  | 12 => exact absurd rfl hj
                  | _ + 13 => exact trivial
              · intro v wz hS hF
                have e0 : v 0 = _ := hF 0 (by decide)
                have e1 : v 1 = _ := hF 1 (by decide)
                have e2 : v 2 = _ := hF 2 (by decide)
                have e3 : v 3 = _ := hF 3 (by decide)
                have e4 : v 4 = _ := hF 4 (by decide)
                have e5 : v 5 = _ := hF 5 (by decide)
                have e6 : v 6 = _ := hF 6 (by decide)
                have e7 : v 7 = _ := hF 7 (by decide)
                have e8 : v 8 = _ := hF 8 (by decide)
                have e9 : v 9 = _ := hF 9 (by decide)
                have e10 : v 10 = _ := hF 10 (by decide)
                have E11 := hF 11 (by decide)
                have E12 := hF 12 (by decide)
                simp only [putAll, Act.put, List.setIfInBounds_toArray, List.set_cons_zero, List.set_cons_succ, Nat.zero_add, Nat.reduceAdd, List.take_succ_cons, List.take_zero, List.drop_succ_cons, List.drop_zero, e0, e1, e2, e3, e4, e5, e6, e7, e8, e9, e10]
                clear hF e0 e1 e2 e3 e4 e5 e6 e7 e8 e9 e10
                have e12 : v 12 = _ := E12
                rw [e12]
                have hz := HHZ.out
                have hsz := hS.size
                have hmbW : WB.heap.size < W.heap.size := by omega
                have hmz : MN Tryz.prog 9 WB.heap.size seen.length F wz := HR.out.mn.kept (hS.block _ hmbW)
                have hoz := HR.out.own.later hS
                have hbz : Below WB.heap.size WB wz := HR.out.bl.trans (hS.mono hwr)
                obtain ⟨dd0, dd1⟩ := hoz.cellC j (by rw [HDL.out]; exact hlt)
                have hlz : WB.heap.size + 1 < wz.heap.size := by omega
                obtain ⟨nm, hnm⟩ : ∃ x, descT bb (joinF (clF cs) row) = x := ⟨_, rfl⟩
                have hkey : keyOf Tryz.prog 9 (.string (bs nm)) = some (.string nm) := by
                  have h1 := descE_len _ HJB.out
                  have h2 : (boolT bb).length ≤ 5 := by cases bb <;> decide
                  have := WideMaps.keyOf_string_mk (P := Tryz.prog) (k := 9) Tryz.underlying9 (s := bs nm) (by rw [size_bs, ← hnm]; unfold descT; rw [List.length_append]; unfold maxLen; have := HJL.out; omega)
                  rwa [bs_data] at this
                obtain rfl : NB = bs nm := by rw [← HNB.out, hnm]
                have HNM := Lib.hid hnm
                have HKEY := Lib.hid hkey
                have HMZ := Lib.hid hmz
                have HOZ := Lib.hid hoz
                have HBZ := Lib.hid hbz
                have hsl2 : seen.length ≤ k := by
                  have h1 := nodup_le (l := seen) (r := (List.range j).map (dsc m cs)) HR.out.ri.nd (fun x hx => by
                    obtain ⟨s, h1, -, h3⟩ := HR.out.ri.of_ x hx
                    exact List.mem_map.2 ⟨s, List.mem_range.2 h1, h3⟩)
                  simp at h1; omega
                clear hS E11 E12 e12 hmz hoz hbz hnm hkey
                by_cases hin : dsc m cs j ∈ seen
                · have hlook : (Instr.lookup 163 (.map (some WB.heap.size)) (.string (bs nm)) true).run Tryz.prog wz = .ok (.tuple #[.int .i64 ((seen.idxOf (dsc m cs j) : Nat) : Int), .bool true]) wz := by
                    have h1 := HMZ.out.mv.look_ok K Tryz.underlying163 hz HKEY.out trivial
                    have h2 := HR.out.sy (dsc m cs j)
                    rw [HDS.out.1] at h2
                    simp only [HNM.out] at h2
                    rw [h2, ← HDS.out.1, idxD, if_pos hin] at h1
                    exact h1
                  obtain ⟨ix, hix⟩ : ∃ i, seen.idxOf (dsc m cs j) = i := ⟨_, rfl⟩
                  rw [hix] at hlook
                  have hset := HOZ.out.setC HDL.out j (some ix)
                  have hR2 : RdR m WB cs (ds.set j (some ix)) seen F k (j + 1) (wz.setCell ⟨WB.heap.size + 1, j, none⟩ (.int .i64 (ix : Int))) :=
                    ⟨HMZ.out.kept (Below.heap_setCell _ _ _ _ (by show WB.heap.size ≠ WB.heap.size + 1; omega)), HR.out.sy, hset, by rw [← hix]; exact HR.out.ri.old hjn HCN.out hin, HBZ.out.setCell (p := ⟨WB.heap.size + 1, j, none⟩) (by show WB.heap.size ≤ WB.heap.size + 1; omega) _⟩
                  have HR2 := Lib.hid hR2
                  have HIN := Lib.hid hin
                  clear hix hset hR2 hin
                  go_wp2_with fail
                  go_roundw
                  case rel => exact ⟨j + 1, _, _, _, by omega, by go_num, HR2⟩
                  case measure => simp [intOf]; omega
                · have hlook : (Instr.lookup 163 (.map (some WB.heap.size)) (.string (bs nm)) true).run Tryz.prog wz = .ok (.tuple #[.int .i64 0, .bool false]) wz := by
                    have h1 := HMZ.out.mv.look_ok K Tryz.underlying163 hz HKEY.out trivial
                    have h2 := HR.out.sy (dsc m cs j)
                    rw [HDS.out.1] at h2
                    simp only [HNM.out] at h2
                    rw [h2, ← HDS.out.1, idxD, if_neg hin] at h1
                    exact h1
                  have hfn : F (.string nm) = none := by
                    have h2 := HR.out.sy (dsc m cs j)
                    rw [HDS.out.1] at h2
                    simp only [HNM.out] at h2
                    rw [h2, ← HDS.out.1, idxD, if_neg hin]
                  obtain ⟨sl, hsl3⟩ : ∃ n, seen.length = n := ⟨_, rfl⟩
                  have hmz := HMZ.out
                  rw [hsl3] at hmz hsl2
                  have HIN := Lib.hid (And.intro hin hsl3)
                  have HMZ3 := Lib.hid hmz
                  have HFN := Lib.hid hfn
                  clear hin hsl3 hmz hfn
                  go_wp2_with (first
                    | (at_len; refine wpList_len_MN rfl _ 163 rfl 9 3 Tryz.underlying163 WB.heap.size sl F rfl HMZ3.out ?_)
                    | (at_mapUpdate; refine wpList_put_MN wz rfl _ _ _ 163 rfl 9 3 K Tryz.underlying163 WB.heap.size sl F rfl HMZ3.out (by unfold maxLen; omega) _ _ _ rfl rfl HKEY.out trivial HFN.out ?_))
                  intro wm hmm4 hgm
                  have hzm := hgm.size
                  have hom : OR 3 1 clC (WB.heap.size + 1) (.slice (some ⟨WB.heap.size + 1, 0, none⟩) k k) ds wm := OR.keep HOZ.out fun g hg => hgm.block g (World.ownsRow.lt HOZ.out g hg).2 (fun e => by
                    have := (World.ownsRow.lt HOZ.out g hg).1
                    injection e with e; omega)
                  obtain ⟨ee0, ee1⟩ := hom.cellC j (by rw [HDL.out]; exact hlt)
                  have hlm : WB.heap.size + 1 < wm.heap.size := by omega
                  have hset := hom.setC HDL.out j (some sl)
                  have hbm : Below WB.heap.size WB wm := HBZ.out.grown hgm (by omega) (fun q hq => by injection hq with hq; omega)
                  have hsy := HR.out.sy.put (dsc m cs j) HIN.out.1 (sl : Int) (by rw [HIN.out.2])
                  rw [HDS.out.1] at hsy
                  simp only [HNM.out] at hsy
                  have hri := HR.out.ri.new hjn HCN.out HIN.out.1
                  rw [HIN.out.2, HDS.out.1] at hri
                  have hR2 : RdR m WB cs (ds.set j (some sl)) (seen ++ [(bb, joinF (clF cs) row)]) (updV F (.string nm) (some (.int .i64 (sl : Int)))) k (j + 1) (wm.setCell ⟨WB.heap.size + 1, j, none⟩ (.int .i64 (sl : Int))) :=
                    ⟨by rw [List.length_append, HIN.out.2]; exact hmm4.kept (Below.heap_setCell _ _ _ _ (by show WB.heap.size ≠ WB.heap.size + 1; omega)), hsy, hset, hri, hbm.setCell (p := ⟨WB.heap.size + 1, j, none⟩) (by show WB.heap.size ≤ WB.heap.size + 1; omega) _⟩
                  have HR2 := Lib.hid hR2
                  clear hmm4 hgm hom hset hbm hsy hri hR2 dd0 dd1
                  go_wp2_with fail
                  go_roundw
                  case rel => exact ⟨j + 1, _, _, _, by omega, by go_num, HR2⟩
                  case measure => simp [intOf]; omega
          · have hjk : j = k := by omega
            have hd : decide ((j : Int) < (k : Int)) = false := decide_eq_false (by omega)
            have HJK := Lib.hid hjk
            clear hjk
            obtain ⟨sl, hsl3⟩ : ∃ n, seen.length = n := ⟨_, rfl⟩
            have hmn := HR.out.mn
            rw [hsl3] at hmn
            have HMN := Lib.hid hmn
            have HSL := Lib.hid hsl3
            have hri := HR.out.ri
            rw [HJK.out, ← HN.out.1] at hri
            have HRI := Lib.hid hri
            have hbwr := HBL.out.trans (HR.out.bl.mono hwB)
            have HBW := Lib.hid hbwr
            have hbx := (HR.out.bl.block _ hNB).trans HBX.out
            have HBXR := Lib.hid hbx
            clear hmn hsl3 hri hbwr hbx hdl
            by_cases he : sl = kn
            · have hde : ((sl : Int) == (kn : Int)) = true := by simp; omega
              have HEQ := Lib.hid he
              clear he
              go_wp2_with (at_len; refine wpList_len_MN rfl _ 163 rfl 9 3 Tryz.underlying163 WB.heap.size sl F rfl HMN.out ?_)
              refine post_named fun Wf hWf => ?_
              subst hWf
              refine bodyPost_ret (v := .slice (some ⟨WB.heap.size + 1, 0, none⟩) k k) (by simp [results, Tryz.results178, go_sem]; try rfl) rfl ?_
              refine ⟨_, ds, rfl, HR.out.own.mono (by omega), HBW.out, ?_, HH.out.done HV.out HRI.out (by rw [HSL.out, HEQ.out]), fun s c hc => ?_⟩
              · rw [HR.out.ri.len, HN.out.1]
              · have := HRI.out.lt_ s c hc
                rwa [HN.out.1] at this
            · have hde : ((sl : Int) == (kn : Int)) = false := by simp; omega
              obtain ⟨hn1, hn2, hn3⟩ := HH.out.next HV.out HRI.out (by rw [HSL.out]; exact he)
              rw [HSL.out] at hn2 hn3
              rw [HN.out.1] at hn3
              have HNX := Lib.hid hn1
              clear hn1 he
              go_wp2_with (at_len; refine wpList_len_MN rfl _ 163 rfl 9 3 Tryz.underlying163 WB.heap.size sl F rfl HMN.out ?_)
              go_roundg (k + 2 - sl)
              case measure => omega
              case rel => exact ⟨WB.heap.size + 1, k, sl, ds, rfl, rfl, by omega, by omega, HR.out.own.mono (by omega), by have := HNX.out; rwa [HSL.out] at this, HBXR.out, HBW.out⟩
end Go.Proofs.YtoaibhacognbjaaGreatDoor
namespace Go.Proofs.YtoaibhacognbjaaGreatDoor
set_option linter.unusedVariables false
set_option linter.unusedSimpArgs false
set_option maxRecDepth 100000
open Go.RowKit
theorem least_any (v : Value) (m : Mc) (w : World) (hm : McIn w v m) (hv : Vld m) (hsm : McSm m) (h1 : 1 ≤ m.ed.length) (hvr : VrOK w) : Calls Tryz.prog 139 #[v] w (LePost m w) :=
  least_of v m w hm hv hsm h1 fun W hb => classes_any v m W (hm.later hb) hv hsm h1 (hvr.later hb)
end Go.Proofs.YtoaibhacognbjaaGreatDoor
namespace Go.Proofs.YtoaibhacognbjaaGreatDoor
set_option linter.unusedVariables false
set_option linter.unusedSimpArgs false
set_option maxRecDepth 100000
open Go.RowKit
open Go.Maps (Keyed)
def mcNil : Value := .agg #[.slice none 0 0, .slice none 0 0]
/-- What machine.Compile answers. -/
def CmPost (nd : Nd) (w : World) (e : Ending) (w' : World) : Prop :=
  Below w.heap.size w w' ∧
  ((validF nd ≠ 0 ∧ e = .returned (.tuple #[mcNil, .int .i64 (validF nd)])) ∨
   (validF nd = 0 ∧ 600 < posF nd ∧ e = .returned (.tuple #[mcNil, .int .i64 3])) ∨
   (validF nd = 0 ∧ posF nd ≤ 600 ∧ ∃ b x gs rows acs i, Wr ⟨[], []⟩ b x (langN nd) ∧ b.fol.length = posF nd ∧ (∀ rs ∈ b.sets, ∀ r ∈ rs, r.2 < 256) ∧ CmI b x gs rows acs i ∧
     ((2000 < gs.length ∧ e = .returned (.tuple #[mcNil, .int .i64 3])) ∨ (i = gs.length ∧ gs.length ≤ 2000 ∧ ∃ rv m', e = .returned (.tuple #[rv, .int .i64 0]) ∧ McUp w.heap.size w' rv m' ∧ LeOK ⟨rows, acs⟩ m'))))
/-- What a node's language is is what the machine accepts. -/
theorem leOK_lang {m m' : Mc} (h : LeOK m m') (w : List Nat) : acF m' w 0 = acF m w 0 := by
  rcases h.1 with ⟨-, -, h1⟩ | ⟨h1, rfl⟩
  · exact h1 w
  · have h2 : acF m w 0 = false := by
      cases hx : acF m w 0 with
      | false => rfl
      | true => exact absurd ⟨w, hx⟩ h1
    rw [h2]
    cases w with
    | nil => rfl
    | cons c r => rfl
theorem own_row1 {w : World} {B n : Nat} {e : TypeId} {v : Value} {xs : List Value} (h : w.ownsRow B e 1 v n xs) (hn : 0 < n) : ∃ g c, v = .slice (some ⟨g, 0, none⟩) n c ∧ (n ≤ c ∧ c ≤ 9223372036854775807) ∧ v.ownBlock = some g ∧ g < w.heap.size ∧ ∀ i, i < n → w.cell? ⟨g, i, none⟩ = xs[i]? := by
  obtain ⟨A, c, rfl, h1, h2⟩ := own_form h
  obtain ⟨g, rfl, -, h3, h4⟩ := own_at1 h hn
  exact ⟨g, c, rfl, ⟨h1, h2⟩, rfl, h3, h4⟩
/-- The builder is whole: groups begin. -/
theorem cp_start {w0 : World} {s mb : Nat} {x2 v2 vs vf : Value} {b : Pb} {rows sv : List Value} {w w' : World} (hb : BuS w0 s x2 (.map (some mb)) (.slice none 0 0) b vs vf rows sv w) (hk : KeepF [s] [] w w')
    (hcs : w'.heap[s]? = some (.cells #[vs, vf, v2, .map (some mb), .slice none 0 0] 182 (0, 0))) (hm : MV Tryz.prog 9 mb 0 (fun _ => none) w') (hmB : w0.heap.size ≤ mb) (hmw : mb < w.heap.size) (h1 : 0 < b.fol.length) (h2 : 0 < b.sets.length) :
    SbI w0.heap.size s mb vs vf v2 [] (fpG s mb (.slice none 0 0)) w' ∧ SetC w0 (fpG s mb (.slice none 0 0)) w' vs b.sets ∧ FolC (fpG s mb (.slice none 0 0)) w' vf b.fol ∧ Below w0.heap.size w0 w' := by
  have hlt := hb.lt
  have hsl : s < w.heap.size := (hlt s (by simp [fpS])).2
  have hnd := hb.nd
  rw [List.nodup_cons] at hnd
  have hsm : s ≠ mb := by
    rintro rfl
    obtain ⟨D, ⟨es, c, q1, -⟩, -⟩ := hm
    rw [hcs] at q1
    injection q1 with q1
    cases q1
  have hmap : ∀ {B k n : Nat} {e : TypeId} {v : Value} {xs : List Value}, w.ownsRow B e k v n xs → v.ownBlock ≠ some mb := fun {B k n e v xs} ho hv => by
    obtain ⟨cs, md, q2⟩ := own_type ho mb hv
    have q3 := (hk.blk mb hmw (by simp; exact fun e => hsm e.symm)).trans q2
    obtain ⟨D, ⟨es, c, q1, -⟩, -⟩ := hm
    rw [q3] at q1
    injection q1 with q1
    cases q1
  have hfp : ∀ g, g ∈ fpG s mb (.slice none 0 0) ↔ g = s ∨ g = mb := fun g => by simp [fpG, blk, Value.ownBlock]
  have hs' : ∀ g, g ≠ s → g ∉ [s] := fun g h hm => h (List.mem_singleton.1 hm)
  obtain ⟨gS, cS, rfl, hcS, hoS, hgS, hcellS⟩ := own_row1 hb.sets h2
  obtain ⟨gF, cF, rfl, hcF, hoF, hgF, hcellF⟩ := own_row1 hb.fol h1
  have nS : gS ≠ s := fun e => hnd.1 (by rw [← e]; exact List.mem_append_left _ (mem_blk.2 hoS))
  have nF : gF ≠ s := fun e => hnd.1 (by rw [← e]; exact List.mem_append_right _ (List.mem_append_left _ (mem_blk.2 hoF)))
  have mS : gS ≠ mb := fun e => hmap hb.sets (by rw [hoS, e])
  have mF : gF ≠ mb := fun e => hmap hb.fol (by rw [hoF, e])
  refine ⟨⟨.slice none 0 0, [], fun _ => none, rfl, ⟨hsm, by simp [Value.ownBlock], by simp [Value.ownBlock]⟩, ⟨hb.hs, hmB, Nat.le_trans hb.bel.size hk.size⟩, hcs, hm, fun l => rfl, World.ownsRow_nil _ _ _ _, fun i hi => (by cases hi)⟩, ?_, ?_, ?_⟩
  · refine ⟨_, cS, rfl, hcS, .inr ⟨gS, rfl, Nat.lt_of_lt_of_le hgS hk.size, fun h => by rcases (hfp gS).1 h with h | h; exact nS h; exact mS h, fun i hi => ?_⟩⟩
    obtain ⟨v, q1, q2, -⟩ := hb.setv i hi
    refine ⟨v, (World.cell?_of_block (a := ⟨gS, i, none⟩) (hk.blk gS hgS (hs' _ nS))).trans ?_, q2⟩
    rw [hcellS i hi, q1]
  · refine ⟨gF, cF, rfl, hcF, Nat.lt_of_lt_of_le hgF hk.size, fun h => by rcases (hfp gF).1 h with h | h; exact nF h; exact mF h, fun i hi => ?_⟩
    obtain ⟨v, q1, q2⟩ := hb.folv i hi
    have nv : v.ownBlock ≠ some s := fun e => hnd.1 (List.mem_append_right _ (List.mem_append_right _ (List.mem_flatMap.2 ⟨v, List.mem_of_getElem? q1, mem_blk.2 e⟩)))
    have mv : v.ownBlock ≠ some mb := hmap q2
    refine ⟨v, (World.cell?_of_block (a := ⟨gF, i, none⟩) (hk.blk gF hgF (hs' _ nF))).trans ?_, (SL.of_own q2).keep (fun g hg hm => nv (by rw [hg, List.mem_singleton.1 hm])) hk, fun g hg hm => ?_, fun k hv => Nat.lt_of_lt_of_le (q2.lt k hv).2 hk.size, fun n c e => ?_⟩
    · rw [hcellF i hi, q1]
    · rcases (hfp g).1 hm with h | h
      · exact nv (by rw [hg, h])
      · exact mv (by rw [hg, h])
    · rcases q2.2 with ⟨h3, -⟩ | ⟨g, cap, cur, h3, -⟩
      · rw [h3] at e; injection e with _ _ e; exact e.symm
      · rw [h3] at e; injection e with e; cases e
  · exact hb.bel.trans ⟨hk.os, hk.tape, hk.output, hk.size, fun k hk2 => hk.blk k (by have := hb.bel.size; omega) (fun h => by have := hb.hs; have := List.mem_singleton.1 h; omega)⟩
end Go.Proofs.YtoaibhacognbjaaGreatDoor
