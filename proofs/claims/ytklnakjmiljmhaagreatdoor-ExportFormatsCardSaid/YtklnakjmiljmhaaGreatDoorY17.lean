/- Walks of the reference's Encoded. -/
import Derived.Deep.RegionHeld3
import Derived.Deep.AppendLies
import Derived.Test.YtklnakjmiljmhaaGreatDoorY15
import Derived.Test.YtklnakjmiljmhaaGreatDoorY16
namespace Go.Proofs.YtklnakjmiljmhaaGreatDoor
set_option linter.unusedVariables false
set_option linter.unusedSimpArgs false
set_option maxRecDepth 100000
open Go.RowKit
/-- 'out = append(out, ..)' of bytes in a new block, at a step of a region that draws its order. -/
theorem step_app_bytes {P : Program} {T e : TypeId} {i0 : TypeInfo} (ht : P.underlying T = some (.slice e)) (hi : P.info? e = some i0) (hz0 : i0.zero = some (.int .u8 0)) (hz1 : i0.size = 1) (hz2 : i0.bytes = 1)
    {w : World} {ops : Array Oper} {o : Oper} {a : Act} {K : Act → World → Prop} {Q : Exit → Act → World → Prop} {E : Prop} (s x : Operand) (v : Value) (m c : Nat) (l us : List UInt8) (news : List Value) (B : Nat)
    (hgd : o.guard = none) (ho : o.op = .call { callee := .builtin .append, args := #[s, x], argTypes := #[T, T] })
    (hs : a.eval s = v) (hx : a.eval x = .slice (some ⟨w.heap.size, 0, none⟩) m c) (hm : m = us.length) (hm0 : 0 < m) (hnews : news = us.map fun c => Value.int .u8 c.toNat) (hown : OB e B v l w) (hl : l.length < 500000000) (hl2 : us.length < 1000000) (hB : B ≤ w.heap.size)
    (h : ∀ g cap w1, OB e B (.slice (some ⟨g, 0, none⟩) (l.length + m) cap) (l ++ us) w1 → Below B w w1 → K (a.put o.dst (.slice (some ⟨g, 0, none⟩) (l.length + m) cap)) w1) :
    if Region.wanted o (yielded ops a.tmps) = true then Oper.wp P o a (w.alloc (.cells news.toArray e)) K Q else E := by
  subst hnews hm
  refine step_append_lies _ hgd s x T ho B e i0 (.int .u8 0) 1 1 ht hi hz0 hz1 hz2 rfl (by decide) v l.length _ hs (World.ownsRow.alloc hown _) ⟨w.heap.size, 0, none⟩ us.length c (us.map fun c => Value.int .u8 c.toNat) hx (by simp) ?_ ?_ hm0 ?_ ?_ ?_ (w.heap.size + 1) (by simp) ?_
  · intro j u hj
    rw [Addr.add_lit, Nat.zero_add, World.cell?_alloc_mark]
    simpa using hj
  · exact oneCell_bytes us
  · unfold maxLen; omega
  · omega
  · simp; omega
  · intro g cap w1 hown1 hg _ _
    exact h g cap w1 (by simpa [OB] using hown1) (below_of_grown hown hB hg)
set_option maxRecDepth 100000 in
set_option maxHeartbeats 4000000 in
theorem Encoded1 (v : Value) (l : List UInt8) (w : World) (hl : l.length ≤ 100000) (hv : BIn w.heap.size w v l) :
    Calls Tryz.prog 27 #[.int .i64 1, v] w (EncPost (encF hexE l) w) := by
  obtain ⟨i0, hi, hz0, hz1, hz2⟩ := info_parts info_u8
  obtain ⟨A, n, c, rfl, rfl, -, hcell⟩ := hv
  go_enter Tryz.func27, Tryz.ntmps27
  go_wp2
  go_loopw [5, 6] (fun v i wr => ∃ (k : Nat) (o : List UInt8), k ≤ l.length ∧ i = .int .i64 (k : Int) ∧ OB 5 w.heap.size v o wr ∧ o.length ≤ 2 * k ∧ Below w.heap.size w wr ∧ Hid (o ++ encF hexE (l.drop k) = encF hexE l)) (fun _ i _ => l.length - (intOf i).toNat)
  case atStart => exact ⟨0, [], by omega, rfl, OB.nil_ _ _ _, by simp, Below.refl _ _, rfl⟩
  case round =>
    obtain ⟨k, o, hk, rfl, hown, ho, hbel, HR⟩ := hrel
    by_cases hlt : k < l.length
    · have hd : decide ((k : Int) < l.length) = true := decide_eq_true (by omega)
      obtain ⟨ad, rfl, hadb, hcs⟩ := hcell.resolve_left (by omega)
      have hcl0 : wr.cell? (ad.add k) = w.cell? (ad.add k) := World.cell?_of_block (by rw [Reads_block]; exact hbel.block ad.block hadb)
      have hcl := hcl0.trans (hcs k hlt)
      have hclw := hcs k hlt
      clear hcl0 hcs hcell
      have HS := fun x h => encF_step hexE l o x _ k hlt HR h
      clear HR
      generalize l[k] = v at hcl hclw HS
      have HS := HS _ rfl
      unfold hexE at HS
      obtain ⟨c', hc', hc0, hc1⟩ := (⟨_, rfl, by omega, byte_lt _⟩ : ∃ c : Int, (v.toNat : Int) = c ∧ 0 ≤ c ∧ c < 256)
      rw [hc'] at hcl hclw HS
      have HW := Lib.hid hclw; clear hclw
      clear hc'
      obtain ⟨y, hy⟩ : ∃ y, bits .and .u8 c' 15 = y := ⟨_, rfl⟩
      have hyb : c' % 16 = y := by rw [← hy]; exact (and15_u8 c' hc0 hc1).symm
      rw [hyb] at HS
      have hy0 : 0 ≤ y := by omega
      have hy1 : y < 16 := by omega
      have hix := idx_hex .u8 (c' / 16) (by omega) (by omega)
      have hix2 := idx_hex .u8 y hy0 hy1
      clear hyb
      unfold hexE at *
      generalize hexd (c' / 16) = a at *
      generalize hexd y = b at *
      have hownd := hown.drewA
      have hbeld := hbel.drew
      have hzd := hbeld.size
      have hkl : (k : Int) < l.length := by omega
      have hka := Lib.hid (fun o => (World.cell?_alloc_lt wr o (ad.add k) (by rw [Reads_block]; exact Nat.lt_of_lt_of_le hadb hbel.size)).trans hcl)
      go_wp2_with fail
      go_region_held3 (fun w' => w'.cell? (ad.add k) = some (.int .u8 c'))
        (first | go_keep | exact hcl | exact hka.out _ | exact (World.cell?_of_block (by rw [Reads_block]; exact (hbeld.trans hb3).block ad.block hadb)).trans HW.out)
        ((refine step_app_bytes Tryz.underlying23 hi hz0 hz1 hz2 _ _ _ _ _ o [a, b] _ _ (by rfl) (by rfl) (by rfl) (by rfl) (by rfl) (by decide) (by rfl) hownd (by omega) (by simp) hzd ?_; intro gg cap w3 hown3 hb3))
      all_goals
        go_wp2
        go_roundw
        case rel => exact ⟨k + 1, _, by omega, by go_num, hown3, by simp; omega, hbeld.trans hb3, HS⟩
        case measure => simp [intOf]; omega
    · obtain rfl : k = l.length := by omega
      have hfin : o = encF hexE l := by rw [← HR.out, List.drop_eq_nil_of_le (by omega)]; simp [encF]
      have HF := Lib.hid hfin; clear hfin
      go_wp2
      go_ret
      exact ⟨_, rfl, HF.out ▸ hown, hbel⟩
set_option maxRecDepth 100000 in
set_option maxHeartbeats 4000000 in
theorem Encoded3 (v : Value) (l : List UInt8) (w : World) (hl : l.length ≤ 100000) (hv : BIn w.heap.size w v l) :
    Calls Tryz.prog 27 #[.int .i64 3, v] w (EncPost (encF pctE l) w) := by
  obtain ⟨i0, hi, hz0, hz1, hz2⟩ := info_parts info_u8
  obtain ⟨A, n, c, rfl, rfl, -, hcell⟩ := hv
  go_enter Tryz.func27, Tryz.ntmps27
  go_wp2
  go_loopw [5, 7] (fun v i wr => ∃ (k : Nat) (o : List UInt8), k ≤ l.length ∧ i = .int .i64 (k : Int) ∧ OB 5 w.heap.size v o wr ∧ o.length ≤ 3 * k ∧ Below w.heap.size w wr ∧ Hid (o ++ encF pctE (l.drop k) = encF pctE l)) (fun _ i _ => l.length - (intOf i).toNat)
  case atStart => exact ⟨0, [], by omega, rfl, OB.nil_ _ _ _, by simp, Below.refl _ _, rfl⟩
  case round =>
    obtain ⟨k, o, hk, rfl, hown, ho, hbel, HR⟩ := hrel
    by_cases hlt : k < l.length
    · have hd : decide ((k : Int) < l.length) = true := decide_eq_true (by omega)
      obtain ⟨ad, rfl, hadb, hcs⟩ := hcell.resolve_left (by omega)
      have hcl0 : wr.cell? (ad.add k) = w.cell? (ad.add k) := World.cell?_of_block (by rw [Reads_block]; exact hbel.block ad.block hadb)
      have hcl := hcl0.trans (hcs k hlt)
      have hclw := hcs k hlt
      clear hcl0 hcs hcell
      have HS := fun x h => encF_step pctE l o x _ k hlt HR h
      clear HR
      generalize l[k] = v at hcl hclw HS
      obtain ⟨c', hc', hc0, hc1⟩ := (⟨_, rfl, by omega, byte_lt _⟩ : ∃ c : Int, (v.toNat : Int) = c ∧ 0 ≤ c ∧ c < 256)
      have HC := Lib.hid hc'.symm
      rw [hc'] at hcl hclw
      have HW := Lib.hid hclw; clear hclw
      clear hc'
      have L := fun w => plain_ref c' w hc0 hc1
      have hkl : (k : Int) < l.length := by omega
      cases hp : pln c' with
      | true =>
        have HS := HS _ (pct_pln HC hp)
        rw [hp] at L
        clear hp
        go_wp2_with (first | (go_at_call 51; refine (L _).mono ?_; rintro e w1 ⟨rfl, rfl⟩) | (at_builtin; refine app_bytes Tryz.underlying23 hi hz0 hz1 hz2 _ _ _ _ _ o [v] _ _ rfl rfl rfl rfl rfl (by rw [HC.out]; rfl) hown (by omega) (by simp) hbel.size ?_; intro v1 w3 hown3 hb3))
        go_roundw
        case rel => exact ⟨k + 1, _, by omega, by go_num, hown3, by simp; omega, hbel.trans hb3, HS⟩
        case measure => simp [intOf]; omega
      | false =>
        have HS := HS _ (pct_not HC hp)
        rw [hp] at L
        clear hp
        obtain ⟨y, hy⟩ : ∃ y, bits .and .u8 c' 15 = y := ⟨_, rfl⟩
        have hyb : c' % 16 = y := by rw [← hy]; exact (and15_u8 c' hc0 hc1).symm
        rw [hyb] at HS
        have hy0 : 0 ≤ y := by omega
        have hy1 : y < 16 := by omega
        have hix := idx_Hex .u8 (c' / 16) (by omega) (by omega)
        have hix2 := idx_Hex .u8 y hy0 hy1
        clear hyb
        generalize Hexd (c' / 16) = a at *
        generalize Hexd y = b at *
        have hownd := hown.drewA
        have hbeld := hbel.drew
        have hzd := hbeld.size
        have hka := Lib.hid (fun o => (World.cell?_alloc_lt wr o (ad.add k) (by rw [Reads_block]; exact Nat.lt_of_lt_of_le hadb hbel.size)).trans hcl)
        go_wp2_with ((go_at_call 51; refine (L _).mono ?_; rintro e w1 ⟨rfl, rfl⟩))
        go_region_held3 (fun w' => w'.cell? (ad.add k) = some (.int .u8 c'))
          (first | go_keep | exact hcl | exact hka.out _ | exact (World.cell?_of_block (by rw [Reads_block]; exact (hbeld.trans hb3).block ad.block hadb)).trans HW.out)
          ((refine step_app_bytes Tryz.underlying23 hi hz0 hz1 hz2 _ _ _ _ _ o [37, a, b] _ _ (by rfl) (by rfl) (by rfl) (by rfl) (by rfl) (by decide) (by rfl) hownd (by omega) (by simp) hzd ?_; intro gg cap w3 hown3 hb3))
        all_goals
          go_wp2
          go_roundw
          case rel => exact ⟨k + 1, _, by omega, by go_num, hown3, by simp; omega, hbeld.trans hb3, HS⟩
          case measure => simp [intOf]; omega
    · obtain rfl : k = l.length := by omega
      have hfin : o = encF pctE l := by rw [← HR.out, List.drop_eq_nil_of_le (by omega)]; simp [encF]
      have HF := Lib.hid hfin; clear hfin
      go_wp2
      go_ret
      exact ⟨_, rfl, HF.out ▸ hown, hbel⟩
theorem escE_len (v : UInt8) : (escE v).length ≤ 4 := by
  unfold escE
  split
  · simp
  · split
    · simp
    · split
      · simp
      · split
        · simp
        · split <;> simp
set_option maxRecDepth 100000 in
set_option maxHeartbeats 4000000 in
theorem Encoded4 (v : Value) (l : List UInt8) (w : World) (hl : l.length ≤ 100000) (hv : BIn w.heap.size w v l) :
    Calls Tryz.prog 27 #[.int .i64 4, v] w (EncPost (encF escE l) w) := by
  obtain ⟨i0, hi, hz0, hz1, hz2⟩ := info_parts info_u8
  obtain ⟨A, n, c, rfl, rfl, -, hcell⟩ := hv
  go_enter Tryz.func27, Tryz.ntmps27
  go_wp2
  go_loopw [5, 8] (fun v i wr => ∃ (k : Nat) (o : List UInt8), k ≤ l.length ∧ i = .int .i64 (k : Int) ∧ OB 5 w.heap.size v o wr ∧ o.length ≤ 4 * k ∧ Below w.heap.size w wr ∧ Hid (o ++ encF escE (l.drop k) = encF escE l)) (fun _ i _ => l.length - (intOf i).toNat)
  case atStart => exact ⟨0, [], by omega, rfl, OB.nil_ _ _ _, by simp, Below.refl _ _, rfl⟩
  case round =>
    obtain ⟨k, o, hk, rfl, hown, ho, hbel, HR⟩ := hrel
    by_cases hlt : k < l.length
    · have hd : decide ((k : Int) < l.length) = true := decide_eq_true (by omega)
      obtain ⟨ad, rfl, hadb, hcs⟩ := hcell.resolve_left (by omega)
      have hcl0 : wr.cell? (ad.add k) = w.cell? (ad.add k) := World.cell?_of_block (by rw [Reads_block]; exact hbel.block ad.block hadb)
      have hcl := hcl0.trans (hcs k hlt)
      have hclw := hcs k hlt
      clear hcl0 hcs hcell
      have HS := fun x h => encF_step escE l o x _ k hlt HR h
      clear HR
      generalize l[k] = v at hcl hclw HS
      have HS := HS _ rfl
      obtain ⟨c', hc', hc0, hc1⟩ := (⟨_, rfl, by omega, byte_lt _⟩ : ∃ c : Int, (v.toNat : Int) = c ∧ 0 ≤ c ∧ c < 256)
      have HC := Lib.hid hc'.symm
      rw [hc'] at hcl
      have hkl : (k : Int) < l.length := by omega
      clear hc' hclw
      have hle := escE_len v
      go_wp2_with fail
      refine (escape_ref c' v HC hc0 hc1 _).mono ?_
      rintro e w1 ⟨m, cap, rfl, rfl⟩
      have hownm := hown.drew m
      have hbelm := Below.drewN' hbel m
      generalize escE v = ev at *
      go_wp2_with (at_builtin; refine app_bytes Tryz.underlying23 hi hz0 hz1 hz2 _ _ _ _ _ o ev _ _ rfl rfl rfl rfl rfl rfl hownm (by omega) (by omega) hbelm.size ?_; intro v1 w3 hown3 hb3)
      go_roundw
      case rel => exact ⟨k + 1, _, by omega, by go_num, hown3, by simp; omega, hbelm.trans hb3, HS⟩
      case measure => simp [intOf]; omega
    · obtain rfl : k = l.length := by omega
      have hfin : o = encF escE l := by rw [← HR.out, List.drop_eq_nil_of_le (by omega)]; simp [encF]
      have HF := Lib.hid hfin; clear hfin
      go_wp2
      go_ret
      exact ⟨_, rfl, HF.out ▸ hown, hbel⟩
theorem Encoded2 (v : Value) (l : List UInt8) (w : World) (hl : l.length ≤ 100000) (hv : BIn w.heap.size w v l) :
    Calls Tryz.prog 27 #[.int .i64 2, v] w (EncPost (b64E l) w) := by
  have E := base64_ref v l w hl hv
  go_enter Tryz.func27, Tryz.ntmps27
  go_wp2_with (go_at_call 50; refine E.mono ?_; rintro e w1 ⟨v, rfl, hv, hb⟩)
  go_ret
  exact ⟨v, rfl, hv, hb⟩
theorem Encoded_ref (c : Int) (hc : vldC c = true) (v : Value) (l : List UInt8) (w : World) (hl : l.length ≤ 100000) (hv : BIn w.heap.size w v l) :
    Calls Tryz.prog 27 #[.int .i64 c, v] w (EncPost (encd c l) w) := by
  have hc : c = 1 ∨ c = 2 ∨ c = 3 ∨ c = 4 := by unfold vldC at hc; simp at hc; omega
  rcases hc with rfl | rfl | rfl | rfl
  · exact Encoded1 v l w hl hv
  · exact Encoded2 v l w hl hv
  · exact Encoded3 v l w hl hv
  · exact Encoded4 v l w hl hv
end Go.Proofs.YtklnakjmiljmhaaGreatDoor
