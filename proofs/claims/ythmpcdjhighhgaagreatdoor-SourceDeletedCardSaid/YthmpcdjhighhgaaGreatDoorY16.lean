/- Walks of the reference's Encoded. · Walks of both Encodes. · Decoding an encoding gives the bytes: plain lists, no program. · The lines of messages: what is read out of a line that was written. Plain functions, no program in sight. · The reference's numbers out of texts. · A line, read: the plain law. -/
import Derived.Deep.RegionHeld3
import Derived.Deep.AppendLies
import Derived.Test.YthmpcdjhighhgaaGreatDoorY14
import Derived.Test.YthmpcdjhighhgaaGreatDoorY15
import Derived.Test.YthmpcdjhighhgaaGreatDoorY11
import Derived.Test.YthmpcdjhighhgaaGreatDoorY13
import Derived.Lib.ItoaNum
import Derived.Lib.AtoiTie
import Derived.Lib.Split
import Derived.Test.YthmpcdjhighhgaaGreatDoorY01
import Derived.Test.YthmpcdjhighhgaaGreatDoorY08
namespace Go.Proofs.YthmpcdjhighhgaaGreatDoor
set_option linter.unusedVariables false
set_option linter.unusedSimpArgs false
set_option maxRecDepth 100000
open Go.RowKit
/-- 'out = append(out, ..)' of bytes in a new block, at a step of a region that draws its order. -/
theorem step_app_bytes {P : Program} {T e : TypeId} {i0 : TypeInfo} (ht : P.underlying T = some (.slice e)) (hi : P.info? e = some i0) (hz0 : i0.zero = some (.int .u8 0)) (hz1 : i0.size = 1) (hz2 : i0.bytes = 1)
    {w : World} {ops : Array Oper} {o : Oper} {a : Act} {K : Act → World → Prop} {Q : Exit → Act → World → Prop} {E : Prop} (s x : Operand) (v : Value) (m c : Nat) (l us : List UInt8) (news : List Value) (B : Nat)
    (hgd : o.guard = none) (ho : o.op = .call { callee := .builtin .append, args := #[s, x], argTypes := #[T, T] })
    (hs : a.eval s = v) (hx : a.eval x = .slice (some ⟨w.heap.size, 0, none⟩) m c) (hm : m = us.length) (hm0 : 0 < m) (hnews : news = us.map fun c => Value.int .u8 c.toNat) (hown : OB e B v l w) (hl : l.length < 500000000) (hl2 : us.length < 1000000) (hB : B ≤ w.heap.size)
    (h : ∀ g cap w1, OB e B (.slice (some ⟨g, 0, none⟩) (l.length + m) cap) (l ++ us) w1 → Below B w w1 → K (a.put o.dst (.slice (some ⟨g, 0, none⟩) (l.length + m) cap)) w1) :
    if Region.wanted o (yielded ops a.tmps) = true then Oper.wp P o a (w.alloc (.cells news.toArray e)) K Q else E := by
  subst hnews hm
  refine step_append_lies _ hgd s x T ho B e i0 (.int .u8 0) 1 1 ht hi hz0 hz1 hz2 rfl (by decide) v l.length _ hs (World.ownsRow.alloc hown _) ⟨w.heap.size, 0, none⟩ us.length c (us.map fun c => Value.int .u8 c.toNat) hx (by simp) ?_ ?_ hm0 ?_ ?_ ?_ (w.heap.size + 1) (by simp) ?_
  · intro j u hj
    rw [Addr.add_lit, Nat.zero_add, World.cell?_alloc_mark]
    simpa using hj
  · exact oneCell_bytes us
  · unfold maxLen; omega
  · omega
  · simp; omega
  · intro g cap w1 hown1 hg _ _
    exact h g cap w1 (by simpa [OB] using hown1) (below_of_grown hown hB hg)
set_option maxRecDepth 100000 in
set_option maxHeartbeats 4000000 in
theorem Encoded1 (v : Value) (l : List UInt8) (w : World) (hl : l.length ≤ 100000) (hv : BIn w.heap.size w v l) :
    Calls Tryz.prog 11 #[.int .i64 1, v] w (EncPost (encF hexE l) w) := by
  obtain ⟨i0, hi, hz0, hz1, hz2⟩ := info_parts info_u8
  obtain ⟨A, n, c, rfl, rfl, -, hcell⟩ := hv
  go_enter Tryz.func11, Tryz.ntmps11
  go_wp2
  go_loopw [5, 6] (fun v i wr => ∃ (k : Nat) (o : List UInt8), k ≤ l.length ∧ i = .int .i64 (k : Int) ∧ OB 5 w.heap.size v o wr ∧ o.length ≤ 2 * k ∧ Below w.heap.size w wr ∧ Hid (o ++ encF hexE (l.drop k) = encF hexE l)) (fun _ i _ => l.length - (intOf i).toNat)
  case atStart => exact ⟨0, [], by omega, rfl, OB.nil_ _ _ _, by simp, Below.refl _ _, rfl⟩
  case round =>
    obtain ⟨k, o, hk, rfl, hown, ho, hbel, HR⟩ := hrel
    by_cases hlt : k < l.length
    · have hd : decide ((k : Int) < l.length) = true := decide_eq_true (by omega)
      obtain ⟨ad, rfl, hadb, hcs⟩ := hcell.resolve_left (by omega)
      have hcl0 : wr.cell? (ad.add k) = w.cell? (ad.add k) := World.cell?_of_block (by rw [Reads_block]; exact hbel.block ad.block hadb)
      have hcl := hcl0.trans (hcs k hlt)
      have hclw := hcs k hlt
      clear hcl0 hcs hcell
      have HS := fun x h => encF_step hexE l o x _ k hlt HR h
      clear HR
      generalize l[k] = v at hcl hclw HS
      have HS := HS _ rfl
      unfold hexE at HS
      obtain ⟨c', hc', hc0, hc1⟩ := (⟨_, rfl, by omega, byte_lt _⟩ : ∃ c : Int, (v.toNat : Int) = c ∧ 0 ≤ c ∧ c < 256)
      rw [hc'] at hcl hclw HS
      have HW := Lib.hid hclw; clear hclw
      clear hc'
      obtain ⟨y, hy⟩ : ∃ y, bits .and .u8 c' 15 = y := ⟨_, rfl⟩
      have hyb : c' % 16 = y := by rw [← hy]; exact (and15_u8 c' hc0 hc1).symm
      rw [hyb] at HS
      have hy0 : 0 ≤ y := by omega
      have hy1 : y < 16 := by omega
      have hix := idx_hex .u8 (c' / 16) (by omega) (by omega)
      have hix2 := idx_hex .u8 y hy0 hy1
      clear hyb
      unfold hexE at *
      generalize hexd (c' / 16) = a at *
      generalize hexd y = b at *
      have hownd := hown.drewA
      have hbeld := hbel.drew
      have hzd := hbeld.size
      have hkl : (k : Int) < l.length := by omega
      have hka := Lib.hid (fun o => (World.cell?_alloc_lt wr o (ad.add k) (by rw [Reads_block]; exact Nat.lt_of_lt_of_le hadb hbel.size)).trans hcl)
      go_wp2_with fail
      go_region_held3 (fun w' => w'.cell? (ad.add k) = some (.int .u8 c'))
        (first | go_keep | exact hcl | exact hka.out _ | exact (World.cell?_of_block (by rw [Reads_block]; exact (hbeld.trans hb3).block ad.block hadb)).trans HW.out)
        ((refine step_app_bytes Tryz.underlying30 hi hz0 hz1 hz2 _ _ _ _ _ o [a, b] _ _ (by rfl) (by rfl) (by rfl) (by rfl) (by rfl) (by decide) (by rfl) hownd (by omega) (by simp) hzd ?_; intro gg cap w3 hown3 hb3))
      all_goals
        go_wp2
        go_roundw
        case rel => exact ⟨k + 1, _, by omega, by go_num, hown3, by simp; omega, hbeld.trans hb3, HS⟩
        case measure => simp [intOf]; omega
    · obtain rfl : k = l.length := by omega
      have hfin : o = encF hexE l := by rw [← HR.out, List.drop_eq_nil_of_le (by omega)]; simp [encF]
      have HF := Lib.hid hfin; clear hfin
      go_wp2
      go_ret
      exact ⟨_, rfl, HF.out ▸ hown, hbel⟩
set_option maxRecDepth 100000 in
set_option maxHeartbeats 4000000 in
theorem Encoded3 (v : Value) (l : List UInt8) (w : World) (hl : l.length ≤ 100000) (hv : BIn w.heap.size w v l) :
    Calls Tryz.prog 11 #[.int .i64 3, v] w (EncPost (encF pctE l) w) := by
  obtain ⟨i0, hi, hz0, hz1, hz2⟩ := info_parts info_u8
  obtain ⟨A, n, c, rfl, rfl, -, hcell⟩ := hv
  go_enter Tryz.func11, Tryz.ntmps11
  go_wp2
  go_loopw [5, 7] (fun v i wr => ∃ (k : Nat) (o : List UInt8), k ≤ l.length ∧ i = .int .i64 (k : Int) ∧ OB 5 w.heap.size v o wr ∧ o.length ≤ 3 * k ∧ Below w.heap.size w wr ∧ Hid (o ++ encF pctE (l.drop k) = encF pctE l)) (fun _ i _ => l.length - (intOf i).toNat)
  case atStart => exact ⟨0, [], by omega, rfl, OB.nil_ _ _ _, by simp, Below.refl _ _, rfl⟩
  case round =>
    obtain ⟨k, o, hk, rfl, hown, ho, hbel, HR⟩ := hrel
    by_cases hlt : k < l.length
    · have hd : decide ((k : Int) < l.length) = true := decide_eq_true (by omega)
      obtain ⟨ad, rfl, hadb, hcs⟩ := hcell.resolve_left (by omega)
      have hcl0 : wr.cell? (ad.add k) = w.cell? (ad.add k) := World.cell?_of_block (by rw [Reads_block]; exact hbel.block ad.block hadb)
      have hcl := hcl0.trans (hcs k hlt)
      have hclw := hcs k hlt
      clear hcl0 hcs hcell
      have HS := fun x h => encF_step pctE l o x _ k hlt HR h
      clear HR
      generalize l[k] = v at hcl hclw HS
      obtain ⟨c', hc', hc0, hc1⟩ := (⟨_, rfl, by omega, byte_lt _⟩ : ∃ c : Int, (v.toNat : Int) = c ∧ 0 ≤ c ∧ c < 256)
      have HC := Lib.hid hc'.symm
      rw [hc'] at hcl hclw
      have HW := Lib.hid hclw; clear hclw
      clear hc'
      have L := fun w => plain_ref c' w hc0 hc1
      have hkl : (k : Int) < l.length := by omega
      cases hp : pln c' with
      | true =>
        have HS := HS _ (pct_pln HC hp)
        rw [hp] at L
        clear hp
        go_wp2_with (first | (go_at_call 17; refine (L _).mono ?_; rintro e w1 ⟨rfl, rfl⟩) | (at_builtin; refine app_bytes Tryz.underlying30 hi hz0 hz1 hz2 _ _ _ _ _ o [v] _ _ rfl rfl rfl rfl rfl (by rw [HC.out]; rfl) hown (by omega) (by simp) hbel.size ?_; intro v1 w3 hown3 hb3))
        go_roundw
        case rel => exact ⟨k + 1, _, by omega, by go_num, hown3, by simp; omega, hbel.trans hb3, HS⟩
        case measure => simp [intOf]; omega
      | false =>
        have HS := HS _ (pct_not HC hp)
        rw [hp] at L
        clear hp
        obtain ⟨y, hy⟩ : ∃ y, bits .and .u8 c' 15 = y := ⟨_, rfl⟩
        have hyb : c' % 16 = y := by rw [← hy]; exact (and15_u8 c' hc0 hc1).symm
        rw [hyb] at HS
        have hy0 : 0 ≤ y := by omega
        have hy1 : y < 16 := by omega
        have hix := idx_Hex .u8 (c' / 16) (by omega) (by omega)
        have hix2 := idx_Hex .u8 y hy0 hy1
        clear hyb
        generalize Hexd (c' / 16) = a at *
        generalize Hexd y = b at *
        have hownd := hown.drewA
        have hbeld := hbel.drew
        have hzd := hbeld.size
        have hka := Lib.hid (fun o => (World.cell?_alloc_lt wr o (ad.add k) (by rw [Reads_block]; exact Nat.lt_of_lt_of_le hadb hbel.size)).trans hcl)
        go_wp2_with ((go_at_call 17; refine (L _).mono ?_; rintro e w1 ⟨rfl, rfl⟩))
        go_region_held3 (fun w' => w'.cell? (ad.add k) = some (.int .u8 c'))
          (first | go_keep | exact hcl | exact hka.out _ | exact (World.cell?_of_block (by rw [Reads_block]; exact (hbeld.trans hb3).block ad.block hadb)).trans HW.out)
          ((refine step_app_bytes Tryz.underlying30 hi hz0 hz1 hz2 _ _ _ _ _ o [37, a, b] _ _ (by rfl) (by rfl) (by rfl) (by rfl) (by rfl) (by decide) (by rfl) hownd (by omega) (by simp) hzd ?_; intro gg cap w3 hown3 hb3))
        all_goals
          go_wp2
          go_roundw
          case rel => exact ⟨k + 1, _, by omega, by go_num, hown3, by simp; omega, hbeld.trans hb3, HS⟩
          case measure => simp [intOf]; omega
    · obtain rfl : k = l.length := by omega
      have hfin : o = encF pctE l := by rw [← HR.out, List.drop_eq_nil_of_le (by omega)]; simp [encF]
      have HF := Lib.hid hfin; clear hfin
      go_wp2
      go_ret
      exact ⟨_, rfl, HF.out ▸ hown, hbel⟩
theorem escE_len (v : UInt8) : (escE v).length ≤ 4 := by
  unfold escE
  split
  · simp
  · split
    · simp
    · split
      · simp
      · split
        · simp
        · split <;> simp
set_option maxRecDepth 100000 in
set_option maxHeartbeats 4000000 in
theorem Encoded4 (v : Value) (l : List UInt8) (w : World) (hl : l.length ≤ 100000) (hv : BIn w.heap.size w v l) :
    Calls Tryz.prog 11 #[.int .i64 4, v] w (EncPost (encF escE l) w) := by
  obtain ⟨i0, hi, hz0, hz1, hz2⟩ := info_parts info_u8
  obtain ⟨A, n, c, rfl, rfl, -, hcell⟩ := hv
  go_enter Tryz.func11, Tryz.ntmps11
  go_wp2
  go_loopw [5, 8] (fun v i wr => ∃ (k : Nat) (o : List UInt8), k ≤ l.length ∧ i = .int .i64 (k : Int) ∧ OB 5 w.heap.size v o wr ∧ o.length ≤ 4 * k ∧ Below w.heap.size w wr ∧ Hid (o ++ encF escE (l.drop k) = encF escE l)) (fun _ i _ => l.length - (intOf i).toNat)
  case atStart => exact ⟨0, [], by omega, rfl, OB.nil_ _ _ _, by simp, Below.refl _ _, rfl⟩
  case round =>
    obtain ⟨k, o, hk, rfl, hown, ho, hbel, HR⟩ := hrel
    by_cases hlt : k < l.length
    · have hd : decide ((k : Int) < l.length) = true := decide_eq_true (by omega)
      obtain ⟨ad, rfl, hadb, hcs⟩ := hcell.resolve_left (by omega)
      have hcl0 : wr.cell? (ad.add k) = w.cell? (ad.add k) := World.cell?_of_block (by rw [Reads_block]; exact hbel.block ad.block hadb)
      have hcl := hcl0.trans (hcs k hlt)
      have hclw := hcs k hlt
      clear hcl0 hcs hcell
      have HS := fun x h => encF_step escE l o x _ k hlt HR h
      clear HR
      generalize l[k] = v at hcl hclw HS
      have HS := HS _ rfl
      obtain ⟨c', hc', hc0, hc1⟩ := (⟨_, rfl, by omega, byte_lt _⟩ : ∃ c : Int, (v.toNat : Int) = c ∧ 0 ≤ c ∧ c < 256)
      have HC := Lib.hid hc'.symm
      rw [hc'] at hcl
      have hkl : (k : Int) < l.length := by omega
      clear hc' hclw
      have hle := escE_len v
      go_wp2_with fail
      refine (escape_ref c' v HC hc0 hc1 _).mono ?_
      rintro e w1 ⟨m, cap, rfl, rfl⟩
      have hownm := hown.drew m
      have hbelm := Below.drewN' hbel m
      generalize escE v = ev at *
      go_wp2_with (at_builtin; refine app_bytes Tryz.underlying30 hi hz0 hz1 hz2 _ _ _ _ _ o ev _ _ rfl rfl rfl rfl rfl rfl hownm (by omega) (by omega) hbelm.size ?_; intro v1 w3 hown3 hb3)
      go_roundw
      case rel => exact ⟨k + 1, _, by omega, by go_num, hown3, by simp; omega, hbelm.trans hb3, HS⟩
      case measure => simp [intOf]; omega
    · obtain rfl : k = l.length := by omega
      have hfin : o = encF escE l := by rw [← HR.out, List.drop_eq_nil_of_le (by omega)]; simp [encF]
      have HF := Lib.hid hfin; clear hfin
      go_wp2
      go_ret
      exact ⟨_, rfl, HF.out ▸ hown, hbel⟩
theorem Encoded2 (v : Value) (l : List UInt8) (w : World) (hl : l.length ≤ 100000) (hv : BIn w.heap.size w v l) :
    Calls Tryz.prog 11 #[.int .i64 2, v] w (EncPost (b64E l) w) := by
  have E := base64_ref v l w hl hv
  go_enter Tryz.func11, Tryz.ntmps11
  go_wp2_with (go_at_call 16; refine E.mono ?_; rintro e w1 ⟨v, rfl, hv, hb⟩)
  go_ret
  exact ⟨v, rfl, hv, hb⟩
theorem Encoded_ref (c : Int) (hc : vldC c = true) (v : Value) (l : List UInt8) (w : World) (hl : l.length ≤ 100000) (hv : BIn w.heap.size w v l) :
    Calls Tryz.prog 11 #[.int .i64 c, v] w (EncPost (encd c l) w) := by
  have hc : c = 1 ∨ c = 2 ∨ c = 3 ∨ c = 4 := by unfold vldC at hc; simp at hc; omega
  rcases hc with rfl | rfl | rfl | rfl
  · exact Encoded1 v l w hl hv
  · exact Encoded2 v l w hl hv
  · exact Encoded3 v l w hl hv
  · exact Encoded4 v l w hl hv
end Go.Proofs.YthmpcdjhighhgaaGreatDoor
namespace Go.Proofs.YthmpcdjhighhgaaGreatDoor
set_option linter.unusedVariables false
set_option linter.unusedSimpArgs false
set_option maxRecDepth 100000
open Go.RowKit
def encErr (c : Int) (l : List UInt8) : Int := if vldC c = false then 1 else if 65536 < l.length then 3 else 0
def encOut (c : Int) (l : List UInt8) : List UInt8 := if vldC c = false then [] else if 65536 < l.length then [] else encd c l
def EePost (c : Int) (l : List UInt8) (w : World) (e : Ending) (w' : World) : Prop := e = .returned (.tuple #[.string (bs (encOut c l)), .int .i64 (encErr c l)]) ∧ Below w.heap.size w w'
theorem EePost.bad {c : Int} {l : List UInt8} {w : World} (h : vldC c = false) : EePost c l w (.returned (.tuple #[.string ⟨#[]⟩, .int .i64 1])) w := by
  refine ⟨?_, Below.refl _ _⟩
  unfold encErr encOut; rw [if_pos h, if_pos h]; rfl
theorem EePost.long {c : Int} {l : List UInt8} {w : World} (h : vldC c = true) (h2 : 65536 < l.length) : EePost c l w (.returned (.tuple #[.string ⟨#[]⟩, .int .i64 3])) w := by
  refine ⟨?_, Below.refl _ _⟩
  unfold encErr encOut; rw [if_neg (by rw [h]; decide), if_pos h2, if_neg (by rw [h]; decide), if_pos h2]; rfl
theorem EePost.ok {c : Int} {l x : List UInt8} {w w' : World} (h : vldC c = true) (h2 : ¬ 65536 < l.length) (hx : x = encd c l) (hb : Below w.heap.size w w') : EePost c l w (.returned (.tuple #[.string (bs x), .int .i64 0])) w' := by
  refine ⟨?_, hb⟩
  unfold encErr encOut; rw [if_neg (by rw [h]; decide), if_neg h2, if_neg (by rw [h]; decide), if_neg h2, hx]
set_option maxHeartbeats 1000000 in
theorem Encode_any (c : Int) (v : Value) (l : List UInt8) (w : World) (hl : l.length ≤ 100000000) (hv : BIn w.heap.size w v l) : Calls Tryz.prog 89 #[.int .i64 c, v] w (EePost c l w) := by
  have V := fun w => cvalid_any c w
  have hv0 := hv
  obtain ⟨A, n, cc, rfl, rfl, -, -⟩ := hv0
  cases h : vldC c with
  | false =>
    rw [h] at V
    have HV := Lib.hid h; clear h
    go_enter Tryz.func89, Tryz.ntmps89
    go_wp2_with (go_at_call 141; refine (V _).mono ?_; rintro e w1 ⟨rfl, rfl⟩)
    go_ret2
    exact EePost.bad HV.out
  | true =>
    rw [h] at V
    have HV := Lib.hid h
    have hc : c = 1 ∨ c = 2 ∨ c = 3 ∨ c = 4 := by unfold vldC at h; simp at h; omega
    clear h
    by_cases hL : 65536 < l.length
    · have HL := Lib.hid hL
      go_enter Tryz.func89, Tryz.ntmps89
      go_wp2_with (go_at_call 141; refine (V _).mono ?_; rintro e w1 ⟨rfl, rfl⟩)
      go_ret2
      exact EePost.long HV.out HL.out
    · have HL := Lib.hid hL
      have D1 := encodeHex_any _ l w (by omega) hv
      have D2 := encodeBase64_any _ l w (by omega) hv
      have D3 := encodePercent_any _ l w (by omega) hv
      have D4 := encodeEscape_any _ l w (by omega) hv
      have HV2 := Lib.hid hv
      clear hv
      rcases hc with rfl | rfl | rfl | rfl
      · go_enter Tryz.func89, Tryz.ntmps89
        go_wp2_with (first | (go_at_call 141; refine (V _).mono ?_; rintro e w1 ⟨rfl, rfl⟩) | (go_at_call 147; refine D1.mono ?_; rintro e w1 ⟨rfl, hb⟩))
        go_ret2
        exact EePost.ok HV.out HL.out rfl hb
      · go_enter Tryz.func89, Tryz.ntmps89
        go_wp2_with (first | (go_at_call 141; refine (V _).mono ?_; rintro e w1 ⟨rfl, rfl⟩) | (go_at_call 148; refine D2.mono ?_; rintro e w1 ⟨rfl, hb⟩))
        go_ret2
        exact EePost.ok HV.out HL.out rfl hb
      · go_enter Tryz.func89, Tryz.ntmps89
        go_wp2_with (first | (go_at_call 141; refine (V _).mono ?_; rintro e w1 ⟨rfl, rfl⟩) | (go_at_call 149; refine D3.mono ?_; rintro e w1 ⟨rfl, hb⟩))
        go_ret2
        exact EePost.ok HV.out HL.out rfl hb
      · go_enter Tryz.func89, Tryz.ntmps89
        go_wp2_with (first | (go_at_call 141; refine (V _).mono ?_; rintro e w1 ⟨rfl, rfl⟩) | (go_at_call 150; refine D4.mono ?_; rintro e w1 ⟨rfl, hb⟩))
        go_ret2
        exact EePost.ok HV.out HL.out rfl hb
end Go.Proofs.YthmpcdjhighhgaaGreatDoor
namespace Go.Proofs.YthmpcdjhighhgaaGreatDoor
set_option linter.unusedVariables false
set_option linter.unusedSimpArgs false
set_option maxRecDepth 100000
open Go
theorem two_hex0 : ∀ n : Fin 256, twoB (hexd ((UInt8.ofNat n.val).toNat / 16 : Int)) (hexd ((UInt8.ofNat n.val).toNat % 16 : Int)) = some (UInt8.ofNat n.val) := by decide +kernel
theorem two_hex (v : UInt8) : twoB (hexd ((v.toNat : Int) / 16)) (hexd ((v.toNat : Int) % 16)) = some v := all_u8 (p := fun v => twoB (hexd ((v.toNat : Int) / 16)) (hexd ((v.toNat : Int) % 16)) = some v) two_hex0 v
theorem two_Hex0 : ∀ n : Fin 256, twoB (Hexd ((UInt8.ofNat n.val).toNat / 16 : Int)) (Hexd ((UInt8.ofNat n.val).toNat % 16 : Int)) = some (UInt8.ofNat n.val) := by decide +kernel
theorem two_Hex (v : UInt8) : twoB (Hexd ((v.toNat : Int) / 16)) (Hexd ((v.toNat : Int) % 16)) = some v := all_u8 (p := fun v => twoB (Hexd ((v.toNat : Int) / 16)) (Hexd ((v.toNat : Int) % 16)) = some v) two_Hex0 v
theorem back_hex : ∀ (l o : List UInt8), decHex (encF hexE l) o = some (o ++ l)
  | [], o => by simp [encF, decHex]
  | c :: r, o => by
    rw [encF, hexE]
    show (match twoB (hexd ((c.toNat : Int) / 16)) (hexd ((c.toNat : Int) % 16)) with | none => none | some c => decHex (encF hexE r) (o ++ [c])) = _
    rw [two_hex]
    show decHex (encF hexE r) (o ++ [c]) = _
    rw [back_hex r, List.append_assoc]; rfl
theorem pln_not37 (c : UInt8) (h : pln c.toNat = true) : c ≠ 37 := by
  rintro rfl; revert h; decide
theorem back_pct : ∀ (l o : List UInt8), decPct (encF pctE l) o = some (o ++ l)
  | [], o => by simp [encF, decPct]
  | c :: r, o => by
    rw [encF]
    by_cases h : pln c.toNat = true
    · rw [pctE, if_pos h]
      show decPct (c :: encF pctE r) o = _
      rw [decPct_own _ _ _ (pln_not37 c h), back_pct r, List.append_assoc]; rfl
    · rw [pctE, if_neg h]
      show decPct (37 :: Hexd ((c.toNat : Int) / 16) :: Hexd ((c.toNat : Int) % 16) :: encF pctE r) o = _
      rw [decPct_two]
      show (match twoB (Hexd ((c.toNat : Int) / 16)) (Hexd ((c.toNat : Int) % 16)) with | none => none | some x => decPct (encF pctE r) (o ++ [x])) = _
      rw [two_Hex]
      show decPct (encF pctE r) (o ++ [c]) = _
      rw [back_pct r, List.append_assoc]; rfl
theorem back_esc : ∀ (l o : List UInt8), decEsc (encF escE l) o = some (o ++ l)
  | [], o => by simp [encF, decEsc]
  | c :: r, o => by
    rw [encF]
    have fin : ∀ x : UInt8, x = c → decEsc (encF escE r) (o ++ [x]) = some (o ++ c :: r) := fun x hx => by rw [back_esc r, hx, List.append_assoc]; rfl
    unfold escE
    by_cases h1 : c = 10
    · rw [if_pos h1]
      show decEsc (92 :: 110 :: encF escE r) o = _
      rw [decEsc_esc]; unfold escO; rw [if_pos rfl]; exact fin _ h1.symm
    rw [if_neg h1]
    by_cases h2 : c = 13
    · rw [if_pos h2]
      show decEsc (92 :: 114 :: encF escE r) o = _
      rw [decEsc_esc]; unfold escO; rw [if_neg (by decide), if_pos rfl]; exact fin _ h2.symm
    rw [if_neg h2]
    by_cases h3 : c = 9
    · rw [if_pos h3]
      show decEsc (92 :: 116 :: encF escE r) o = _
      rw [decEsc_esc]; unfold escO; rw [if_neg (by decide), if_neg (by decide), if_pos rfl]; exact fin _ h3.symm
    rw [if_neg h3]
    by_cases h4 : c = 92
    · rw [if_pos h4]
      show decEsc (92 :: 92 :: encF escE r) o = _
      rw [decEsc_esc]; unfold escO; rw [if_neg (by decide), if_neg (by decide), if_neg (by decide), if_pos rfl]; exact fin _ h4.symm
    rw [if_neg h4]
    by_cases h5 : c.toNat < 32 ∨ 126 < c.toNat
    · rw [if_pos h5]
      show decEsc (92 :: 120 :: hexd ((c.toNat : Int) / 16) :: hexd ((c.toNat : Int) % 16) :: encF escE r) o = _
      rw [decEsc_esc]; unfold escO; rw [if_neg (by decide), if_neg (by decide), if_neg (by decide), if_neg (by decide), if_pos rfl]
      show (match twoB (hexd ((c.toNat : Int) / 16)) (hexd ((c.toNat : Int) % 16)) with | none => none | some x => decEsc (encF escE r) (o ++ [x])) = _
      rw [two_hex]; exact fin _ rfl
    · rw [if_neg h5]
      show decEsc (c :: encF escE r) o = _
      rw [decEsc_own _ _ _ h4]; exact fin _ rfl
theorem sgnV_B0 : ∀ n : Fin 64, sgnV ((sgnB (n.val : Int)).toNat : Int) = (n.val : Int) ∧ sgnB (n.val : Int) ≠ 61 := by decide +kernel
theorem sgnV_B (n : Int) (h0 : 0 ≤ n) (h1 : n < 64) : sgnV ((sgnB n).toNat : Int) = n ∧ sgnB n ≠ 61 := by
  have h := sgnV_B0 ⟨n.toNat, by omega⟩
  simp only [Int.toNat_of_nonneg h0] at h
  exact h
theorem grpF_dig (p : Nat) (n : Int) (r : List UInt8) (k : Nat) (B : Int) (h0 : 0 ≤ n) (h1 : n < 64) (hk : ¬ 4 - p ≤ k) : grpF p (sgnB n :: r) k B = grpF p r (k + 1) (B * 64 + n) := by
  rw [grpF, if_neg hk, (sgnV_B n h0 h1).1, if_neg (by omega)]
theorem grpF_61 (p : Nat) (r : List UInt8) (k : Nat) (B : Int) (hk : 4 - p ≤ k) : grpF p (61 :: r) k B = grpF p r (k + 1) (B * 64) := by rw [grpF, if_pos hk]
theorem u8_back (v : UInt8) (x : Int) (h : x = v.toNat) : UInt8.ofNat x.toNat = v := by subst h; simp
theorem back_b64 : ∀ (l o : List UInt8), decB64 (b64E l) o = some (o ++ l)
  | [], o => by simp [b64E, decB64]
  | [a], o => by
    have ha := a.toNat_lt
    rw [b64E, decB64_four _ _ _ _ _ _ [] rfl]
    have : grp true [sgnB ((a.toNat : Int) / 4), sgnB ((a.toNat : Int) % 4 * 16), 61, 61] = some [a] := by
      show grpF (padsOf 61 61 true) _ 0 0 = _
      rw [show padsOf 61 61 true = 2 from rfl, grpF_dig _ _ _ _ _ (by omega) (by omega) (by decide), grpF_dig _ _ _ _ _ (by omega) (by omega) (by decide), grpF_61 _ _ _ _ (by decide), grpF_61 _ _ _ _ (by decide), grpF, fin64]
      rw [if_pos (by simp only [Int.reducePow]; omega)]
      simp only [List.take, Nat.reduceSub]
      rw [u8_back a _ (by omega)]
    show (match grp true [sgnB ((a.toNat : Int) / 4), sgnB ((a.toNat : Int) % 4 * 16), 61, 61] with | none => none | some x => decB64 [] (o ++ x)) = _
    rw [this]; rfl
  | [a, b], o => by
    have ha := a.toNat_lt
    have hb := b.toNat_lt
    rw [b64E, decB64_four _ _ _ _ _ _ [] rfl]
    have hne := (sgnV_B ((b.toNat : Int) % 16 * 4) (by omega) (by omega)).2
    have : grp true [sgnB ((a.toNat : Int) / 4), sgnB ((a.toNat : Int) % 4 * 16 + (b.toNat : Int) / 16), sgnB ((b.toNat : Int) % 16 * 4), 61] = some [a, b] := by
      show grpF (padsOf _ 61 true) _ 0 0 = _
      rw [show padsOf (sgnB ((b.toNat : Int) % 16 * 4)) 61 true = 1 by simp [padsOf, hne], grpF_dig _ _ _ _ _ (by omega) (by omega) (by decide), grpF_dig _ _ _ _ _ (by omega) (by omega) (by decide), grpF_dig _ _ _ _ _ (by omega) (by omega) (by decide), grpF_61 _ _ _ _ (by decide), grpF, fin64]
      rw [if_pos (by simp only [Int.reducePow]; omega)]
      simp only [List.take, Nat.reduceSub]
      rw [u8_back a _ (by omega), u8_back b _ (by omega)]
    show (match grp true [sgnB ((a.toNat : Int) / 4), sgnB ((a.toNat : Int) % 4 * 16 + (b.toNat : Int) / 16), sgnB ((b.toNat : Int) % 16 * 4), 61] with | none => none | some x => decB64 [] (o ++ x)) = _
    rw [this]; rfl
  | a :: b :: c :: r, o => by
    have ha := a.toNat_lt
    have hb := b.toNat_lt
    have hc := c.toNat_lt
    rw [b64E, decB64_four _ _ _ _ _ _ (b64E r) rfl]
    have hne := (sgnV_B ((c.toNat : Int) % 64) (by omega) (by omega)).2
    have : ∀ last, grp last [sgnB ((a.toNat : Int) / 4), sgnB ((a.toNat : Int) % 4 * 16 + (b.toNat : Int) / 16), sgnB ((b.toNat : Int) % 16 * 4 + (c.toNat : Int) / 64), sgnB ((c.toNat : Int) % 64)] = some [a, b, c] := by
      intro last
      show grpF (padsOf _ _ last) _ 0 0 = _
      rw [show padsOf (sgnB ((b.toNat : Int) % 16 * 4 + (c.toNat : Int) / 64)) (sgnB ((c.toNat : Int) % 64)) last = 0 by simp [padsOf, hne], grpF_dig _ _ _ _ _ (by omega) (by omega) (by decide), grpF_dig _ _ _ _ _ (by omega) (by omega) (by decide), grpF_dig _ _ _ _ _ (by omega) (by omega) (by decide), grpF_dig _ _ _ _ _ (by omega) (by omega) (by decide), grpF, fin64]
      rw [if_pos (by simp only [Int.reducePow]; omega)]
      simp only [List.take, Nat.reduceSub]
      rw [u8_back a _ (by omega), u8_back b _ (by omega), u8_back c _ (by omega)]
    rw [this]
    show decB64 (b64E r) (o ++ [a, b, c]) = _
    rw [back_b64 r, List.append_assoc]; rfl
theorem back_all (c : Int) (l : List UInt8) : decd c (encd c l) = some l := by
  unfold decd encd
  by_cases h1 : c = 1
  · rw [if_pos h1, if_pos h1, back_hex]; rfl
  rw [if_neg h1, if_neg h1]
  by_cases h2 : c = 2
  · rw [if_pos h2, if_pos h2, back_b64]; rfl
  rw [if_neg h2, if_neg h2]
  by_cases h3 : c = 3
  · rw [if_pos h3, if_pos h3, back_pct]; rfl
  rw [if_neg h3, if_neg h3, back_esc]; rfl
theorem encF_len (f : UInt8 → List UInt8) (m : Nat) (hf : ∀ c, (f c).length ≤ m) : ∀ l, (encF f l).length ≤ m * l.length
  | [] => by simp [encF]
  | c :: r => by
    have := encF_len f m hf r
    have := hf c
    rw [encF, List.length_append, List.length_cons, Nat.mul_succ]; omega
theorem b64E_len : ∀ l, (b64E l).length ≤ 4 * l.length
  | [] => by simp [b64E]
  | [_] => by simp [b64E]
  | [_, _] => by simp [b64E]
  | a :: b :: c :: r => by
    have := b64E_len r
    simp only [b64E, List.length_cons]; omega
theorem encd_len (c : Int) (l : List UInt8) : (encd c l).length ≤ 4 * l.length := by
  unfold encd
  have h1 := encF_len hexE 2 (fun c => by simp [hexE]) l
  have h3 := encF_len pctE 3 (fun c => by unfold pctE; split <;> simp) l
  have h4 := encF_len escE 4 escE_len l
  have h2 := b64E_len l
  split
  · omega
  · split
    · exact h2
    · split <;> omega
end Go.Proofs.YthmpcdjhighhgaaGreatDoor
namespace Go.Proofs.YthmpcdjhighhgaaGreatDoor
set_option linter.unusedVariables false
set_option linter.unusedSimpArgs false
set_option maxRecDepth 100000
open Go
def numL (n : Int) : List UInt8 := Lib.decDigits n.toNat
def tailM (m : Ms) : List UInt8 := if m.kind = 3 then [] else 32 :: encF escE m.text
def lineM (m : Ms) : List UInt8 := wordM m.kind ++ 32 :: (numL m.id ++ 32 :: (numL m.time ++ 32 :: (m.who ++ tailM m)))
def fmtM : List Ms → List UInt8
  | [] => []
  | m :: r => lineM m ++ 10 :: fmtM r
theorem fmtM_app : ∀ a b : List Ms, fmtM (a ++ b) = fmtM a ++ fmtM b
  | [], b => rfl
  | m :: r, b => by rw [List.cons_append, fmtM, fmtM, fmtM_app r b]; simp
/-! Pieces between spaces. -/
theorem occ32 (s : List UInt8) (j : Nat) (h : j < s.length) : Lib.occAt s [32] j = (s[j] == 32) := by
  unfold Lib.occAt
  rw [List.drop_eq_getElem_cons h]
  simp [List.isPrefixOf]
  exact Bool.beq_comm
theorem index_at (x r : List UInt8) (hx : ∀ c ∈ x, c ≠ 32) : Lib.index (x ++ 32 :: r) [32] = x.length := by
  refine Lib.index_first (by simp) ?_ (fun j hj => ?_)
  · rw [occ32 _ _ (by simp)]; simp
  · rw [occ32 _ _ (by simp; omega), List.getElem_append_left hj]
    simpa using hx _ (List.getElem_mem hj)
theorem index_no (x : List UInt8) (hx : ∀ c ∈ x, c ≠ 32) : Lib.index x [32] = -1 := by
  refine Lib.index_none (fun j hj => ?_)
  rcases Nat.lt_or_ge j x.length with h | h
  · rw [occ32 _ _ h]; simpa using hx _ (List.getElem_mem h)
  · unfold Lib.occAt; rw [List.drop_eq_nil_of_le h]; rfl
theorem splitK_hit (k : Nat) (x r : List UInt8) (hx : ∀ c ∈ x, c ≠ 32) : Lib.splitK [32] 0 (k + 1) (x ++ 32 :: r) = x :: Lib.splitK [32] 0 k r := by
  rw [Lib.splitK, index_at x r hx, if_neg (by simp)]
  rw [show ((x.length : Int).toNat + 0) = x.length by simp, show ((x.length : Int).toNat + ([32] : List UInt8).length) = x.length + 1 by simp]
  rw [List.take_left', List.drop_append, List.drop_eq_nil_of_le (by omega)]
  · simp
  · rfl
theorem splitK_last (k : Nat) (x : List UInt8) (hx : ∀ c ∈ x, c ≠ 32) : Lib.splitK [32] 0 k x = [x] := by
  cases k with
  | zero => rfl
  | succ k => rw [Lib.splitK, index_no x hx]; rfl
/-- A byte that can stand in a word: no control byte, no space. -/
abbrev NoSp (x : List UInt8) : Prop := ∀ c ∈ x, 33 ≤ c.toNat ∧ c.toNat ≤ 126
theorem NoSp.ne {x : List UInt8} (h : NoSp x) : ∀ c ∈ x, c ≠ 32 := fun c hc e => by have := h c hc; rw [e] at this; revert this; decide
theorem NoSp.nl {x : List UInt8} (h : NoSp x) : ∀ c ∈ x, c ≠ 10 := fun c hc e => by have := h c hc; rw [e] at this; revert this; decide
theorem whoF_all : ∀ {l : List UInt8}, whoF l = true → NoSp l
  | [], _ => by simp [NoSp]
  | c :: r, h => by
    rw [whoF] at h
    simp only [Bool.and_eq_true, decide_eq_true_eq] at h
    intro x hx
    rcases List.mem_cons.1 hx with rfl | hx
    · exact h.1
    · exact whoF_all h.2 x hx
theorem wordM_sp (k : Int) : NoSp (wordM k) := by
  unfold wordM NoSp; split <;> (try split) <;> decide
theorem dig_sp (n : Nat) : NoSp (Lib.decDigits n) := by
  induction n using Nat.strongRecOn with
  | _ n ih =>
    rw [Lib.decDigits]
    split
    · intro c hc
      simp only [List.mem_singleton] at hc
      subst hc; rw [UInt8.toNat_ofNat']; omega
    · intro c hc
      rcases List.mem_append.1 hc with hc | hc
      · exact ih (n / 10) (by omega) c hc
      · simp only [List.mem_singleton] at hc
        subst hc; rw [UInt8.toNat_ofNat']; omega
theorem dig_digit (n : Nat) : ∀ c ∈ Lib.decDigits n, 48 ≤ c.toNat ∧ c.toNat ≤ 57 := by
  induction n using Nat.strongRecOn with
  | _ n ih =>
    rw [Lib.decDigits]
    split
    · intro c hc
      simp only [List.mem_singleton] at hc
      subst hc; rw [UInt8.toNat_ofNat']; omega
    · intro c hc
      rcases List.mem_append.1 hc with hc | hc
      · exact ih (n / 10) (by omega) c hc
      · simp only [List.mem_singleton] at hc
        subst hc; rw [UInt8.toNat_ofNat']; omega
/-- The number that digits spell. -/
def valF : List UInt8 → Nat → Nat
  | [], a => a
  | c :: r, a => valF r (a * 10 + (c.toNat - 48))
theorem valF_app : ∀ (a b : List UInt8) (n : Nat), valF (a ++ b) n = valF b (valF a n)
  | [], b, n => rfl
  | c :: r, b, n => by rw [List.cons_append, valF, valF, valF_app r b]
theorem valF_dec (n : Nat) : valF (Lib.decDigits n) 0 = n := by
  induction n using Nat.strongRecOn with
  | _ n ih =>
    rw [Lib.decDigits]
    split
    · show 0 * 10 + _ = n; rw [UInt8.toNat_ofNat']; omega
    · rw [valF_app, ih (n / 10) (by omega)]
      show n / 10 * 10 + _ = n; rw [UInt8.toNat_ofNat']; omega
theorem decFrom_val : ∀ (l : List UInt8) (a : Nat), (∀ c ∈ l, 48 ≤ c.toNat ∧ c.toNat ≤ 57) → Lib.decFrom a l = some (valF l a)
  | [], a, _ => rfl
  | c :: r, a, h => by
    have hc := h c (by simp)
    rw [Lib.decFrom, show Lib.digitVal c = some (c.toNat - 48) from if_pos hc]
    exact decFrom_val r _ (fun x hx => h x (by simp [hx]))
theorem dec_ne (n : Nat) : Lib.decDigits n ≠ [] := by
  rw [Lib.decDigits]; split <;> simp
theorem atoi_dec (n : Nat) : Lib.atoi (Lib.decDigits n) = some (n : Int) := by
  have h1 := dig_digit n
  have h2 := dec_ne n
  have h3 := decFrom_val (Lib.decDigits n) 0 h1
  rw [valF_dec] at h3
  cases hd : Lib.decDigits n with
  | nil => exact absurd hd h2
  | cons b r =>
    have hb := h1 b (by rw [hd]; simp)
    rw [hd] at h3
    rw [Lib.atoi, if_neg (by simp; rintro rfl; revert hb; decide), if_neg (by simp; rintro rfl; revert hb; decide)]
    rw [Lib.decNat, if_neg (by simp), h3]; rfl
theorem dec_len (n k : Nat) (h : n < 10 ^ (k + 1)) : (Lib.decDigits n).length ≤ k + 1 := by
  induction k generalizing n with
  | zero => rw [Lib.decDigits, dif_pos (by simpa using h)]; simp
  | succ k ih =>
    rw [Lib.decDigits]
    split
    · simp
    · rw [List.length_append]
      have := ih (n / 10) (by rw [Nat.pow_succ] at h; omega)
      simp; omega
theorem escE_nl (c x : UInt8) (hx : x ∈ escE c) : x ≠ 10 := by
  have h0 : ∀ n : Fin 256, ∀ x ∈ escE (UInt8.ofNat n.val), x ≠ 10 := by decide +kernel
  have := h0 ⟨c.toNat, c.toNat_lt⟩ x
  simp only [UInt8.ofNat_toNat] at this
  exact this hx
theorem encF_all {f : UInt8 → List UInt8} {p : UInt8 → Prop} (h : ∀ c x, x ∈ f c → p x) : ∀ (l : List UInt8) (x : UInt8), x ∈ encF f l → p x
  | [], x, hx => by simp [encF] at hx
  | c :: r, x, hx => by
    rw [encF] at hx
    rcases List.mem_append.1 hx with hx | hx
    · exact h c x hx
    · exact encF_all h r x hx
theorem lineM_nl (m : Ms) (hw : NoSp m.who) : ∀ c ∈ lineM m, c ≠ 10 := by
  intro c hc
  unfold lineM at hc
  rcases List.mem_append.1 hc with hc | hc
  · exact (wordM_sp _).nl c hc
  rcases List.mem_cons.1 hc with rfl | hc
  · decide
  rcases List.mem_append.1 hc with hc | hc
  · exact (dig_sp _).nl c hc
  rcases List.mem_cons.1 hc with rfl | hc
  · decide
  rcases List.mem_append.1 hc with hc | hc
  · exact (dig_sp _).nl c hc
  rcases List.mem_cons.1 hc with rfl | hc
  · decide
  rcases List.mem_append.1 hc with hc | hc
  · exact hw.nl c hc
  · unfold tailM at hc
    split at hc
    · simp at hc
    · rcases List.mem_cons.1 hc with rfl | hc
      · decide
      · exact encF_all escE_nl _ c hc
/-- The words of a line. -/
theorem words_line (m : Ms) (hw : NoSp m.who) : Lib.splitK [32] 0 4 (lineM m) = [wordM m.kind, numL m.id, numL m.time, m.who] ++ (if m.kind = 3 then [] else [encF escE m.text]) := by
  unfold lineM
  rw [splitK_hit 3 _ _ (wordM_sp _).ne, splitK_hit 2 (numL m.id) _ (dig_sp _).ne, splitK_hit 1 (numL m.time) _ (dig_sp _).ne]
  unfold tailM
  by_cases h : m.kind = 3
  · rw [if_pos h, if_pos h, List.append_nil, splitK_last 1 _ hw.ne]; rfl
  · rw [if_neg h, if_neg h, splitK_hit 0 _ _ hw.ne]; rfl
/-- The reference's cutting: k words, and what is left. -/
def cutW : Nat → List UInt8 → List UInt8 → List (List UInt8) × List UInt8
  | 0, _, s => ([], s)
  | _ + 1, a, [] => ([a], [])
  | k + 1, a, c :: r => if c = 32 then (a :: (cutW k [] r).1, (cutW k [] r).2) else cutW (k + 1) (a ++ [c]) r
theorem cutW_hit (k : Nat) : ∀ (x a r : List UInt8), (∀ c ∈ x, c ≠ 32) → cutW (k + 1) a (x ++ 32 :: r) = ((a ++ x) :: (cutW k [] r).1, (cutW k [] r).2)
  | [], a, r, _ => by rw [List.nil_append, cutW, if_pos rfl, List.append_nil]
  | c :: x, a, r, h => by
    rw [List.cons_append, cutW, if_neg (h c (by simp)), cutW_hit k x _ r (fun d hd => h d (by simp [hd]))]
    simp
theorem cutW_last (k : Nat) : ∀ (x a : List UInt8), (∀ c ∈ x, c ≠ 32) → cutW (k + 1) a x = ([a ++ x], [])
  | [], a, _ => by rw [cutW, List.append_nil]
  | c :: x, a, h => by
    rw [cutW, if_neg (h c (by simp)), cutW_last k x _ (fun d hd => h d (by simp [hd]))]
    simp
theorem cutW_line (m : Ms) (hw : NoSp m.who) : cutW 4 [] (lineM m) = ([wordM m.kind, numL m.id, numL m.time, m.who], if m.kind = 3 then [] else encF escE m.text) := by
  unfold lineM
  rw [cutW_hit 3 _ _ _ (wordM_sp _).ne, cutW_hit 2 (numL m.id) _ _ (dig_sp _).ne, cutW_hit 1 (numL m.time) _ _ (dig_sp _).ne]
  unfold tailM
  by_cases h : m.kind = 3
  · rw [if_pos h, if_pos h, List.append_nil, cutW_last 0 _ _ hw.ne]; simp only [List.nil_append]
  · rw [if_neg h, if_neg h, cutW_hit 0 _ _ _ hw.ne]; simp only [cutW, List.nil_append]
theorem wrongM_no {m : Ms} (h : wrongM m = false) : 1 ≤ m.kind ∧ m.kind ≤ 3 ∧ 1 ≤ m.id ∧ m.id ≤ 1073741824 ∧ NoSp m.who ∧ 1 ≤ m.who.length ∧ m.who.length ≤ 40 ∧ (m.kind = 3 → m.text = []) := by
  unfold wrongM at h
  simp only [Bool.or_eq_false_iff, decide_eq_false_iff_not, Bool.and_eq_false_iff, Bool.not_eq_false', beq_eq_false_iff_ne] at h
  obtain ⟨h1, h2, h3, h4, h5, h6⟩ := h
  unfold whoOK at h5
  simp only [Bool.and_eq_true, decide_eq_true_eq] at h5
  refine ⟨by omega, by omega, by omega, by omega, whoF_all h5.1, h5.2.1, h5.2.2, fun e => ?_⟩
  rcases h6 with h6 | h6
  · exact absurd e h6
  · simpa using h6
theorem lateM_no {m : Ms} (h : lateM m = false) : 0 ≤ m.time ∧ m.time ≤ 1099511627776 := by
  unfold lateM at h
  simp only [Bool.or_eq_false_iff, decide_eq_false_iff_not] at h
  omega
/-- Text lines: each with its line end, the last one may lack it. -/
def linesF : List UInt8 → List UInt8 → List (List UInt8)
  | [], a => if a = [] then [] else [a]
  | c :: r, a => if c = 10 then (a ++ [10]) :: linesF r [] else linesF r (a ++ [c])
theorem linesF_hit : ∀ (x a r : List UInt8), (∀ c ∈ x, c ≠ 10) → linesF (x ++ 10 :: r) a = (a ++ x ++ [10]) :: linesF r []
  | [], a, r, _ => by rw [List.nil_append, linesF, if_pos rfl, List.append_nil]
  | c :: x, a, r, h => by
    rw [List.cons_append, linesF, if_neg (h c (by simp)), linesF_hit x _ r (fun d hd => h d (by simp [hd]))]
    simp
theorem lines_fmt : ∀ (l : List Ms), (∀ m ∈ l, NoSp m.who) → linesF (fmtM l) [] = l.map fun m => lineM m ++ [10]
  | [], _ => rfl
  | m :: r, h => by
    rw [fmtM, linesF_hit _ _ _ (lineM_nl m (h m (by simp))), lines_fmt r (fun x hx => h x (by simp [hx]))]; rfl
end Go.Proofs.YthmpcdjhighhgaaGreatDoor
namespace Go.Proofs.YthmpcdjhighhgaaGreatDoor
set_option linter.unusedVariables false
set_option linter.unusedSimpArgs false
set_option maxRecDepth 100000
open Go.RowKit
def valG : List UInt8 → Nat → Option Nat
  | [], n => some n
  | c :: r, n => if 48 ≤ c.toNat ∧ c.toNat ≤ 57 then valG r (n * 10 + (c.toNat - 48)) else none
def valR (l : List UInt8) : Option Nat := if l.length = 0 ∨ 18 < l.length then none else valG l 0
def valV : Option Nat → Value
  | some n => .tuple #[.int .i64 (n : Int), .bool true]
  | none => .tuple #[.int .i64 0, .bool false]
theorem valG_dig : ∀ (l : List UInt8) (n : Nat), (∀ c ∈ l, 48 ≤ c.toNat ∧ c.toNat ≤ 57) → valG l n = some (valF l n) := by
  intro l
  induction l with
  | nil => intro n _; rfl
  | cons c r ih =>
    intro n h
    rw [valG, if_pos (h c (by simp)), ih _ (fun x hx => h x (by simp [hx])), valF]
theorem valR_dec (n : Nat) (h : n < 10 ^ 18) : valR (Lib.decDigits n) = some n := by
  have h1 : (Lib.decDigits n).length ≤ 18 := dec_len n 17 (by omega)
  have h2 : (Lib.decDigits n).length ≠ 0 := by intro e; exact dec_ne n (List.length_eq_zero_iff.1 e)
  rw [valR, if_neg (by omega), valG_dig _ _ (dig_digit n), valF_dec]
theorem valG_drop (s : ByteArray) (k : Nat) (h : k < s.size) (u : UInt8) (hu : u = s[k]) (n : Nat) : valG ((bl s).drop k) n = if 48 ≤ u.toNat ∧ u.toNat ≤ 57 then valG ((bl s).drop (k + 1)) (n * 10 + (u.toNat - 48)) else none := by
  have hk : k < (bl s).length := by rw [size_list]; exact h
  rw [List.drop_eq_getElem_cons hk, valG]
  subst hu
  rfl
theorem ret_val {a b : Option Nat} (h : a = b) : Ending.returned (valV a) = .returned (valV b) := by rw [h]
end Go.Proofs.YthmpcdjhighhgaaGreatDoor
namespace Go.Proofs.YthmpcdjhighhgaaGreatDoor
set_option linter.unusedVariables false
set_option linter.unusedSimpArgs false
set_option maxRecDepth 100000
open Go.RowKit
def kindW (a : List UInt8) : Int := if a = wordM 3 then 3 else if a = wordM 2 then 2 else if a = wordM 1 then 1 else 0
/-- What 'line' of the reference reads: the message, and whether it is one. -/
def lineR (s : List UInt8) : Option Ms :=
  match cutW 4 [] s with
  | ([a, b, c, d], r) =>
    match valR b, valR c, decEsc r [] with
    | some i, some t, some x => if kindW a = 0 then none else some ⟨kindW a, (i : Int), d, (t : Int), x⟩
    | _, _, _ => none
  | _ => none
theorem kindW_word {k : Int} (h1 : 1 ≤ k) (h3 : k ≤ 3) : kindW (wordM k) = k := by
  have h : k = 1 ∨ k = 2 ∨ k = 3 := by omega
  rcases h with rfl | rfl | rfl <;> decide
theorem lineR_line (m : Ms) (hw : wrongM m = false) (hl : lateM m = false) : lineR (lineM m) = some m := by
  obtain ⟨k1, k3, i1, i2, hn, -, -, hx⟩ := wrongM_no hw
  obtain ⟨t1, t2⟩ := lateM_no hl
  have hid : valR (numL m.id) = some m.id.toNat := valR_dec _ (by omega)
  have htm : valR (numL m.time) = some m.time.toNat := valR_dec _ (by omega)
  have hE : decEsc (if m.kind = 3 then [] else encF escE m.text) [] = some m.text := by
    split
    · next h => rw [hx h]; rfl
    · rw [back_esc]; rfl
  unfold lineR
  rw [cutW_line m hn]
  simp only [hid, htm, hE, kindW_word k1 k3]
  rw [if_neg (by omega), Int.toNat_of_nonneg (by omega), Int.toNat_of_nonneg t1]
theorem cutW_len : ∀ (s : List UInt8) (k : Nat) (a : List UInt8), (cutW k a s).1.length ≤ k
  | s, 0, a => by cases s <;> simp [cutW]
  | [], k + 1, a => by simp [cutW]
  | c :: r, k + 1, a => by
    rw [cutW]
    split
    · have := cutW_len r k []
      simp; omega
    · exact cutW_len r (k + 1) (a ++ [c])
end Go.Proofs.YthmpcdjhighhgaaGreatDoor
