/- What is read out of bytes: the plain law. · What the code reads out of bytes: the plain law. · The library's contracts as the walks of messages want them: Itoa, Atoi, Join, SplitN, TrimSuffix, a bytes.Buffer. Conditions: the variables read as laid. · strings.Lines as it is ranged over. · Messages in memory; walks of what asks one message. · The walk of what is posted, edited and deleted. -/
import Derived.Test.YthmpcdjhighhgaaGreatDoorY16
import Derived.Test.YthmpcdjhighhgaaGreatDoorY01
import Derived.Lib.AtoiAll
import Derived.Lib.AtoiTie
import Derived.Lib.Buffer
import Derived.Lib.Join
import Derived.Test.YthmpcdjhighhgaaGreatDoorY04
import Derived.Test.YthmpcdjhighhgaaGreatDoorY06
import Derived.Test.YthmpcdjhighhgaaGreatDoorY05
import Derived.Test.YthmpcdjhighhgaaGreatDoorY03
import Derived.Test.YthmpcdjhighhgaaGreatDoorY02
namespace Go.Proofs.YthmpcdjhighhgaaGreatDoor
set_option linter.unusedVariables false
set_option linter.unusedSimpArgs false
set_option maxRecDepth 100000
open Go.RowKit
theorem who_sp {l : List Ms} (h : errM l = 0) : ∀ m ∈ l, NoSp m.who := fun m hm => (wrongM_no ((errM_ok.1 h).2.2.1 m hm)).2.2.2.2.1
theorem map_line_inj : ∀ (a b : List Ms), (∀ m ∈ a, wrongM m = false ∧ lateM m = false) → (∀ m ∈ b, wrongM m = false ∧ lateM m = false) → (a.map fun m => lineM m ++ [10]) = (b.map fun m => lineM m ++ [10]) → a = b
  | [], [], _, _, _ => rfl
  | [], _ :: _, _, _, h => by simp at h
  | _ :: _, [], _, _, h => by simp at h
  | x :: a, y :: b, ha, hb, h => by
    simp only [List.map_cons, List.cons.injEq] at h
    have h1 : lineM x = lineM y := List.append_cancel_right h.1
    have hx := ha x (by simp); have hy := hb y (by simp)
    have h2 := lineR_line x hx.1 hx.2
    rw [h1, lineR_line y hy.1 hy.2] at h2
    rw [Option.some.inj h2, map_line_inj a b (fun m hm => ha m (by simp [hm])) (fun m hm => hb m (by simp [hm])) h.2]
/-- Two lists of messages of the same lines are one. -/
theorem fmtM_inj {a b : List Ms} (ha : errM a = 0) (hb : errM b = 0) (h : fmtM a = fmtM b) : a = b := by
  have h1 := lines_fmt a (who_sp ha)
  rw [h, lines_fmt b (who_sp hb)] at h1
  have pa := errM_ok.1 ha; have pb := errM_ok.1 hb
  exact map_line_inj a b (fun m hm => ⟨pa.2.2.1 m hm, pa.2.2.2.1 m hm⟩) (fun m hm => ⟨pb.2.2.1 m hm, pb.2.2.2.1 m hm⟩) h1.symm
/-- The reference's reading, line by line, until the bytes end or there are too many. -/
def readF : List UInt8 → List UInt8 → List Ms → Option (List Ms)
  | [], _, out => some out
  | c :: r, cur, out =>
    if 300 < out.length then some out else if c = 10 then (match lineR cur with | none => none | some m => readF r [] (out ++ [m])) else readF r (cur ++ [c]) out
theorem readF_line : ∀ (x r cur : List UInt8) (out : List Ms), (∀ c ∈ x, c ≠ 10) → out.length ≤ 300 → ∀ m, lineR (cur ++ x) = some m → readF (x ++ 10 :: r) cur out = readF r [] (out ++ [m])
  | [], r, cur, out, _, ho, m, hm => by
    rw [List.append_nil] at hm
    rw [List.nil_append, readF, if_neg (by omega), if_pos rfl, hm]
  | c :: x, r, cur, out, hx, ho, m, hm => by
    rw [List.cons_append, readF, if_neg (by omega), if_neg (hx c (by simp))]
    exact readF_line x r (cur ++ [c]) out (fun d hd => hx d (by simp [hd])) ho m (by simpa using hm)
theorem readF_fmt : ∀ (l out : List Ms), (∀ m ∈ l, wrongM m = false ∧ lateM m = false) → out.length + l.length ≤ 300 → readF (fmtM l) [] out = some (out ++ l)
  | [], out, _, _ => by rw [fmtM, readF, List.append_nil]
  | m :: l, out, h, hn => by
    have hm := h m (by simp)
    simp only [List.length_cons] at hn
    rw [fmtM, readF_line (lineM m) _ [] out (lineM_nl m (wrongM_no hm.1).2.2.2.2.1) (by omega) m (by rw [List.nil_append]; exact lineR_line m hm.1 hm.2)]
    rw [readF_fmt l _ (fun x hx => h x (by simp [hx])) (by simp; omega)]
    simp
theorem readF_parse {l : List Ms} (h : errM l = 0) : readF (fmtM l) [] [] = some l := by
  have p := errM_ok.1 h
  exact readF_fmt l [] (fun m hm => ⟨p.2.2.1 m hm, p.2.2.2.1 m hm⟩) (by simp; exact p.1)
end Go.Proofs.YthmpcdjhighhgaaGreatDoor
namespace Go.Proofs.YthmpcdjhighhgaaGreatDoor
set_option linter.unusedVariables false
set_option linter.unusedSimpArgs false
set_option maxRecDepth 100000
open Go.RowKit
/-- A line without its end. -/
def chopN (l : List UInt8) : List UInt8 := if l.getLast? = some 10 then l.dropLast else l
theorem chopN_line (x : List UInt8) : chopN (x ++ [10]) = x := by unfold chopN; simp
/-- The number that a word is. -/
def atoiF (l : List UInt8) : Option Int := match Lib.atoiAll l with | .ok v => some v | _ => none
/-- The text that a word is; a word that is too long is none. -/
def textF (l : List UInt8) : Option (List UInt8) := if 262144 < l.length then none else decEsc l []
/-- What the code's 'read' makes of the words of a line. -/
def lineW : List (List UInt8) → Option Ms
  | [a, b, c, d] =>
    match atoiF b, atoiF c with
    | some i, some t => some ⟨kindW a, i, d, t, []⟩
    | _, _ => none
  | [a, b, c, d, e] =>
    match atoiF b, atoiF c, textF e with
    | some i, some t, some x => some ⟨kindW a, i, d, t, x⟩
    | _, _, _ => none
  | _ => none
/-- What the code's 'read' reads, the line's end taken off. -/
def lineC (s : List UInt8) : Option Ms := lineW (Lib.splitN s [32] 5)
theorem lineW_short : ∀ {ws : List (List UInt8)}, ws.length < 4 → lineW ws = none
  | [], _ => rfl
  | [_], _ => rfl
  | [_, _], _ => rfl
  | [_, _, _], _ => rfl
  | _ :: _ :: _ :: _ :: _, h => by simp at h; omega
theorem encEsc_len : ∀ l : List UInt8, (encF escE l).length ≤ 4 * l.length
  | [] => by simp [encF]
  | c :: r => by
    have h := encEsc_len r
    have h2 : (escE c).length ≤ 4 := by
      unfold escE
      split
      · simp
      · split
        · simp
        · split
          · simp
          · split
            · simp
            · split <;> simp
    rw [encF, List.length_append, List.length_cons]; omega
theorem atoiF_num (n : Int) (h0 : 0 ≤ n) (h : n < 1000000000000000000) : atoiF (numL n) = some n := by
  unfold atoiF numL
  have hl : (Lib.decDigits n.toNat).length ≤ 18 := dec_len n.toNat 17 (by omega)
  rw [Lib.atoiAll_short _ hl, atoi_dec, Int.toNat_of_nonneg h0]; rfl
theorem lineC_line (m : Ms) (hw : wrongM m = false) (hl : lateM m = false) (ht : m.text.length ≤ 65536) : lineC (lineM m) = some m := by
  obtain ⟨k1, k3, i1, i2, hn, -, -, hx⟩ := wrongM_no hw
  obtain ⟨t1, t2⟩ := lateM_no hl
  have hid : atoiF (numL m.id) = some m.id := atoiF_num _ (by omega) (by omega)
  have htm : atoiF (numL m.time) = some m.time := atoiF_num _ t1 (by omega)
  have hlen : 4 ≤ (lineM m).length := by
    unfold lineM wordM
    split
    · simp
    · split <;> simp
  unfold lineC Lib.splitN
  rw [show min 5 ((lineM m).length + 1) - 1 = 4 by omega, words_line m hn]
  by_cases h : m.kind = 3
  · rw [if_pos h]
    simp only [lineW, List.append_nil, hid, htm, kindW_word k1 k3]
    have h2 := hx h
    rcases m with ⟨a, b, c, d, e⟩
    simp only at h2
    subst h2
    rfl
  · rw [if_neg h]
    have hE : textF (encF escE m.text) = some m.text := by
      unfold textF; rw [if_neg (by have := encEsc_len m.text; omega), back_esc]; rfl
    simp only [lineW, List.cons_append, List.nil_append, hid, htm, kindW_word k1 k3, hE]
/-- The code's reading. -/
def readG : List (List UInt8) → List Ms → Option (List Ms)
  | [], out => some out
  | x :: r, out => match lineC (chopN x) with | none => none | some m => if out.length = 300 then none else readG r (out ++ [m])
theorem sizeF_mem {l : List Ms} {m : Ms} (h : m ∈ l) : m.text.length ≤ sizeF l := by
  induction l with
  | nil => cases h
  | cons a r ih =>
    rw [sizeF]
    rcases List.mem_cons.1 h with rfl | h
    · omega
    · have := ih h; omega
theorem readG_fmt : ∀ (l out : List Ms), (∀ m ∈ l, wrongM m = false ∧ lateM m = false ∧ m.text.length ≤ 65536) → out.length + l.length ≤ 300 → readG (l.map fun m => lineM m ++ [10]) out = some (out ++ l)
  | [], out, _, _ => by rw [List.map_nil, readG, List.append_nil]
  | m :: l, out, h, hn => by
    have hm := h m (by simp)
    simp only [List.length_cons] at hn
    rw [List.map_cons, readG, chopN_line, lineC_line m hm.1 hm.2.1 hm.2.2]
    simp only
    rw [if_neg (by omega), readG_fmt l _ (fun x hx => h x (by simp [hx])) (by simp; omega)]
    simp
theorem readG_parse {l : List Ms} (h : errM l = 0) : readG (linesF (fmtM l) []) [] = some l := by
  have p := errM_ok.1 h
  rw [lines_fmt l (who_sp h)]
  exact readG_fmt l [] (fun m hm => ⟨p.2.2.1 m hm, p.2.2.2.1 m hm, by have := sizeF_mem hm; omega⟩) (by simp; exact p.1)
/-- The messages whose lines the bytes are. -/
def parseM (b : List UInt8) : Option (List Ms) := match readG (linesF b []) [] with | some l => if errM l = 0 ∧ fmtM l = b then some l else none | none => none
theorem parseM_some {b : List UInt8} {l : List Ms} : parseM b = some l ↔ errM l = 0 ∧ fmtM l = b := by
  unfold parseM
  constructor
  · intro h
    split at h
    · split at h
      · next hc => rw [← Option.some.inj h]; exact hc
      · cases h
    · cases h
  · rintro ⟨h1, h2⟩
    have h3 := readG_parse h1
    rw [h2] at h3
    rw [h3]
    simp only
    rw [if_pos ⟨h1, h2⟩]
theorem parseM_fmt {l : List Ms} (h : errM l = 0) : parseM (fmtM l) = some l := parseM_some.2 ⟨h, rfl⟩
theorem parseM_none {b : List UInt8} (h : ∀ l, errM l = 0 → fmtM l = b → False) : parseM b = none := by
  cases hp : parseM b with
  | none => rfl
  | some l => have := parseM_some.1 hp; exact (h l this.1 this.2).elim
theorem parse_bad {b : List UInt8} (h : readF b [] [] = none) : parseM b = none := parseM_none fun l h1 h2 => by
  rw [← h2, readF_parse h1] at h; cases h
theorem parse_good {b : List UInt8} {l : List Ms} (h1 : errM l = 0) (h2 : fmtM l = b) : parseM b = some l := parseM_some.2 ⟨h1, h2⟩
theorem parse_odd {b : List UInt8} {l : List Ms} (h : readF b [] [] = some l) (hn : ¬ (errM l = 0 ∧ fmtM l = b)) : parseM b = none := parseM_none fun l' h1 h2 => by
  rw [← h2, readF_parse h1] at h
  obtain rfl := Option.some.inj h
  exact hn ⟨h1, h2⟩
theorem parseC_bad {b : List UInt8} (h : readG (linesF b []) [] = none) : parseM b = none := parseM_none fun l h1 h2 => by
  rw [← h2, readG_parse h1] at h; cases h
theorem parseC_odd {b : List UInt8} {l : List Ms} (h : readG (linesF b []) [] = some l) (hn : ¬ (errM l = 0 ∧ fmtM l = b)) : parseM b = none := parseM_none fun l' h1 h2 => by
  rw [← h2, readG_parse h1] at h
  obtain rfl := Option.some.inj h
  exact hn ⟨h1, h2⟩
end Go.Proofs.YthmpcdjhighhgaaGreatDoor
namespace Go.Proofs.YthmpcdjhighhgaaGreatDoor
set_option linter.unusedVariables false
set_option linter.unusedSimpArgs false
set_option maxRecDepth 100000
open Go.RowKit
theorem bs_data (l : List UInt8) : (bs l).data.toList = l := by simp [bs]
theorem bs_arr (l : List UInt8) : (⟨l.toArray⟩ : ByteArray) = bs l := rfl
theorem below_sgrow (w : World) (q : Nat) (os : Array Obj) : Below w.heap.size w (Sort.grow (w.drewN q) os) := by
  refine ⟨rfl, rfl, rfl, ?_, fun k hk => ?_⟩
  · show _ ≤ (w.heap ++ os).size; rw [Array.size_append]; omega
  · show (w.heap ++ os)[k]? = _; rw [Array.getElem?_append_left hk]
theorem itoa_any (n : Nat) (hn : n < 4611686018427387904) (w : World) (hv : VrOK w) : Calls Tryz.prog 27 #[.int .i64 (n : Int)] w fun e w' => e = .returned (.string (bs (Lib.decDigits n))) ∧ Below w.heap.size w w' := by
  refine (Tryz.strconv_Itoa (n : Int) (by omega) (by omega) w hv.tab).mono ?_
  rintro e w' ⟨rfl, k, os, rfl⟩
  refine ⟨?_, below_sgrow _ _ _⟩
  rw [bs_arr, Lib.itoa, if_neg (by omega), Int.toNat_natCast]
/-- Words with spaces between. -/
def joinW (ws : List (List UInt8)) : List UInt8 := Lib.join ws [32]
theorem map_bs (ws : List (List UInt8)) : (ws.map bs).map (·.data.toList) = ws := by
  rw [List.map_map]
  conv => rhs; rw [← List.map_id ws]
  exact List.map_congr_left fun l _ => bs_data l
theorem join_any (g c n : Nat) (ws : List (List UInt8)) (w : World) (hn : n = ws.length) (hcells : ∀ j (h : j < ws.length), w.cell? ⟨g, j, none⟩ = some (.string (bs ws[j]))) (hg : g < w.heap.size) (hc : n ≤ c) (h100 : n ≤ 100) (hlen : (joinW ws).length ≤ 1000000000) :
    Calls Tryz.prog 76 #[.slice (some ⟨g, 0, none⟩) n c, .string ⟨#[32]⟩] w fun e w' => e = .returned (.string (bs (joinW ws))) ∧ Below w.heap.size w w' := by
  subst hn
  have h := Tryz.strings_Join g 0 c (ws.map bs) ⟨#[32]⟩ w (fun j x hx => by
    rw [List.getElem?_map] at hx
    obtain ⟨y, hy, rfl⟩ := Option.map_eq_some_iff.1 hx
    obtain ⟨hj, rfl⟩ := List.getElem?_eq_some_iff.1 hy
    rw [Nat.zero_add]; exact hcells j hj) hg (by rw [List.length_map]; omega) (by rw [List.length_map]; exact hc) (by rw [map_bs]; show (joinW ws).length ≤ _; omega)
  rw [List.length_map, map_bs] at h
  exact h
/-- A buffer that a call has made, with its bytes. -/
def BufC (B b : Nat) (l : List UInt8) (w : World) : Prop := Lib.IsBuffer 157 5 B b (Lib.byteCells l) w ∧ B ≤ w.heap.size
theorem BufC.fresh (w : World) : BufC w.heap.size w.heap.size [] (w.alloc (.cells #[.slice none 0 0, .int .i64 0, .int .i8 0] 157)) := ⟨Lib.fresh_isBuffer _ _ w, by simp⟩
theorem BufC.below {B b : Nat} {l : List UInt8} {w w' : World} (h : BufC B b l w) (hb : Below w.heap.size w w') : BufC B b l w' := by
  obtain ⟨⟨h0, v, lr, h1, h2, h3⟩, h4⟩ := h
  refine ⟨⟨h0, v, lr, (hb.block b (Array.getElem?_eq_some_iff.1 h1).1).trans h1, ?_, h3⟩, Nat.le_trans h4 hb.size⟩
  refine ⟨h2.1, ?_⟩
  rcases h2.2 with q | ⟨g, cap, cur, q1, q2, q3, rest⟩
  · exact .inl q
  · exact .inr ⟨g, cap, cur, q1, q2, (hb.block g (Array.getElem?_eq_some_iff.1 q3).1).trans q3, rest⟩
theorem byteCells_app (l s : List UInt8) : Lib.byteCells l ++ Lib.byteCells s = Lib.byteCells (l ++ s) := by simp [Lib.byteCells]
theorem bufw_any (B b : Nat) (l s : List UInt8) (w : World) (h : BufC B b l w) (hl : l.length + s.length ≤ 1000000000) :
    Calls Tryz.prog 90 #[.pointer (some ⟨b, 0, none⟩), .string (bs s)] w fun e w' => (∃ n : Int, e = .returned (.tuple #[.int .i64 n, .nilIface])) ∧ BufC B b (l ++ s) w' ∧ Below B w w' := by
  refine (Tryz.Buffer_WriteString_k B b (Lib.byteCells l) (bs s) w h.1 h.2 (fun v hv => by
    unfold Lib.byteCells at hv; obtain ⟨c, -, rfl⟩ := List.mem_map.1 hv; rfl) (by rw [Lib.byteCells_length, size_bs]; omega)).mono ?_
  rintro e w' ⟨rfl, h1, h2, -⟩
  rw [bs_data, byteCells_app] at h1
  exact ⟨⟨_, rfl⟩, ⟨h1, Nat.le_trans h.2 h2.size⟩, h2⟩
theorem bufb_any (B b : Nat) (l : List UInt8) (w : World) (h : BufC B b l w) :
    Calls Tryz.prog 91 #[.pointer (some ⟨b, 0, none⟩)] w fun e w' => ∃ v, e = .returned v ∧ OB 5 B v l w' ∧ Below w.heap.size w w' := by
  refine (Tryz.Buffer_Bytes B b (Lib.byteCells l) w h.1).mono ?_
  rintro e w' ⟨v, rfl, hv, n, rfl⟩
  rw [Lib.byteCells_length] at hv
  exact ⟨v, rfl, hv, ⟨rfl, rfl, rfl, Nat.le_refl _, fun _ _ => rfl⟩⟩
theorem bytesWorld_below (w : World) (e : TypeId) (t : ByteArray) : Below w.heap.size w (Lib.bytesWorld w e t) := bw_below w e t
theorem bl_data (s : ByteArray) : s.data.toList = bl s := rfl
/-- strconv.Atoi at any text: the number and no error; or an error. -/
theorem atoi_any (s : ByteArray) (w : World) (hv : VrOK w) (hs : s.size ≤ 1000000000) :
    Calls Tryz.prog 81 #[.string s] w fun e w' => (∃ (v : Int) (x : Value), e = .returned (.tuple #[.int .i64 v, x]) ∧ ((x = .nilIface ∧ atoiF (bl s) = some v) ∨ ((∃ t p, x = .iface t (.pointer p)) ∧ atoiF (bl s) = none))) ∧ Below w.heap.size w w' := by
  cases h : Lib.atoiAll s.data.toList with
  | ok v =>
    refine (Tryz.strconv_Atoi_ok s (by omega) v h w).mono ?_
    rintro e w' ⟨rfl, hw⟩
    refine ⟨⟨_, _, rfl, .inl ⟨rfl, by unfold atoiF; rw [← bl_data, h]⟩⟩, ?_⟩
    rcases hw with rfl | ⟨t, rfl⟩
    · exact Below.refl _ _
    · exact bytesWorld_below _ _ _
  | «syntax» =>
    obtain ⟨tp, p, hx⟩ := hv.syn
    refine (Tryz.strconv_Atoi_syntax_var s (by omega) h tp p w hx).mono ?_
    rintro e w' ⟨N, rfl, -, -, hb⟩
    exact ⟨⟨_, _, rfl, .inr ⟨⟨_, _, rfl⟩, by unfold atoiF; rw [← bl_data, h]⟩⟩, hb⟩
  | range =>
    obtain ⟨tp, p, hx⟩ := hv.rng
    refine (Tryz.strconv_Atoi_range_var s (by omega) h tp p w hx).mono ?_
    rintro e w' ⟨N, rfl, -, -, hb⟩
    exact ⟨⟨_, _, rfl, .inr ⟨⟨_, _, rfl⟩, by unfold atoiF; rw [← bl_data, h]⟩⟩, hb⟩
theorem chop_trim (l : List UInt8) : Lib.trimSuffix l [10] = chopN l := by
  unfold Lib.trimSuffix chopN Lib.hasSuffix
  by_cases h : l.getLast? = some 10
  · rw [if_pos h]
    obtain ⟨ys, rfl⟩ := List.getLast?_eq_some_iff.1 h
    rw [if_pos (by rw [List.isSuffixOf_iff_suffix]; exact ⟨ys, rfl⟩)]
    simp
  · rw [if_neg h, if_neg]
    intro hs
    rw [List.isSuffixOf_iff_suffix] at hs
    obtain ⟨ys, rfl⟩ := hs
    exact h (by simp)
theorem trim_any (s : ByteArray) (w : World) (hs : s.size ≤ 1000000000) : Calls Tryz.prog 80 #[.string s, .string ⟨#[10]⟩] w fun e w' => e = .returned (.string (bs (chopN (bl s)))) ∧ w = w' := by
  refine (Tryz.strings_TrimSuffix s ⟨#[10]⟩ w (by omega)).mono ?_
  rintro e w' ⟨rfl, rfl⟩
  refine ⟨?_, rfl⟩
  rw [← chop_trim]; rfl
/-- The words of a line in memory. -/
theorem split_any (s : List UInt8) (w : World) (hv : VrOK w) (hs : s.length ≤ 1000000000) :
    Calls Tryz.prog 79 #[.string (bs s), .string ⟨#[32]⟩, .int .i64 5] w fun e w' => ∃ c, e = .returned (.slice (some ⟨w.heap.size, 0, none⟩) (Lib.splitN s [32] 5).length c) ∧ (Lib.splitN s [32] 5).length ≤ c ∧ (Lib.splitN s [32] 5).length ≤ 5 ∧
      (∀ j (h : j < (Lib.splitN s [32] 5).length), w'.cell? ⟨w.heap.size, j, none⟩ = some (.string (bs (Lib.splitN s [32] 5)[j]))) ∧ w'.heap.size = w.heap.size + 1 ∧ Below w.heap.size w w' := by
  obtain ⟨m, hm⟩ := hv.mlen
  have h := Tryz.strings_SplitN (bs s) ⟨#[32]⟩ 5 m w (by rw [size_bs]; omega) hm (by decide) (by decide) (by decide)
  have hd := Lib.splitB_data ⟨#[32]⟩ 0 (min 5 ((bs s).size + 1) - 1) (bs s)
  rw [bs_data, size_bs] at hd
  have hd2 : (Lib.splitB ⟨#[32]⟩ 0 (min 5 (s.length + 1) - 1) (bs s)).map (·.data.toList) = Lib.splitN s [32] 5 := hd
  have hle := Lib.splitB_length_le ⟨#[32]⟩ 0 (min 5 (s.length + 1) - 1) (bs s)
  rw [size_bs] at h
  have hln : (Lib.splitB ⟨#[32]⟩ 0 (min 5 (s.length + 1) - 1) (bs s)).length = (Lib.splitN s [32] 5).length := by rw [← hd2, List.length_map]
  refine h.mono ?_
  rintro e w' ⟨rfl, rfl⟩
  refine ⟨_, by rw [hln], by rw [← hln]; omega, by rw [← hln]; omega, fun j hj => ?_, by simp, (Below.refl _ _).alloc (Nat.le_refl _) _⟩
  rw [World.cell?_alloc_mark]
  have hj2 : j < (Lib.splitB ⟨#[32]⟩ 0 (min 5 (s.length + 1) - 1) (bs s)).length := by rw [hln]; exact hj
  unfold Lib.cellsOf
  have e1 : (Lib.splitN s [32] 5)[j] = ((Lib.splitB ⟨#[32]⟩ 0 (min 5 (s.length + 1) - 1) (bs s))[j]).data.toList := by
    simp only [← hd2, List.getElem_map]
  rw [e1]
  have e2 : ∀ x : ByteArray, bs x.data.toList = x := fun x => by show ByteArray.mk _ = _; rw [Array.toArray_toList]
  rw [e2, List.getElem?_toArray, List.getElem?_append_left (by rw [List.length_map]; exact hj2), List.getElem?_map, List.getElem?_eq_getElem hj2]
  rfl
theorem indexS_any (s : ByteArray) (c : Int) (w : World) : Calls Tryz.prog 78 #[.string s, .int .u8 c] w fun e w' => e = .returned (.int .i64 (Lib.indexByte (bl s) c.toNat.toUInt8)) ∧ w = w' :=
  (Tryz.strings_IndexByte s c w).mono fun _ _ ⟨h1, h2⟩ => ⟨h1, h2.symm⟩
end Go.Proofs.YthmpcdjhighhgaaGreatDoor
namespace Go.Proofs.YthmpcdjhighhgaaGreatDoor
set_option linter.unusedVariables false
set_option linter.unusedSimpArgs false
set_option maxRecDepth 100000
open Go.RowKit Go.Shelf
attribute [local go_sem] Oper.semAt_some
/-- A line of at most so many bytes. -/
abbrev Ln := { s : ByteArray // s.size ≤ 600000 }
def lnL (xs : List Ln) : List (List UInt8) := xs.map fun x => bl x.1
theorem lnL_app (a b : List Ln) : lnL (a ++ b) = lnL a ++ lnL b := by simp [lnL]
theorem idx_no : ∀ (l a : List UInt8), Lib.indexByte l 10 = -1 → l ≠ [] ∨ a ≠ [] → linesF l a = [a ++ l]
  | [], a, _, h => by
    rw [linesF, if_neg (by rcases h with h | h; exact absurd rfl h; exact h), List.append_nil]
  | c :: r, a, h, _ => by
    rw [Lib.indexByte] at h
    split at h
    · cases h
    · next hc =>
      split at h
      · next hr =>
        rw [linesF, if_neg (by simpa using hc), idx_no r _ (by simpa using hr) (.inr (by simp))]; simp
      · next hr => have := Lib.indexByte_ge r 10; simp at hr; omega
theorem idx_yes : ∀ (l a : List UInt8) (k : Nat), Lib.indexByte l 10 = k → k < l.length ∧ linesF l a = (a ++ l.take (k + 1)) :: linesF (l.drop (k + 1)) []
  | [], a, k, h => by rw [Lib.indexByte] at h; omega
  | c :: r, a, k, h => by
    rw [Lib.indexByte] at h
    split at h
    · next hc =>
      obtain rfl : k = 0 := by omega
      obtain rfl : c = 10 := by simpa using hc
      rw [linesF, if_pos rfl]; simp
    · next hc =>
      split at h
      · omega
      · next hr =>
        obtain ⟨j, rfl⟩ : ∃ j, k = j + 1 := ⟨k - 1, by have := Lib.indexByte_ge r 10; simp at hr; omega⟩
        obtain ⟨h1, h2⟩ := idx_yes r (a ++ [c]) j (by omega)
        rw [linesF, if_neg (by simpa using hc), h2]
        simp
        exact h1
theorem lines_in (F : Fence) (n : Nat) (h : F.fn 37) (hro : F.round = none) (t : ByteArray) (w : World) :
    CallsIn F n Tryz.prog 37 #[.string t] w fun e w' => e = .returned (.func (.func 77) #[] #[.pointer (some ⟨w.heap.size, 0, none⟩)]) ∧ w' = w.alloc (.cells #[.string t] 9) := by
  refine callsIn_of_wp Tryz.func37 rfl h ?_ hro
  simp only [Tryz.ntmps37, List.size_toArray, List.length_cons, List.length_nil, Nat.reduceAdd, Nat.reduceSub, Array.replicate_succ, Array.replicate_zero, List.push_toArray, List.append_toArray, List.nil_append, List.cons_append]
  gi_wp2
  go_ret
  exact ⟨rfl, rfl⟩
theorem frozen_blk {w w' : World} {b j : Nat} (h : w'.heap[b]? = w.heap[b]?) : w'.frozen? ⟨b, j, none⟩ = w.frozen? ⟨b, j, none⟩ := by unfold World.frozen?; dsimp only; rw [h]
def boxLen (b : Nat) (w : World) : Nat := match w.cell? ⟨b, 0, none⟩ with | some (.string s) => s.size | _ => 0
theorem boxLen_eq {b : Nat} {w : World} {s : ByteArray} (h : w.cell? ⟨b, 0, none⟩ = some (.string s)) : boxLen b w = s.size := by unfold boxLen; rw [h]
set_option maxRecDepth 100000 in
set_option maxHeartbeats 2000000 in
theorem lines1_seq (n b : Nat) (hn : 1 ≤ n) (t : ByteArray) (ht : t.size ≤ 600000) (w : World) (hb : b < w.heap.size) (hc : w.cell? ⟨b, 0, none⟩ = some (.string t)) (hf : w.frozen? ⟨b, 0, none⟩ = false) :
    BoxSeq Fence.wide n Tryz.prog 77 #[.pointer (some ⟨b, 0, none⟩)] (fun x : Ln => #[Value.string x.1]) b (fun xs => lnL xs = linesF (bl t) []) (fun pre => ∃ r, linesF (bl t) [] = lnL pre ++ r) (linesF (bl t) []).length w := fun l J Jx W hW hJd hJs hY h0 => by
  have hc' := (hW.cell (p := ⟨b, 0, none⟩) hb).trans hc
  have hf' : W.frozen? ⟨b, 0, none⟩ = false := by
    have := hW.block b hb
    unfold World.frozen? at hf ⊢
    dsimp only at hf ⊢
    rw [this]; exact hf
  clear hc hf hW
  refine callsIn_of_wp Tryz.func77 rfl trivial ?_ rfl
  simp only [Tryz.ntmps77, List.size_toArray, List.length_cons, List.length_nil, Nat.reduceAdd, Nat.reduceSub, Array.replicate_succ, Array.replicate_zero, List.push_toArray, List.append_toArray, List.nil_append, List.cons_append]
  gi_wp2
  gi_loopw [4] (fun _ wr => ∃ (pre : List Ln) (s : ByteArray), wr.cell? ⟨b, 0, none⟩ = some (.string s) ∧ wr.frozen? ⟨b, 0, none⟩ = false ∧ s.size ≤ 600000 ∧ Hid (linesF (bl t) [] = lnL pre ++ linesF (bl s) []) ∧ J pre wr) (fun _ wr => boxLen b wr)
  case atStart => exact ⟨[], t, hc', hf', ht, rfl, h0⟩
  case round =>
    obtain ⟨pre, s, hcs, hfs, hss, HR, hJp⟩ := hrel
    by_cases hz : s.size = 0
    · have hd : decide ((0 : Int) < (s.size : Int)) = false := decide_eq_false (by omega)
      have hdn : decide (0 < s.size) = false := decide_eq_false (by omega)
      have HN := Lib.hid (show lnL pre = linesF (bl t) [] by
        have h1 : bl s = [] := List.length_eq_zero_iff.1 (by rw [size_list]; exact hz)
        rw [HR.out, h1]; simp [linesF])
      gi_wp2
      go_end0
      exact ⟨⟨_, rfl⟩, .inl ⟨pre, HN.out, hJp⟩⟩
    · have hd : decide ((0 : Int) < (s.size : Int)) = true := decide_eq_true (by omega)
      have hdn : decide (0 < s.size) = true := decide_eq_true (by omega)
      have hne : bl s ≠ [] := fun h => hz (by rw [← size_list, h]; rfl)
      have IX := fun w => indexS_any s 10 w
      by_cases hk : Lib.indexByte (bl s) 10 = -1
      · have IX2 : ∀ w, Calls Tryz.prog 78 #[.string s, .int .u8 10] w fun e w' => e = .returned (.int .i64 (-1)) ∧ w = w' := fun w => by have := IX w; rw [show ((10 : Int).toNat.toUInt8) = 10 by decide, hk] at this; exact this
        have HL := idx_no (bl s) [] hk (.inl hne)
        obtain ⟨fn, tmps, assign, body, hy, hR⟩ := hY pre ⟨s, hss⟩ (wr.setCell ⟨b, 0, none⟩ (.string ⟨#[]⟩)) (hJs _ _ _ hJp) (by rw [HR.out, HL, List.length_append]; simp [lnL])
        dsimp only at hy
        clear IX hk
        gi_wp2_with (refine ⟨trivial, ?_⟩; gi_at_call 78; refine (callsIn_wide.2 (IX2 _)).mono ?_; rintro e w1 ⟨rfl, rfl⟩)
        refine hR.mono ?_
        rintro e W3 (⟨rfl, hJ3, hk3⟩ | ⟨rfl, hJx3⟩)
        · have hc3 : W3.cell? ⟨b, 0, none⟩ = some (.string ⟨#[]⟩) := (World.cell?_of_block (a := ⟨b, 0, none⟩) hk3).trans (World.cell?_setCell_same' _ _ _ (by rw [hcs]; rfl))
          have hf3 : W3.frozen? ⟨b, 0, none⟩ = false := (frozen_blk hk3).trans ((World.frozen?_setCell _ _ _ _).trans hfs)
          gi_wp2
          go_roundw
          case rel => exact ⟨pre ++ [⟨s, hss⟩], ⟨#[]⟩, hc3, hf3, by decide, by
            show _ = _
            rw [HR.out, HL, lnL_app]; simp [lnL]; rfl, hJ3⟩
          case measure => rw [boxLen_eq hc3, boxLen_eq hcs]; exact Nat.pos_of_ne_zero hz
        · gi_wp2
          refine bodyPost_ret (results_none rfl _ _ _) rfl ?_
          exact ⟨⟨_, rfl⟩, .inr ⟨_, ⟨[], by rw [HR.out, HL, lnL_app]; simp [lnL]⟩, hJx3⟩⟩
      · obtain ⟨k, hk'⟩ : ∃ k : Nat, Lib.indexByte (bl s) 10 = k := ⟨(Lib.indexByte (bl s) 10).toNat, by have := Lib.indexByte_ge (bl s) 10; omega⟩
        have IX2 : ∀ w, Calls Tryz.prog 78 #[.string s, .int .u8 10] w fun e w' => e = .returned (.int .i64 (k : Int)) ∧ w = w' := fun w => by have := IX w; rw [show ((10 : Int).toNat.toUInt8) = 10 by decide, hk'] at this; exact this
        obtain ⟨hkl, HL⟩ := idx_yes (bl s) [] k hk'
        rw [size_list] at hkl
        have e1 : bl (s.extract 0 (k + 1)) = (bl s).take (k + 1) := extract_take s (k + 1)
        have e2 : bl (s.extract (k + 1) s.size) = (bl s).drop (k + 1) := extract_drop s (k + 1)
        have hs1 : (s.extract 0 (k + 1)).size ≤ 600000 := by rw [ByteArray.size_extract]; omega
        have hs2 : (s.extract (k + 1) s.size).size = s.size - (k + 1) := by rw [ByteArray.size_extract]; omega
        rw [← e1, ← e2, List.nil_append] at HL
        have HLL := Lib.hid HL
        have HE2 := Lib.hid hs2
        obtain ⟨fn, tmps, assign, body, hy, hR⟩ := hY pre ⟨s.extract 0 (k + 1), hs1⟩ ((wr.setCell ⟨b, 0, none⟩ (.string (s.extract (k + 1) s.size))).drew) (hJd _ _ (hJs _ _ _ hJp)) (by rw [HR.out, HL, List.length_append]; simp [lnL])
        dsimp only at hy
        have hw1 : IntKind.i64.wrap ((k : Int) + 1) = (k : Int) + 1 := IntWalk.i64_in _ (by omega)
        have hw2 : ((k : Int) + 1).toNat = k + 1 := by omega
        have hd3 : decide ((0 : Int) ≤ (k : Int)) = true := decide_eq_true (by omega)
        have hle : (k : Int) + 1 ≤ (s.size : Int) := by omega
        have hlen : k + 1 ≤ s.size := by omega
        have hge : (0 : Int) ≤ (k : Int) + 1 := by omega
        have hmx : Tryz.prog.follows .mixedOrders = true := by kernel_rfl
        clear IX hk hk' HL e1 e2 hs2
        gi_wp2_with (refine ⟨trivial, ?_⟩; gi_at_call 78; refine (callsIn_wide.2 (IX2 _)).mono ?_; rintro e w1 ⟨rfl, rfl⟩)
        gi_region
        all_goals
          gi_wp2
          refine hR.mono ?_
          rintro e W3 (⟨rfl, hJ3, hk3⟩ | ⟨rfl, hJx3⟩)
          · have hc3 : W3.cell? ⟨b, 0, none⟩ = some (.string (s.extract (k + 1) s.size)) := (World.cell?_of_block (a := ⟨b, 0, none⟩) hk3).trans (World.cell?_setCell_same' _ _ _ (by rw [hcs]; rfl))
            have hf3 : W3.frozen? ⟨b, 0, none⟩ = false := (frozen_blk hk3).trans ((World.frozen?_setCell _ _ _ _).trans hfs)
            gi_wp2
            go_roundw
            case rel => exact ⟨pre ++ [⟨s.extract 0 (k + 1), hs1⟩], s.extract (k + 1) s.size, hc3, hf3, by rw [HE2.out]; omega, by
              show _ = _
              rw [HR.out, HLL.out, lnL_app]; simp [lnL], hJ3⟩
            case measure => rw [boxLen_eq hc3, boxLen_eq hcs, HE2.out]; omega
          · gi_wp2
            refine bodyPost_ret (results_none rfl _ _ _) rfl ?_
            exact ⟨⟨_, rfl⟩, .inr ⟨_, ⟨linesF (bl (s.extract (k + 1) s.size)) [], by rw [HR.out, HLL.out, lnL_app]; simp [lnL]⟩, hJx3⟩⟩
end Go.Proofs.YthmpcdjhighhgaaGreatDoor
namespace Go.Proofs.YthmpcdjhighhgaaGreatDoor
set_option linter.unusedVariables false
set_option linter.unusedSimpArgs false
set_option maxRecDepth 100000
open Go.RowKit
def encM (m : Ms) : List Value := [.int .i64 m.kind, .int .i64 m.id, .string (bs m.who), .int .i64 m.time, .string (bs m.text)]
def MCell (w : World) (g f : Nat) (m : Ms) : Prop :=
  w.cell? ⟨g, f, none⟩ = some (.int .i64 m.kind) ∧ w.cell? ⟨g, f + 1, none⟩ = some (.int .i64 m.id) ∧ w.cell? ⟨g, f + 2, none⟩ = some (.string (bs m.who)) ∧ w.cell? ⟨g, f + 3, none⟩ = some (.int .i64 m.time) ∧ w.cell? ⟨g, f + 4, none⟩ = some (.string (bs m.text))
/-- A slice value that reads as messages. -/
def MC (v : Value) (o : List Ms) (w : World) : Prop := ∃ A c, v = .slice A o.length c ∧ o.length ≤ c ∧ (o = [] ∨ ∃ g f, A = some ⟨g, f, none⟩ ∧ g < w.heap.size ∧ ∀ i (h : i < o.length), MCell w g (f + i * 5) o[i])
theorem MCell.later {w w' : World} {g f : Nat} {m : Ms} (h : MCell w g f m) (hb : w'.heap[g]? = w.heap[g]?) : MCell w' g f m := by
  have q : ∀ j, w'.cell? ⟨g, j, none⟩ = w.cell? ⟨g, j, none⟩ := fun j => World.cell?_of_block (a := ⟨g, j, none⟩) hb
  unfold MCell; rw [q, q, q, q, q]; exact h
theorem MC.later {v : Value} {o : List Ms} {w w' : World} {B : Nat} (h : MC v o w) (hb : Below B w w') (hB : w.heap.size ≤ B) : MC v o w' := by
  obtain ⟨A, c, rfl, hc, h⟩ := h
  refine ⟨A, c, rfl, hc, h.imp id ?_⟩
  rintro ⟨g, f, rfl, hg, hcell⟩
  exact ⟨g, f, rfl, Nat.lt_of_lt_of_le hg hb.size, fun i hi => (hcell i hi).later (hb.block g (by omega))⟩
theorem number_any (n : Int) (w : World) : Calls Tryz.prog 115 #[.int .i64 n] w fun e w' => e = .returned (.bool (decide (1 ≤ n) && decide (n ≤ 1073741824))) ∧ w = w' := by
  by_cases h : 1 ≤ n
  · have hd : decide (1 ≤ n) = true := decide_eq_true h
    go_enter Tryz.func115, Tryz.ntmps115
    go_wp2
    go_ret
    exact ⟨ret_bool (by first | rfl | (rw [hd]; rfl) | simp), rfl⟩
  · have hd : decide (1 ≤ n) = false := decide_eq_false h
    go_enter Tryz.func115, Tryz.ntmps115
    go_wp2
    go_ret
    exact ⟨ret_bool (by first | rfl | (rw [hd]; rfl) | simp), rfl⟩
theorem whoF_drop (s : ByteArray) (k : Nat) (h : k < s.size) (u : UInt8) (hu : u = s[k]) : whoF ((bl s).drop k) = ((decide (33 ≤ u.toNat) && decide (u.toNat ≤ 126)) && whoF ((bl s).drop (k + 1))) := by
  rw [drop_byte s k h, whoF, hu]
theorem who_eq (s : ByteArray) (h : whoF (bl s) = true) (b c : Bool) (hb : b = decide (1 ≤ s.size)) (hc : c = decide (s.size ≤ 40)) : (b && c) = whoOK (bl s) := by
  unfold whoOK; rw [h, size_list, hb, hc]; rfl
theorem who_no (s : ByteArray) (h : whoF (bl s) = false) : false = whoOK (bl s) := by unfold whoOK; rw [h]; rfl
/-- The reference's authors. -/
theorem author_ref (s : ByteArray) (w : World) (hs : s.size ≤ 1000000) : Calls Tryz.prog 31 #[.string s] w fun e w' => e = .returned (.bool (whoOK (bl s))) ∧ w = w' := by
  go_enter Tryz.func31, Tryz.ntmps31
  go_wp2
  go_loop [3] (fun v => ∃ k : Nat, k ≤ s.size ∧ v = .int .i64 (k : Int) ∧ Hid (whoF ((bl s).drop k) = whoF (bl s))) (fun v => s.size - (intOf v).toNat)
  case atStart => exact ⟨0, by omega, rfl, rfl⟩
  case round =>
    obtain ⟨k, hk, rfl, HW⟩ := hrel
    by_cases hlt : k < s.size
    · have hd : decide ((k : Int) < (s.size : Int)) = true := decide_eq_true (by omega)
      have hdn : decide (k < s.size) = true := decide_eq_true hlt
      obtain ⟨u, c, hu, hcu, hc0, hc1, hix⟩ := idx_str Tryz.underlying9 s k hlt .i64 (k : Int) rfl
      by_cases h33 : c < 33
      · have h1 : decide (c < 33) = true := decide_eq_true h33
        have HN := Lib.hid (show whoF (bl s) = false by rw [← HW.out, whoF_drop s k hlt u hu.out]; have := hcu.out; rw [decide_eq_false (show ¬ 33 ≤ u.toNat by omega)]; rfl)
        go_wp2
        go_ret
        exact ⟨ret_bool (who_no s HN.out), rfl⟩
      · have h1 : decide (c < 33) = false := decide_eq_false h33
        by_cases h126 : 126 < c
        · have h2 : decide (126 < c) = true := decide_eq_true h126
          have HN := Lib.hid (show whoF (bl s) = false by rw [← HW.out, whoF_drop s k hlt u hu.out]; have := hcu.out; rw [decide_eq_false (show ¬ u.toNat ≤ 126 by omega), Bool.and_false]; rfl)
          go_wp2
          go_ret
          exact ⟨ret_bool (who_no s HN.out), rfl⟩
        · have h2 : decide (126 < c) = false := decide_eq_false h126
          have HN := Lib.hid (show whoF ((bl s).drop (k + 1)) = whoF (bl s) by rw [← HW.out, whoF_drop s k hlt u hu.out]; have := hcu.out; rw [decide_eq_true (show 33 ≤ u.toNat by omega), decide_eq_true (show u.toNat ≤ 126 by omega)]; rfl)
          go_wp2
          go_round
          case rel => exact ⟨k + 1, by omega, by go_num, HN⟩
          case measure => simp [intOf]; omega
    · have hd : decide ((k : Int) < (s.size : Int)) = false := decide_eq_false (by omega)
      have hdn : decide (k < s.size) = false := decide_eq_false hlt
      have HN := Lib.hid (show whoF (bl s) = true by rw [← HW.out, List.drop_eq_nil_of_le (by rw [size_list]; omega)]; rfl)
      by_cases h1 : 1 ≤ s.size
      · have e1 : decide (1 ≤ (s.size : Int)) = true := decide_eq_true (by omega)
        have e1n : decide (1 ≤ s.size) = true := decide_eq_true h1
        have H1 := Lib.hid e1n
        go_wp2
        go_ret
        exact ⟨ret_bool (by rw [← who_eq s HN.out true _ H1.out.symm rfl, Bool.true_and]; first | rfl | (rw [decide_eq_decide]; omega)), rfl⟩
      · have e1 : decide (1 ≤ (s.size : Int)) = false := decide_eq_false (by omega)
        have e1n : decide (1 ≤ s.size) = false := decide_eq_false h1
        have H1 := Lib.hid e1n
        go_wp2
        go_ret
        exact ⟨ret_bool (by rw [← who_eq s HN.out false _ H1.out.symm rfl, Bool.false_and]), rfl⟩
theorem whoF_cons {u : UInt8} {c : Int} {r : List UInt8} (hc : c = u.toNat) : whoF (u :: r) = ((decide (33 ≤ c) && decide (c ≤ 126)) && whoF r) := by
  subst hc; rw [whoF]
  congr 2 <;> (rw [decide_eq_decide]; omega)
/-- The code's authors. -/
theorem named_any (s : ByteArray) (w : World) (hs : s.size ≤ 1000000) : Calls Tryz.prog 146 #[.string s] w fun e w' => e = .returned (.bool (whoOK (bl s))) ∧ Below w.heap.size w w' := by
  have hcv := fun w => Lib.run_convert_string_bytes (P := Tryz.prog) w 9 30 5 s Tryz.underlying9 Tryz.underlying30 Tryz.underlying5
  obtain ⟨W, C, B, hW, hC, hB, hcell, hbel, -⟩ := conv_names w 5 s
  go_enter Tryz.func146, Tryz.ntmps146
  go_wp2
  rw [← hW, ← hC, ← hB]
  clear hcv hW hC
  have hBw := Lib.hid hB; clear hB
  go_loop [4, 8] (fun _ i => ∃ k : Nat, k ≤ s.size ∧ i = .int .i64 (k : Int) ∧ Hid (whoF ((bl s).drop k) = whoF (bl s))) (fun _ i => s.size - (intOf i).toNat)
  case atStart => exact ⟨0, Nat.zero_le _, rfl, rfl⟩
  case round =>
    obtain ⟨k, hk, rfl, HR⟩ := hrel
    by_cases hlt : k < s.size
    · obtain ⟨u, c, hcu, hc0, hc1, hc, hdr⟩ := byte_of hcell k hlt
      have HD := Lib.hid (show whoF (bl s) = ((decide (33 ≤ c) && decide (c ≤ 126)) && whoF ((bl s).drop (k + 1))) by rw [← HR.out, hdr.out, whoF_cons hcu.out])
      by_cases h33 : c < 33
      · have h1 : decide (c < 33) = true := decide_eq_true h33
        have HN := Lib.hid (show whoF (bl s) = false by rw [HD.out, decide_eq_false (show ¬ 33 ≤ c by omega)]; rfl)
        go_wp2
        go_ret
        exact ⟨ret_bool (who_no s HN.out), hBw.out ▸ hbel⟩
      · have h1 : decide (c < 33) = false := decide_eq_false h33
        by_cases h126 : 126 < c
        · have h2 : decide (126 < c) = true := decide_eq_true h126
          have HN := Lib.hid (show whoF (bl s) = false by rw [HD.out, decide_eq_false (show ¬ c ≤ 126 by omega), Bool.and_false]; rfl)
          go_wp2
          go_ret
          exact ⟨ret_bool (who_no s HN.out), hBw.out ▸ hbel⟩
        · have h2 : decide (126 < c) = false := decide_eq_false h126
          have HN := Lib.hid (show whoF ((bl s).drop (k + 1)) = whoF (bl s) by rw [HD.out, decide_eq_true (show 33 ≤ c by omega), decide_eq_true (show c ≤ 126 by omega)]; rfl)
          go_wp2
          go_round
          case rel => exact ⟨k + 1, by omega, by go_num, HN⟩
          case measure => simp [intOf]; omega
    · obtain rfl : k = s.size := by omega
      have HN := Lib.hid (show whoF (bl s) = true by rw [← HR.out, drop_all]; rfl)
      by_cases h1 : 1 ≤ s.size
      · have e1 : decide (1 ≤ (s.size : Int)) = true := decide_eq_true (by omega)
        have e1n : decide (1 ≤ s.size) = true := decide_eq_true h1
        have H1 := Lib.hid e1n
        go_wp2
        go_ret
        exact ⟨ret_bool (by rw [← who_eq s HN.out true _ H1.out.symm rfl, Bool.true_and]; first | rfl | (rw [decide_eq_decide]; omega)), hBw.out ▸ hbel⟩
      · have e1 : decide (1 ≤ (s.size : Int)) = false := decide_eq_false (by omega)
        have e1n : decide (1 ≤ s.size) = false := decide_eq_false h1
        have H1 := Lib.hid e1n
        go_wp2
        go_ret
        exact ⟨ret_bool (by rw [← who_eq s HN.out false _ H1.out.symm rfl, Bool.false_and]), hBw.out ▸ hbel⟩
theorem word_ref (k : Int) (w : World) : Calls Tryz.prog 9 #[.int .i64 k] w fun e w' => e = .returned (.string (bs (wordM k))) ∧ w = w' := by
  by_cases h1 : k = 1
  · subst h1
    go_enter Tryz.func9, Tryz.ntmps9
    go_wp2
    go_ret
    exact ⟨rfl, rfl⟩
  · have d1 : (k == 1) = false := by simpa using h1
    by_cases h2 : k = 2
    · subst h2
      go_enter Tryz.func9, Tryz.ntmps9
      go_wp2
      go_ret
      exact ⟨rfl, rfl⟩
    · have d2 : (k == 2) = false := by simpa using h2
      have H := Lib.hid (show wordM k = [100, 101, 108, 101, 116, 101] by unfold wordM; rw [if_neg h1, if_neg h2])
      clear h1 h2
      go_enter Tryz.func9, Tryz.ntmps9
      go_wp2
      go_ret
      exact ⟨ret_str H.out.symm, rfl⟩
theorem bl_emp (s : ByteArray) : s.toList.isEmpty = (bl s).isEmpty := by rw [toList_bl]
/-- A message that is wrong by itself, as the code asks. -/
theorem wrong_any (m : Ms) (w : World) (hs : m.who.length ≤ 1000000) : Calls Tryz.prog 84 #[.agg (encM m).toArray] w fun e w' => e = .returned (.bool (wrongM m)) ∧ Below w.heap.size w w' := by
  obtain ⟨k, id, who, time, text⟩ := m
  dsimp only at hs
  obtain ⟨S, hS⟩ : ∃ S, bs who = S := ⟨_, rfl⟩
  obtain ⟨T, hT⟩ : ∃ T, bs text = T := ⟨_, rfl⟩
  have N := fun w => named_any S w (by rw [← hS, size_bs]; exact hs)
  rw [show bl S = who by rw [← hS, bl_bs]] at N
  have D := fun w => number_any id w
  have HT := Lib.hid (show T.toList.isEmpty = text.isEmpty by rw [bl_emp, ← hT, bl_bs])
  unfold encM
  dsimp only
  rw [hS, hT]
  clear hS hT
  have fin : ∀ b, b = wrongM ⟨k, id, who, time, text⟩ → b = wrongM ⟨k, id, who, time, text⟩ := fun _ h => h
  unfold wrongM at fin
  dsimp only at fin
  have HF := Lib.hid (show ∀ b, b = (decide (k < 1) || (decide (3 < k) || (decide (id < 1) || (decide (1073741824 < id) || (!whoOK who || (k == 3 && !text.isEmpty)))))) → b = wrongM ⟨k, id, who, time, text⟩ from fun b h => by rw [h]; rfl)
  clear fin
  by_cases h1 : k < 1
  · have d1 : decide (k < 1) = true := decide_eq_true h1
    go_enter Tryz.func84, Tryz.ntmps84
    go_wp2_with fail
    go_ret
    exact ⟨ret_bool (HF.out _ (by rw [d1]; rfl)), (Below.refl _ _).alloc (Nat.le_refl _) _⟩
  have d1 : decide (k < 1) = false := decide_eq_false h1
  by_cases h2 : 3 < k
  · have d2 : decide (3 < k) = true := decide_eq_true h2
    go_enter Tryz.func84, Tryz.ntmps84
    go_wp2_with fail
    go_ret
    exact ⟨ret_bool (HF.out _ (by rw [d2]; simp)), (Below.refl _ _).alloc (Nat.le_refl _) _⟩
  have d2 : decide (3 < k) = false := decide_eq_false h2
  cases hn : decide (1 ≤ id) && decide (id ≤ 1073741824) with
  | false =>
    have D2 : ∀ w, Calls Tryz.prog 115 #[.int .i64 id] w fun e w' => e = .returned (.bool false) ∧ w = w' := fun w => by have := D w; rw [hn] at this; exact this
    have HN := Lib.hid hn; clear hn D
    go_enter Tryz.func84, Tryz.ntmps84
    go_wp2_with (go_at_call 115; refine (D2 _).mono ?_; rintro e w1 ⟨rfl, rfl⟩)
    go_ret
    exact ⟨ret_bool (HF.out _ (by have := HN.out; rw [d1, d2]; simp at this ⊢; omega)), (Below.refl _ _).alloc (Nat.le_refl _) _⟩
  | true =>
    have D2 : ∀ w, Calls Tryz.prog 115 #[.int .i64 id] w fun e w' => e = .returned (.bool true) ∧ w = w' := fun w => by have := D w; rw [hn] at this; exact this
    have HN := Lib.hid hn; clear hn D
    have e3 : decide (id < 1) = false := decide_eq_false (by have := HN.out; simp at this; omega)
    have e4 : decide (1073741824 < id) = false := decide_eq_false (by have := HN.out; simp at this; omega)
    have E3 := Lib.hid e3; have E4 := Lib.hid e4; clear e3 e4
    cases hw : whoOK who with
    | false =>
      rw [hw] at N
      have HW := Lib.hid hw; clear hw
      go_enter Tryz.func84, Tryz.ntmps84
      go_wp2_with (first | (go_at_call 115; refine (D2 _).mono ?_; rintro e w1 ⟨rfl, rfl⟩) | (go_at_call 146; refine (N _).mono ?_; rintro e w2 ⟨rfl, hb2⟩))
      go_ret
      exact ⟨ret_bool (HF.out _ (by rw [HW.out]; simp)), ((Below.refl _ w).alloc (Nat.le_refl _) _).trans (hb2.mono (by simp))⟩
    | true =>
      rw [hw] at N
      have HW := Lib.hid hw; clear hw
      have B0 := fun (w1 : World) (h : Below (w.heap.size + 1) (w.alloc (.cells #[.int .i64 k, .int .i64 id, .string S, .int .i64 time, .string T] 28)) w1) => (h.cell (p := ⟨w.heap.size, 0, none⟩) (by simp))
      have B4 := fun (w1 : World) (h : Below (w.heap.size + 1) (w.alloc (.cells #[.int .i64 k, .int .i64 id, .string S, .int .i64 time, .string T] 28)) w1) => (h.cell (p := ⟨w.heap.size, 4, none⟩) (by simp))
      rw [World.cell?_alloc_mark] at B0 B4
      have HB0 := Lib.hid B0; have HB4 := Lib.hid B4; clear B0 B4
      by_cases h3 : k = 3
      · subst h3
        go_enter Tryz.func84, Tryz.ntmps84
        go_wp2_with (first | (go_at_call 115; refine (D2 _).mono ?_; rintro e w1 ⟨rfl, rfl⟩) | (go_at_call 146; refine (N _).mono ?_; rintro e w2 ⟨rfl, hb2⟩; have c0 := HB0.out w2 (hb2.mono (by simp)); have c4 := HB4.out w2 (hb2.mono (by simp)); have hb3 := Lib.hid hb2; clear hb2))
        go_ret
        exact ⟨ret_bool (HF.out _ (by rw [HW.out, E3.out, E4.out, ← HT.out]; simp)), ((Below.refl _ w).alloc (Nat.le_refl _) _).trans (hb3.out.mono (by simp))⟩
      · have d3 : (k == 3) = false := by simpa using h3
        go_enter Tryz.func84, Tryz.ntmps84
        go_wp2_with (first | (go_at_call 115; refine (D2 _).mono ?_; rintro e w1 ⟨rfl, rfl⟩) | (go_at_call 146; refine (N _).mono ?_; rintro e w2 ⟨rfl, hb2⟩; have c0 := HB0.out w2 (hb2.mono (by simp)); have c4 := HB4.out w2 (hb2.mono (by simp)); have hb3 := Lib.hid hb2; clear hb2))
        go_ret
        exact ⟨ret_bool (HF.out _ (by rw [HW.out, E3.out, E4.out, d1, d2, d3]; rfl)), ((Below.refl _ w).alloc (Nat.le_refl _) _).trans (hb3.out.mono (by simp))⟩
end Go.Proofs.YthmpcdjhighhgaaGreatDoor
namespace Go.Proofs.YthmpcdjhighhgaaGreatDoor
set_option linter.unusedVariables false
set_option linter.unusedSimpArgs false
set_option maxRecDepth 100000
open Go.RowKit
open Go.Maps (Keyed)
theorem key_int {P : Program} {k : TypeId} (hk : P.underlying k = some (.int .i64)) (x : Int) (h0 : -9223372036854775808 ≤ x) (h1 : x ≤ 9223372036854775807) : keyOf P k (.int .i64 x) = some (.int .i64 x) :=
  Maps.keyOf_int_mk hk (WalkArith.wf_i64 (by omega))
/-- A map of the call's own says of each number what f says. -/
def SaysB (F : Lit → Option Value) (f : Int → Option Bool) : Prop := ∀ x, F (.int .i64 x) = (f x).map Value.bool
theorem SaysB.put {F : Lit → Option Value} {f : Int → Option Bool} (h : SaysB F f) (k : Int) (b : Bool) : SaysB (updV F (.int .i64 k) (some (.bool b))) (upd f k (some b)) := by
  intro x
  unfold updV upd
  by_cases e : x = k
  · subst e; rw [if_pos (by simp [Lit.sameKey]), if_pos rfl]; rfl
  · rw [if_neg (by simp [Lit.sameKey, e]), if_neg e]; exact h x
theorem folF_cons (m : Ms) (r : List Ms) (f : Int → Option Bool) (h1 : ¬ (m.kind = 1 ∧ f m.id ≠ none)) (h2 : ¬ (m.kind ≠ 1 ∧ f m.id ≠ some true)) (b : Bool) (hb : b = decide (m.kind ≠ 3)) : folF (m :: r) f = folF r (upd f m.id (some b)) := by
  rw [folF, if_neg h1, if_neg h2, hb]
set_option maxHeartbeats 1000000 in
theorem follow_any (v : Value) (l : List Ms) (w : World) (h : MC v l w) (hid : ∀ m ∈ l, 1 ≤ m.id ∧ m.id ≤ 1073741824) (hl : l.length ≤ 100000) :
    Calls Tryz.prog 88 #[v] w fun e w' => e = .returned (.int .i64 (folF l (fun _ => none))) ∧ Below w.heap.size w w' := by
  have K : Keyed Tryz.prog 3 := Maps.int_keyed Tryz.underlying3
  have hz : ∀ w, (zeroValue 4).run Tryz.prog w = .ok (.bool false) w := fun _ => by kernel_rfl
  obtain ⟨A, c, rfl, hc, hcell⟩ := h
  have HC := Lib.hid hcell; clear hcell
  have HID := Lib.hid hid; clear hid
  have hmm := @run_makeMap Tryz.prog
  go_enter Tryz.func88, Tryz.ntmps88
  go_wp2
  have hM := MV.made Tryz.prog 3 w
  have hb0 : Below w.heap.size w (w.alloc (.map #[] 0)) := (Below.refl _ w).alloc (Nat.le_refl _) _
  have hz0 : (w.alloc (.map #[] 0)).heap.size = w.heap.size + 1 := by simp
  generalize w.alloc (.map #[] 0) = W0 at *
  have HZ0 := Lib.hid hz0; clear hz0 hmm
  go_loopw [11] (fun v wr => ∃ (k n : Nat) (f : Int → Option Bool) (F : Lit → Option Value), k ≤ l.length ∧ v = .int .i64 (k : Int) ∧ MV Tryz.prog 3 w.heap.size n F wr ∧ n ≤ k ∧ SaysB F f ∧ Below w.heap.size w wr ∧ Hid (folF (l.drop k) f = folF l (fun _ => none))) (fun v _ => l.length - (intOf v).toNat)
  case atStart => exact ⟨0, 0, fun _ => none, _, by omega, rfl, hM, by omega, fun _ => rfl, hb0, rfl⟩
  case round =>
    obtain ⟨k, n, f, F, hk, rfl, hmv, hn, hsay, hbel, HR⟩ := hrel
    have HSAY := Lib.hid hsay; clear hsay
    by_cases hlt : k < l.length
    · have hd : decide ((k : Int) < (l.length : Int)) = true := decide_eq_true (by omega)
      have hdn : decide (k < l.length) = true := decide_eq_true hlt
      obtain ⟨g, ff, rfl, hg, hcs⟩ := HC.out.resolve_left (by intro e; rw [e] at hlt; simp at hlt)
      obtain ⟨a0, a1, a2, a3, a4⟩ := (hcs k hlt).later (hbel.block g hg)
      have hii := HID.out l[k] (List.getElem_mem hlt)
      have HDR := Lib.hid (List.drop_eq_getElem_cons hlt)
      clear hcs
      obtain ⟨m, hm⟩ : ∃ m, l[k] = m := ⟨_, rfl⟩
      rw [hm] at a0 a1 a2 a3 a4 hii HDR
      have HM := Lib.hid hm; clear hm
      obtain ⟨kd, id, who, tm, tx⟩ := m
      dsimp only at a0 a1 a2 a3 a4 hii
      have hmv1 : MV Tryz.prog 3 w.heap.size n F (wr.alloc (Obj.cells #[.int .i64 kd, .int .i64 id, .string (bs who), .int .i64 tm, .string (bs tx)] 28)) := hmv.kept (Below.heap_alloc _ _ _ hmv.lt)
      have hlk := hmv1.look_ok K Tryz.underlying57 hz (key_int Tryz.underlying3 id (by omega) (by omega)) trivial
      rw [HSAY.out id] at hlk
      have hbel1 : Below w.heap.size w (wr.alloc (Obj.cells #[.int .i64 kd, .int .i64 id, .string (bs who), .int .i64 tm, .string (bs tx)] 28)) := hbel.alloc hbel.size _
      have hkl := key_int (P := Tryz.prog) Tryz.underlying3 id (by omega) (by omega)
      have HF := Lib.hid (show folF (⟨kd, id, who, tm, tx⟩ :: l.drop (k + 1)) f = folF l (fun _ => none) by rw [← HDR.out]; exact HR.out)
      have hnm : n < maxLen := by unfold maxLen; omega
      by_cases h1 : kd = 1
      · subst h1
        cases hf : f id with
        | some b =>
          rw [hf] at hlk
          have HE := Lib.hid (show folF l (fun _ => none) = 7 by rw [← HF.out, folF, if_pos ⟨rfl, by rw [hf]; simp⟩])
          clear hf hmv
          simp only [Option.map_some, Option.getD_some, Option.isSome_some] at hlk
          go_wp2_with fail
          go_ret
          exact ⟨ret_int HE.out.symm, hbel1⟩
        | none =>
          rw [hf] at hlk
          have HE := Lib.hid (show folF (l.drop (k + 1)) (upd f id (some true)) = folF l (fun _ => none) by rw [← HF.out, folF_cons _ _ _ (fun h => h.2 hf) (fun h => h.1 rfl) true rfl])
          clear hf hmv
          simp only [Option.map_none, Option.getD_none, Option.isSome_none] at hlk
          go_wp2_with (at_mapUpdate; refine wpList_put_MV _ rfl _ _ _ 57 rfl 3 4 K Tryz.underlying57 w.heap.size n F rfl hmv1 hnm _ _ _ rfl rfl hkl trivial ?_; intro w1 hmv2 hgr2)
          have hbel2 := hbel1.grown hgr2 hbel1.size (by intro r hr; cases hr; exact Nat.le_refl _)
          go_roundw
          case rel => exact ⟨k + 1, n + 1, _, _, by omega, by go_num, hmv2, by omega, HSAY.out.put id true, hbel2, HE⟩
          case measure => simp [intOf]; omega
      · have d1 : (kd == 1) = false := by simpa using h1
        have d1n : (kd != 1) = true := by simpa using h1
        by_cases hf : f id = some true
        · rw [hf] at hlk
          have G := fun b (hb : b = decide (kd ≠ 3)) => folF_cons ⟨kd, id, who, tm, tx⟩ (l.drop (k + 1)) f (fun h => h1 h.1) (fun h => h.2 hf) b hb
          have HGG := Lib.hid G
          clear hf hmv h1 G
          simp only [Option.map_some, Option.getD_some, Option.isSome_some] at hlk
          by_cases h3 : kd = 3
          · have d3 : (kd != 3) = false := by simpa using h3
            have HE := Lib.hid (show folF (l.drop (k + 1)) (upd f id (some false)) = folF l (fun _ => none) by rw [← HF.out, HGG.out false (by simp [h3])])
            clear h3
            go_wp2_with (at_mapUpdate; refine wpList_put_MV _ rfl _ _ _ 57 rfl 3 4 K Tryz.underlying57 w.heap.size n F rfl hmv1 hnm _ _ _ rfl rfl hkl trivial ?_; intro w1 hmv2 hgr2)
            have hbel2 := hbel1.grown hgr2 hbel1.size (by intro r hr; cases hr; exact Nat.le_refl _)
            go_roundw
            case rel => exact ⟨k + 1, n + 1, _, _, by omega, by go_num, hmv2, by omega, HSAY.out.put id false, hbel2, HE⟩
            case measure => simp [intOf]; omega
          · have d3 : (kd != 3) = true := by simpa using h3
            have HE := Lib.hid (show folF (l.drop (k + 1)) (upd f id (some true)) = folF l (fun _ => none) by rw [← HF.out, HGG.out true (by simp [h3])])
            go_wp2_with (at_mapUpdate; refine wpList_put_MV _ rfl _ _ _ 57 rfl 3 4 K Tryz.underlying57 w.heap.size n F rfl hmv1 hnm _ _ _ rfl rfl hkl trivial ?_; intro w1 hmv2 hgr2)
            have hbel2 := hbel1.grown hgr2 hbel1.size (by intro r hr; cases hr; exact Nat.le_refl _)
            go_roundw
            case rel => exact ⟨k + 1, n + 1, _, _, by omega, by go_num, hmv2, by omega, HSAY.out.put id true, hbel2, HE⟩
            case measure => simp [intOf]; omega
        · have HE := Lib.hid (show folF l (fun _ => none) = 6 by rw [← HF.out, folF, if_neg (fun h => h1 h.1), if_pos ⟨h1, hf⟩])
          have hlk2 : ∃ b, (Instr.lookup 57 (.map (some w.heap.size)) (.int .i64 id) true).run Tryz.prog (wr.alloc (Obj.cells #[.int .i64 kd, .int .i64 id, .string (bs who), .int .i64 tm, .string (bs tx)] 28)) = .ok (.tuple #[.bool false, .bool b]) (wr.alloc (Obj.cells #[.int .i64 kd, .int .i64 id, .string (bs who), .int .i64 tm, .string (bs tx)] 28)) := by
            rw [hlk]
            cases hg : f id with
            | none => exact ⟨false, rfl⟩
            | some b => cases b with
              | true => exact absurd hg hf
              | false => exact ⟨true, rfl⟩
          obtain ⟨b, hlk2⟩ := hlk2
          clear hlk hf h1 hmv
          go_wp2_with fail
          go_ret
          exact ⟨ret_int HE.out.symm, hbel1⟩
    · obtain rfl : k = l.length := by omega
      have hd : decide ((l.length : Int) < (l.length : Int)) = false := decide_eq_false (by omega)
      have hdn : decide (l.length < l.length) = false := decide_eq_false (by omega)
      have HE := Lib.hid (show folF l (fun _ => none) = 0 by rw [← HR.out, List.drop_length]; rfl)
      go_wp2_with fail
      go_ret
      exact ⟨ret_int HE.out.symm, hbel⟩
end Go.Proofs.YthmpcdjhighhgaaGreatDoor
