/- The walks of the closures that hand parts to the one that adds runs. -/
import Derived.Test.YtpfldcfnbgdceaaDoorRunB
namespace Go.Proofs.YtpfldcfnbgdceaaDoor
set_option linter.unusedVariables false
set_option linter.unusedSimpArgs false
set_option maxRecDepth 100000
open Go.RowKit
theorem add_int (w : World) (A : Option Addr) (l : List UInt8) (cc B1 B3 B4 : Nat) (hA : BA A l cc w) (hl : l.length ≤ 65536) (cI fI tI : Int) (c f t : Nat) (h1 : cI = c) (h2 : fI = f) (h3 : tI = t) (hc : vldC c = true) (hft : f ≤ t) (htl : t ≤ l.length) (o : List Rn) (ho : o.length ≤ 900000) (W : World) (h : RS w A l cc B1 B3 B4 o W) :
    Calls Tryd.prog 34 #[.int .i64 cI, .int .i64 fI, .int .i64 tI, .pointer (some ⟨B1, 0, none⟩), .pointer (some ⟨B3, 0, none⟩)] W fun e w' => e = .returned (.tuple #[]) ∧ RS w A l cc B1 B3 B4 (o ++ addR l c f t) w' := by
  subst h1 h2 h3
  exact add_any w A l cc B1 B3 B4 hA hl c f t hc hft htl o ho W h
theorem add_hex (w : World) (A : Option Addr) (l : List UInt8) (cc B1 B3 B4 : Nat) (hA : BA A l cc w) (hl : l.length ≤ 65536) (f t : Nat) (hft : f < t) (htl : t ≤ l.length) (o : List Rn) (ho : o.length ≤ 900000) (W : World) (h : RS w A l cc B1 B3 B4 o W) :
    Calls Tryd.prog 39 #[.int .i64 (f : Int), .int .i64 (t : Int), .pointer (some ⟨B4, 0, none⟩)] W fun e w' => e = .returned (.tuple #[]) ∧ RS w A l cc B1 B3 B4 (o ++ addR l 1 f (cut1 f t)) w' := by
  have hb4 : W.cell? ⟨B4, 0, none⟩ = some (.func (.func 34) #[] #[.pointer (some ⟨B1, 0, none⟩), .pointer (some ⟨B3, 0, none⟩)]) := h.2.2.2.2.2.2.2.1
  have HR := Lib.hid h; clear h
  have HA := Lib.hid hA; clear hA
  go_enter Tryd.func39, Tryd.ntmps39
  go_wp2_with fail
  refine (add_int w A l cc B1 B3 B4 HA.out hl _ _ _ 1 f (cut1 f t) rfl rfl (by unfold cut1; omega) (by decide) (by unfold cut1; omega) (by unfold cut1; omega) o ho _ HR.out).mono ?_
  rintro e w1 ⟨rfl, hR⟩
  go_wp2
  go_end0
  exact ⟨rfl, hR⟩
theorem addR_len (l : List UInt8) (c f t : Nat) : (addR l c f t).length ≤ 1 := by unfold addR; split <;> (try split) <;> simp
theorem add_vis (w : World) (A : Option Addr) (l : List UInt8) (cc B1 B3 B4 : Nat) (hA : BA A l cc w) (hl : l.length ≤ 65536) (f t : Nat) (hft : f < t) (htl : t ≤ l.length) (o : List Rn) (ho : o.length ≤ 800000) (W : World) (h : RS w A l cc B1 B3 B4 o W) :
    Calls Tryd.prog 45 #[.int .i64 (f : Int), .int .i64 (t : Int), .pointer (some ⟨B4, 0, none⟩)] W fun e w' => e = .returned (.tuple #[]) ∧ RS w A l cc B1 B3 B4 (o ++ (addR l 3 f t ++ addR l 4 f t)) w' := by
  have hb4 : W.cell? ⟨B4, 0, none⟩ = some (.func (.func 34) #[] #[.pointer (some ⟨B1, 0, none⟩), .pointer (some ⟨B3, 0, none⟩)]) := h.2.2.2.2.2.2.2.1
  have HR := Lib.hid h; clear h
  have HA := Lib.hid hA; clear hA
  have hlen := addR_len l 3 f t
  go_enter Tryd.func45, Tryd.ntmps45
  go_wp2_with fail
  refine (add_int w A l cc B1 B3 B4 HA.out hl _ _ _ 3 f t rfl rfl rfl (by decide) (by omega) (by omega) o (by omega) _ HR.out).mono ?_
  rintro e w1 ⟨rfl, hR⟩
  have hb4 : w1.cell? ⟨B4, 0, none⟩ = some (.func (.func 34) #[] #[.pointer (some ⟨B1, 0, none⟩), .pointer (some ⟨B3, 0, none⟩)]) := hR.2.2.2.2.2.2.2.1
  have HR2 := Lib.hid hR; clear hR
  go_wp2_with fail
  refine (add_int w A l cc B1 B3 B4 HA.out hl _ _ _ 4 f t rfl rfl rfl (by decide) (by omega) (by omega) _ (by simp; omega) _ HR2.out).mono ?_
  rintro e w2 ⟨rfl, hR⟩
  go_wp2
  go_end0
  exact ⟨rfl, by rw [← List.append_assoc]; exact hR⟩
theorem take_prefix_no {x y : List UInt8} (h : x.length < y.length) : (x.take y.length == y) = false := by
  rw [beq_eq_false_iff_ne]
  intro e
  have := congrArg List.length e
  simp at this; omega
theorem prefix_any (A A2 : Option Addr) (n m c c2 : Nat) (x y : List UInt8) (hn : n = x.length) (hm : m = y.length) (hxc : n ≤ c) (hxl : n ≤ 100000000) (w : World)
    (hx : m ≤ n → (convert 23 9 (.slice A m c)).run Tryd.prog w = .ok (.string (bs (x.take m))) w) (hy : (convert 23 9 (.slice A2 m c2)).run Tryd.prog w = .ok (.string (bs y)) w) :
    Calls Tryd.prog 43 #[.slice A n c, .slice A2 m c2] w fun e w' => e = .returned (.bool (x.take m == y)) ∧ w = w' := by
  by_cases h : m ≤ n
  · have hx' := hx h
    clear hx
    have hd : decide (m ≤ n) = true := decide_eq_true h
    have hd2 : decide ((m : Int) ≤ n) = true := decide_eq_true (by omega)
    have EQ := equal_any _ _ _ _ w hx' hy
    have HN := Lib.hid hn; have HM := Lib.hid hm
    clear hn hm
    go_enter Tryd.func43, Tryd.ntmps43
    go_wp2_with (go_at_call 35; refine EQ.mono ?_; rintro e w1 ⟨rfl, rfl⟩)
    go_ret
    exact ⟨rfl, rfl⟩
  · have hd : decide (m ≤ n) = false := decide_eq_false h
    have hd2 : decide ((m : Int) ≤ n) = false := decide_eq_false (by omega)
    have hno := Lib.hid (show (x.take m == y) = false by subst hm; exact take_prefix_no (by omega))
    have HN := Lib.hid hn; have HM := Lib.hid hm
    clear hx hn hm
    go_enter Tryd.func43, Tryd.ntmps43
    go_wp2
    go_ret
    exact ⟨ret_bool hno.out.symm, rfl⟩
theorem RS.alloc {w : World} {A : Option Addr} {l : List UInt8} {cc B1 B3 B4 : Nat} {o : List Rn} {W : World} (h : RS w A l cc B1 B3 B4 o W) (ob : Obj) : RS w A l cc B1 B3 B4 o (W.alloc ob) := h.later ((Below.refl _ _).alloc (Nat.le_refl _) _)
theorem row_conv {P : Program} {T e d : TypeId} (hs : P.underlying T = some (.slice e)) (he : P.underlying e = some (.int .u8)) (hd : P.underlying d = some .string) (w : World) (us : List UInt8) (n c : Nat) (m : Nat × Nat) (hn : n = us.length) :
    (convert T d (.slice (some ⟨w.heap.size, 0, none⟩) n c)).run P (w.alloc (.cells (us.map fun c => Value.int .u8 c.toNat).toArray e m)) = .ok (.string (bs us)) (w.alloc (.cells (us.map fun c => Value.int .u8 c.toNat).toArray e m)) := by
  subst hn
  refine run_convert_bytes_back _ T d e ⟨w.heap.size, 0, none⟩ c us hs he hd (fun j hj => ?_)
  rw [Addr.add_lit, Nat.zero_add, World.cell?_alloc_mark]
  simp [hj]
theorem cut2_eq2 {l : List UInt8} {f t : Nat} (hr : (t - f) % 4 = 2) (h : ((l.drop t).take 2 == [61, 61]) = true) : cut2 l f t = t + 2 := by
  unfold cut2; rw [if_pos ⟨hr, eq_of_beq h⟩]
theorem cut2_eq3 {l : List UInt8} {f t : Nat} (hr : (t - f) % 4 = 3) (h : ((l.drop t).take 1 == [61]) = true) : cut2 l f t = t + 1 := by
  unfold cut2; rw [if_neg (by omega), if_pos ⟨hr, eq_of_beq h⟩]
theorem cut2_no2 {l : List UInt8} {f t : Nat} (hr : (t - f) % 4 = 2) (h : ((l.drop t).take 2 == [61, 61]) = false) : cut2 l f t = t - 2 := by
  unfold cut2; rw [if_neg (fun e => by rw [e.2] at h; revert h; decide), if_neg (by omega), hr]
theorem cut2_no3 {l : List UInt8} {f t : Nat} (hr : (t - f) % 4 = 3) (h : ((l.drop t).take 1 == [61]) = false) : cut2 l f t = t - 3 := by
  unfold cut2; rw [if_neg (by omega), if_neg (fun e => by rw [e.2] at h; revert h; decide), hr]
theorem cut2_lo {l : List UInt8} {f t r : Nat} (hr : (t - f) % 4 = r) (h : r < 2) : cut2 l f t = t - r := by
  unfold cut2; rw [if_neg (by omega), if_neg (by omega), hr]
theorem take_eq_len {x y : List UInt8} {m : Nat} (h : (x.take m == y) = true) : y.length ≤ x.length := by
  have := congrArg List.length (eq_of_beq h)
  simp at this; omega
set_option maxHeartbeats 1000000 in
theorem add_64e2 (w : World) (ad : Addr) (l : List UInt8) (B1 B3 B4 : Nat) (hA : BA (some ad) l l.length w) (had : ad.block < w.heap.size) (hcs : ∀ j (h : j < l.length), w.cell? (ad.add j) = some (.int .u8 l[j].toNat)) (hl : l.length ≤ 65536) (f : Nat) (hft : f < l.length) (hr : (l.length - f) % 4 = 2) (o : List Rn) (ho : o.length ≤ 900000) (W : World) (h : RS w (some ad) l l.length B1 B3 B4 o W) :
    Calls Tryd.prog 42 #[.int .i64 (f : Int), .int .i64 (l.length : Int), .pointer (some ⟨B1, 0, none⟩), .pointer (some ⟨B4, 0, none⟩)] W fun e w' => e = .returned (.tuple #[]) ∧ RS w (some ad) l l.length B1 B3 B4 (o ++ addR l 2 f (cut2 l f l.length)) w' := by
  have hb4 : W.cell? ⟨B4, 0, none⟩ = some (.func (.func 34) #[] #[.pointer (some ⟨B1, 0, none⟩), .pointer (some ⟨B3, 0, none⟩)]) := h.2.2.2.2.2.2.2.1
  have hb1 : W.cell? ⟨B1, 0, none⟩ = some (.slice (some ad) l.length l.length) := h.2.2.2.2.2.2.1
  have hbel := h.1
  have HA := Lib.hid hA
  have kc := fun (w : World) (C : Array Value) (n c : Nat) => Lib.run_convert_bytes_const (P := Tryd.prog) w 23 5 C n c Tryd.underlying23 Tryd.underlying5
  have HADD := Lib.hid (fun (t' : Nat) (h1 : f ≤ t') (h2 : t' ≤ l.length) (he : cut2 l f l.length = t') (tI : Int) (hI : tI = t') (W1 : World) (h : RS w (some ad) l l.length B1 B3 B4 o W1) =>
    (he ▸ add_int w (some ad) l l.length B1 B3 B4 HA.out hl 2 f tI 2 f t' rfl rfl hI (by decide) h1 h2 o ho W1 h : Calls Tryd.prog 34 #[.int .i64 2, .int .i64 f, .int .i64 tI, .pointer (some ⟨B1, 0, none⟩), .pointer (some ⟨B3, 0, none⟩)] W1 fun e w' => e = .returned (.tuple #[]) ∧ RS w (some ad) l l.length B1 B3 B4 (o ++ addR l 2 f (cut2 l f l.length)) w'))
  have hRB := fun ob => h.alloc ob
  have HR := Lib.hid hRB
  clear h hA hRB
  have hri : ((l.length : Int) - f) % 4 = 2 := by omega
  have hrow : (convert 23 9 (.slice (some ⟨W.heap.size, 0, none⟩) 2 2)).run Tryd.prog (W.alloc (.cells #[.int .u8 61, .int .u8 61] 5 (2, 3))) = .ok (.string (bs [61, 61])) (W.alloc (.cells #[.int .u8 61, .int .u8 61] 5 (2, 3))) := row_conv (P := Tryd.prog) (T := 23) (d := 9) Tryd.underlying23 Tryd.underlying5 Tryd.underlying9 W [61, 61] 2 2 (2, 3) rfl
  have hb4' := (HR.out (.cells #[.int .u8 61, .int .u8 61] 5 (2, 3))).2.2.2.2.2.2.2.1
  have PX := prefix_any (some ad) (some ⟨W.heap.size, 0, none⟩) 0 2 0 2 [] [61, 61] rfl rfl (by omega) (by omega) _ (fun h => by omega) hrow
  have hno : (([] : List UInt8).take 2 == [61, 61]) = false := by decide
  rw [hno] at PX
  have HE := Lib.hid (cut2_no2 (l := l) hr (by rw [List.drop_eq_nil_of_le (Nat.le_refl _)]; exact hno))
  clear hrow hno hr
  go_enter Tryd.func42, Tryd.ntmps42
  go_wp2_with (go_at_call 43; refine PX.mono ?_; rintro e w1 ⟨rfl, rfl⟩)
  refine (HADD.out (l.length - 2) (by omega) (by omega) HE.out _ ?he _ (HR.out (.cells #[.int .u8 61, .int .u8 61] 5 (2, 3)))).mono ?_
  case he => omega
  rintro e w2 ⟨rfl, hR⟩
  go_wp2
  go_end0
  exact ⟨rfl, hR⟩
set_option maxHeartbeats 1000000 in
theorem add_64t2 (w : World) (ad : Addr) (l : List UInt8) (cc B1 B3 B4 : Nat) (hA : BA (some ad) l cc w) (had : ad.block < w.heap.size) (hcs : ∀ j (h : j < l.length), w.cell? (ad.add j) = some (.int .u8 l[j].toNat)) (hl : l.length ≤ 65536) (f t : Nat) (hft : f < t) (htl : t ≤ l.length) (hct : ¬ cc = t) (hr : (t - f) % 4 = 2) (hp : ((l.drop t).take 2 == [61, 61]) = true) (o : List Rn) (ho : o.length ≤ 900000) (W : World) (h : RS w (some ad) l cc B1 B3 B4 o W) :
    Calls Tryd.prog 42 #[.int .i64 (f : Int), .int .i64 (t : Int), .pointer (some ⟨B1, 0, none⟩), .pointer (some ⟨B4, 0, none⟩)] W fun e w' => e = .returned (.tuple #[]) ∧ RS w (some ad) l cc B1 B3 B4 (o ++ addR l 2 f (cut2 l f t)) w' := by
  have hlc := hA.1
  have hb4 : W.cell? ⟨B4, 0, none⟩ = some (.func (.func 34) #[] #[.pointer (some ⟨B1, 0, none⟩), .pointer (some ⟨B3, 0, none⟩)]) := h.2.2.2.2.2.2.2.1
  have hb1 : W.cell? ⟨B1, 0, none⟩ = some (.slice (some ad) l.length cc) := h.2.2.2.2.2.2.1
  have hbel := h.1
  have HA := Lib.hid hA
  have kc := fun (w : World) (C : Array Value) (n c : Nat) => Lib.run_convert_bytes_const (P := Tryd.prog) w 23 5 C n c Tryd.underlying23 Tryd.underlying5
  have HADD := Lib.hid (fun (t' : Nat) (h1 : f ≤ t') (h2 : t' ≤ l.length) (he : cut2 l f t = t') (tI : Int) (hI : tI = t') (W1 : World) (h : RS w (some ad) l cc B1 B3 B4 o W1) =>
    (he ▸ add_int w (some ad) l cc B1 B3 B4 HA.out hl 2 f tI 2 f t' rfl rfl hI (by decide) h1 h2 o ho W1 h : Calls Tryd.prog 34 #[.int .i64 2, .int .i64 f, .int .i64 tI, .pointer (some ⟨B1, 0, none⟩), .pointer (some ⟨B3, 0, none⟩)] W1 fun e w' => e = .returned (.tuple #[]) ∧ RS w (some ad) l cc B1 B3 B4 (o ++ addR l 2 f (cut2 l f t)) w'))
  have hRB := fun ob => h.alloc ob
  have HR := Lib.hid hRB
  clear h hA hRB
  have hri : ((t : Int) - f) % 4 = 2 := by omega
  have hrow : (convert 23 9 (.slice (some ⟨W.heap.size, 0, none⟩) 2 2)).run Tryd.prog (W.alloc (.cells #[.int .u8 61, .int .u8 61] 5 (2, 3))) = .ok (.string (bs [61, 61])) (W.alloc (.cells #[.int .u8 61, .int .u8 61] 5 (2, 3))) := row_conv (P := Tryd.prog) (T := 23) (d := 9) Tryd.underlying23 Tryd.underlying5 Tryd.underlying9 W [61, 61] 2 2 (2, 3) rfl
  have hb4' := (HR.out (.cells #[.int .u8 61, .int .u8 61] 5 (2, 3))).2.2.2.2.2.2.2.1
  have hbW := hbel.alloc (o := (.cells #[.int .u8 61, .int .u8 61] 5 (2, 3))) hbel.size
  have hcW : ∀ j (h : j < l.length), (W.alloc (.cells #[.int .u8 61, .int .u8 61] 5 (2, 3))).cell? (ad.add j) = some (.int .u8 l[j].toNat) := fun j hj => (World.cell?_of_block (by rw [Reads_block]; exact hbW.block _ had)).trans (hcs j hj)
  have hsub : 2 ≤ l.length - t → (convert 23 9 (.slice (some (ad.add t)) 2 (cc - t))).run Tryd.prog (W.alloc (.cells #[.int .u8 61, .int .u8 61] 5 (2, 3))) = .ok (.string (bs ((l.drop t).take 2))) (W.alloc (.cells #[.int .u8 61, .int .u8 61] 5 (2, 3))) := fun hm => by
    have h := sub_conv (P := Tryd.prog) Tryd.underlying23 Tryd.underlying5 Tryd.underlying9 t (t + 2) (cc - t) (by omega) hcW
    unfold sub at h
    rw [show t + 2 - t = 2 by omega] at h
    exact h
  have PX := prefix_any (some (ad.add t)) (some ⟨W.heap.size, 0, none⟩) (l.length - t) 2 (cc - t) 2 (l.drop t) [61, 61] (by simp) rfl (by omega) (by omega) _ hsub hrow
  have hlt : 2 ≤ l.length - t := by have := take_eq_len hp; simpa using this
  have HE := Lib.hid (cut2_eq2 hr hp)
  rw [hp] at PX
  clear hrow hbW hcW hsub hr hp hcs
  go_enter Tryd.func42, Tryd.ntmps42
  go_wp2_with (go_at_call 43; refine PX.mono ?_; rintro e w1 ⟨rfl, rfl⟩)
  refine (HADD.out (t + 2) (by omega) (by omega) HE.out _ ?he _ (HR.out (.cells #[.int .u8 61, .int .u8 61] 5 (2, 3)))).mono ?_
  case he => omega
  rintro e w2 ⟨rfl, hR⟩
  go_wp2
  go_end0
  exact ⟨rfl, hR⟩
set_option maxHeartbeats 1000000 in
theorem add_64f2 (w : World) (ad : Addr) (l : List UInt8) (cc B1 B3 B4 : Nat) (hA : BA (some ad) l cc w) (had : ad.block < w.heap.size) (hcs : ∀ j (h : j < l.length), w.cell? (ad.add j) = some (.int .u8 l[j].toNat)) (hl : l.length ≤ 65536) (f t : Nat) (hft : f < t) (htl : t ≤ l.length) (hct : ¬ cc = t) (hr : (t - f) % 4 = 2) (hp : ((l.drop t).take 2 == [61, 61]) = false) (o : List Rn) (ho : o.length ≤ 900000) (W : World) (h : RS w (some ad) l cc B1 B3 B4 o W) :
    Calls Tryd.prog 42 #[.int .i64 (f : Int), .int .i64 (t : Int), .pointer (some ⟨B1, 0, none⟩), .pointer (some ⟨B4, 0, none⟩)] W fun e w' => e = .returned (.tuple #[]) ∧ RS w (some ad) l cc B1 B3 B4 (o ++ addR l 2 f (cut2 l f t)) w' := by
  have hlc := hA.1
  have hb4 : W.cell? ⟨B4, 0, none⟩ = some (.func (.func 34) #[] #[.pointer (some ⟨B1, 0, none⟩), .pointer (some ⟨B3, 0, none⟩)]) := h.2.2.2.2.2.2.2.1
  have hb1 : W.cell? ⟨B1, 0, none⟩ = some (.slice (some ad) l.length cc) := h.2.2.2.2.2.2.1
  have hbel := h.1
  have HA := Lib.hid hA
  have kc := fun (w : World) (C : Array Value) (n c : Nat) => Lib.run_convert_bytes_const (P := Tryd.prog) w 23 5 C n c Tryd.underlying23 Tryd.underlying5
  have HADD := Lib.hid (fun (t' : Nat) (h1 : f ≤ t') (h2 : t' ≤ l.length) (he : cut2 l f t = t') (tI : Int) (hI : tI = t') (W1 : World) (h : RS w (some ad) l cc B1 B3 B4 o W1) =>
    (he ▸ add_int w (some ad) l cc B1 B3 B4 HA.out hl 2 f tI 2 f t' rfl rfl hI (by decide) h1 h2 o ho W1 h : Calls Tryd.prog 34 #[.int .i64 2, .int .i64 f, .int .i64 tI, .pointer (some ⟨B1, 0, none⟩), .pointer (some ⟨B3, 0, none⟩)] W1 fun e w' => e = .returned (.tuple #[]) ∧ RS w (some ad) l cc B1 B3 B4 (o ++ addR l 2 f (cut2 l f t)) w'))
  have hRB := fun ob => h.alloc ob
  have HR := Lib.hid hRB
  clear h hA hRB
  have hri : ((t : Int) - f) % 4 = 2 := by omega
  have hrow : (convert 23 9 (.slice (some ⟨W.heap.size, 0, none⟩) 2 2)).run Tryd.prog (W.alloc (.cells #[.int .u8 61, .int .u8 61] 5 (2, 3))) = .ok (.string (bs [61, 61])) (W.alloc (.cells #[.int .u8 61, .int .u8 61] 5 (2, 3))) := row_conv (P := Tryd.prog) (T := 23) (d := 9) Tryd.underlying23 Tryd.underlying5 Tryd.underlying9 W [61, 61] 2 2 (2, 3) rfl
  have hb4' := (HR.out (.cells #[.int .u8 61, .int .u8 61] 5 (2, 3))).2.2.2.2.2.2.2.1
  have hbW := hbel.alloc (o := (.cells #[.int .u8 61, .int .u8 61] 5 (2, 3))) hbel.size
  have hcW : ∀ j (h : j < l.length), (W.alloc (.cells #[.int .u8 61, .int .u8 61] 5 (2, 3))).cell? (ad.add j) = some (.int .u8 l[j].toNat) := fun j hj => (World.cell?_of_block (by rw [Reads_block]; exact hbW.block _ had)).trans (hcs j hj)
  have hsub : 2 ≤ l.length - t → (convert 23 9 (.slice (some (ad.add t)) 2 (cc - t))).run Tryd.prog (W.alloc (.cells #[.int .u8 61, .int .u8 61] 5 (2, 3))) = .ok (.string (bs ((l.drop t).take 2))) (W.alloc (.cells #[.int .u8 61, .int .u8 61] 5 (2, 3))) := fun hm => by
    have h := sub_conv (P := Tryd.prog) Tryd.underlying23 Tryd.underlying5 Tryd.underlying9 t (t + 2) (cc - t) (by omega) hcW
    unfold sub at h
    rw [show t + 2 - t = 2 by omega] at h
    exact h
  have PX := prefix_any (some (ad.add t)) (some ⟨W.heap.size, 0, none⟩) (l.length - t) 2 (cc - t) 2 (l.drop t) [61, 61] (by simp) rfl (by omega) (by omega) _ hsub hrow
  have HE := Lib.hid (cut2_no2 hr hp)
  rw [hp] at PX
  clear hrow hbW hcW hsub hr hp hcs
  go_enter Tryd.func42, Tryd.ntmps42
  go_wp2_with (go_at_call 43; refine PX.mono ?_; rintro e w1 ⟨rfl, rfl⟩)
  refine (HADD.out (t - 2) (by omega) (by omega) HE.out _ ?he _ (HR.out (.cells #[.int .u8 61, .int .u8 61] 5 (2, 3)))).mono ?_
  case he => omega
  rintro e w2 ⟨rfl, hR⟩
  go_wp2
  go_end0
  exact ⟨rfl, hR⟩
set_option maxHeartbeats 1000000 in
theorem add_64e3 (w : World) (ad : Addr) (l : List UInt8) (B1 B3 B4 : Nat) (hA : BA (some ad) l l.length w) (had : ad.block < w.heap.size) (hcs : ∀ j (h : j < l.length), w.cell? (ad.add j) = some (.int .u8 l[j].toNat)) (hl : l.length ≤ 65536) (f : Nat) (hft : f < l.length) (hr : (l.length - f) % 4 = 3) (o : List Rn) (ho : o.length ≤ 900000) (W : World) (h : RS w (some ad) l l.length B1 B3 B4 o W) :
    Calls Tryd.prog 42 #[.int .i64 (f : Int), .int .i64 (l.length : Int), .pointer (some ⟨B1, 0, none⟩), .pointer (some ⟨B4, 0, none⟩)] W fun e w' => e = .returned (.tuple #[]) ∧ RS w (some ad) l l.length B1 B3 B4 (o ++ addR l 2 f (cut2 l f l.length)) w' := by
  have hb4 : W.cell? ⟨B4, 0, none⟩ = some (.func (.func 34) #[] #[.pointer (some ⟨B1, 0, none⟩), .pointer (some ⟨B3, 0, none⟩)]) := h.2.2.2.2.2.2.2.1
  have hb1 : W.cell? ⟨B1, 0, none⟩ = some (.slice (some ad) l.length l.length) := h.2.2.2.2.2.2.1
  have hbel := h.1
  have HA := Lib.hid hA
  have kc := fun (w : World) (C : Array Value) (n c : Nat) => Lib.run_convert_bytes_const (P := Tryd.prog) w 23 5 C n c Tryd.underlying23 Tryd.underlying5
  have HADD := Lib.hid (fun (t' : Nat) (h1 : f ≤ t') (h2 : t' ≤ l.length) (he : cut2 l f l.length = t') (tI : Int) (hI : tI = t') (W1 : World) (h : RS w (some ad) l l.length B1 B3 B4 o W1) =>
    (he ▸ add_int w (some ad) l l.length B1 B3 B4 HA.out hl 2 f tI 2 f t' rfl rfl hI (by decide) h1 h2 o ho W1 h : Calls Tryd.prog 34 #[.int .i64 2, .int .i64 f, .int .i64 tI, .pointer (some ⟨B1, 0, none⟩), .pointer (some ⟨B3, 0, none⟩)] W1 fun e w' => e = .returned (.tuple #[]) ∧ RS w (some ad) l l.length B1 B3 B4 (o ++ addR l 2 f (cut2 l f l.length)) w'))
  have hRB := fun ob => h.alloc ob
  have HR := Lib.hid hRB
  clear h hA hRB
  have hri : ((l.length : Int) - f) % 4 = 3 := by omega
  have hrow : (convert 23 9 (.slice (some ⟨W.heap.size, 0, none⟩) 1 1)).run Tryd.prog (W.alloc (.cells #[.int .u8 61] 5 (1, 2))) = .ok (.string (bs [61])) (W.alloc (.cells #[.int .u8 61] 5 (1, 2))) := row_conv (P := Tryd.prog) (T := 23) (d := 9) Tryd.underlying23 Tryd.underlying5 Tryd.underlying9 W [61] 1 1 (1, 2) rfl
  have hb4' := (HR.out (.cells #[.int .u8 61] 5 (1, 2))).2.2.2.2.2.2.2.1
  have PX := prefix_any (some ad) (some ⟨W.heap.size, 0, none⟩) 0 1 0 1 [] [61] rfl rfl (by omega) (by omega) _ (fun h => by omega) hrow
  have hno : (([] : List UInt8).take 1 == [61]) = false := by decide
  rw [hno] at PX
  have HE := Lib.hid (cut2_no3 (l := l) hr (by rw [List.drop_eq_nil_of_le (Nat.le_refl _)]; exact hno))
  clear hrow hno hr
  go_enter Tryd.func42, Tryd.ntmps42
  go_wp2_with (go_at_call 43; refine PX.mono ?_; rintro e w1 ⟨rfl, rfl⟩)
  refine (HADD.out (l.length - 3) (by omega) (by omega) HE.out _ ?he _ (HR.out (.cells #[.int .u8 61] 5 (1, 2)))).mono ?_
  case he => omega
  rintro e w2 ⟨rfl, hR⟩
  go_wp2
  go_end0
  exact ⟨rfl, hR⟩
set_option maxHeartbeats 1000000 in
theorem add_64t3 (w : World) (ad : Addr) (l : List UInt8) (cc B1 B3 B4 : Nat) (hA : BA (some ad) l cc w) (had : ad.block < w.heap.size) (hcs : ∀ j (h : j < l.length), w.cell? (ad.add j) = some (.int .u8 l[j].toNat)) (hl : l.length ≤ 65536) (f t : Nat) (hft : f < t) (htl : t ≤ l.length) (hct : ¬ cc = t) (hr : (t - f) % 4 = 3) (hp : ((l.drop t).take 1 == [61]) = true) (o : List Rn) (ho : o.length ≤ 900000) (W : World) (h : RS w (some ad) l cc B1 B3 B4 o W) :
    Calls Tryd.prog 42 #[.int .i64 (f : Int), .int .i64 (t : Int), .pointer (some ⟨B1, 0, none⟩), .pointer (some ⟨B4, 0, none⟩)] W fun e w' => e = .returned (.tuple #[]) ∧ RS w (some ad) l cc B1 B3 B4 (o ++ addR l 2 f (cut2 l f t)) w' := by
  have hlc := hA.1
  have hb4 : W.cell? ⟨B4, 0, none⟩ = some (.func (.func 34) #[] #[.pointer (some ⟨B1, 0, none⟩), .pointer (some ⟨B3, 0, none⟩)]) := h.2.2.2.2.2.2.2.1
  have hb1 : W.cell? ⟨B1, 0, none⟩ = some (.slice (some ad) l.length cc) := h.2.2.2.2.2.2.1
  have hbel := h.1
  have HA := Lib.hid hA
  have kc := fun (w : World) (C : Array Value) (n c : Nat) => Lib.run_convert_bytes_const (P := Tryd.prog) w 23 5 C n c Tryd.underlying23 Tryd.underlying5
  have HADD := Lib.hid (fun (t' : Nat) (h1 : f ≤ t') (h2 : t' ≤ l.length) (he : cut2 l f t = t') (tI : Int) (hI : tI = t') (W1 : World) (h : RS w (some ad) l cc B1 B3 B4 o W1) =>
    (he ▸ add_int w (some ad) l cc B1 B3 B4 HA.out hl 2 f tI 2 f t' rfl rfl hI (by decide) h1 h2 o ho W1 h : Calls Tryd.prog 34 #[.int .i64 2, .int .i64 f, .int .i64 tI, .pointer (some ⟨B1, 0, none⟩), .pointer (some ⟨B3, 0, none⟩)] W1 fun e w' => e = .returned (.tuple #[]) ∧ RS w (some ad) l cc B1 B3 B4 (o ++ addR l 2 f (cut2 l f t)) w'))
  have hRB := fun ob => h.alloc ob
  have HR := Lib.hid hRB
  clear h hA hRB
  have hri : ((t : Int) - f) % 4 = 3 := by omega
  have hrow : (convert 23 9 (.slice (some ⟨W.heap.size, 0, none⟩) 1 1)).run Tryd.prog (W.alloc (.cells #[.int .u8 61] 5 (1, 2))) = .ok (.string (bs [61])) (W.alloc (.cells #[.int .u8 61] 5 (1, 2))) := row_conv (P := Tryd.prog) (T := 23) (d := 9) Tryd.underlying23 Tryd.underlying5 Tryd.underlying9 W [61] 1 1 (1, 2) rfl
  have hb4' := (HR.out (.cells #[.int .u8 61] 5 (1, 2))).2.2.2.2.2.2.2.1
  have hbW := hbel.alloc (o := (.cells #[.int .u8 61] 5 (1, 2))) hbel.size
  have hcW : ∀ j (h : j < l.length), (W.alloc (.cells #[.int .u8 61] 5 (1, 2))).cell? (ad.add j) = some (.int .u8 l[j].toNat) := fun j hj => (World.cell?_of_block (by rw [Reads_block]; exact hbW.block _ had)).trans (hcs j hj)
  have hsub : 1 ≤ l.length - t → (convert 23 9 (.slice (some (ad.add t)) 1 (cc - t))).run Tryd.prog (W.alloc (.cells #[.int .u8 61] 5 (1, 2))) = .ok (.string (bs ((l.drop t).take 1))) (W.alloc (.cells #[.int .u8 61] 5 (1, 2))) := fun hm => by
    have h := sub_conv (P := Tryd.prog) Tryd.underlying23 Tryd.underlying5 Tryd.underlying9 t (t + 1) (cc - t) (by omega) hcW
    unfold sub at h
    rw [show t + 1 - t = 1 by omega] at h
    exact h
  have PX := prefix_any (some (ad.add t)) (some ⟨W.heap.size, 0, none⟩) (l.length - t) 1 (cc - t) 1 (l.drop t) [61] (by simp) rfl (by omega) (by omega) _ hsub hrow
  have hlt : 1 ≤ l.length - t := by have := take_eq_len hp; simpa using this
  have HE := Lib.hid (cut2_eq3 hr hp)
  rw [hp] at PX
  clear hrow hbW hcW hsub hr hp hcs
  go_enter Tryd.func42, Tryd.ntmps42
  go_wp2_with (go_at_call 43; refine PX.mono ?_; rintro e w1 ⟨rfl, rfl⟩)
  refine (HADD.out (t + 1) (by omega) (by omega) HE.out _ ?he _ (HR.out (.cells #[.int .u8 61] 5 (1, 2)))).mono ?_
  case he => omega
  rintro e w2 ⟨rfl, hR⟩
  go_wp2
  go_end0
  exact ⟨rfl, hR⟩
set_option maxHeartbeats 1000000 in
theorem add_64f3 (w : World) (ad : Addr) (l : List UInt8) (cc B1 B3 B4 : Nat) (hA : BA (some ad) l cc w) (had : ad.block < w.heap.size) (hcs : ∀ j (h : j < l.length), w.cell? (ad.add j) = some (.int .u8 l[j].toNat)) (hl : l.length ≤ 65536) (f t : Nat) (hft : f < t) (htl : t ≤ l.length) (hct : ¬ cc = t) (hr : (t - f) % 4 = 3) (hp : ((l.drop t).take 1 == [61]) = false) (o : List Rn) (ho : o.length ≤ 900000) (W : World) (h : RS w (some ad) l cc B1 B3 B4 o W) :
    Calls Tryd.prog 42 #[.int .i64 (f : Int), .int .i64 (t : Int), .pointer (some ⟨B1, 0, none⟩), .pointer (some ⟨B4, 0, none⟩)] W fun e w' => e = .returned (.tuple #[]) ∧ RS w (some ad) l cc B1 B3 B4 (o ++ addR l 2 f (cut2 l f t)) w' := by
  have hlc := hA.1
  have hb4 : W.cell? ⟨B4, 0, none⟩ = some (.func (.func 34) #[] #[.pointer (some ⟨B1, 0, none⟩), .pointer (some ⟨B3, 0, none⟩)]) := h.2.2.2.2.2.2.2.1
  have hb1 : W.cell? ⟨B1, 0, none⟩ = some (.slice (some ad) l.length cc) := h.2.2.2.2.2.2.1
  have hbel := h.1
  have HA := Lib.hid hA
  have kc := fun (w : World) (C : Array Value) (n c : Nat) => Lib.run_convert_bytes_const (P := Tryd.prog) w 23 5 C n c Tryd.underlying23 Tryd.underlying5
  have HADD := Lib.hid (fun (t' : Nat) (h1 : f ≤ t') (h2 : t' ≤ l.length) (he : cut2 l f t = t') (tI : Int) (hI : tI = t') (W1 : World) (h : RS w (some ad) l cc B1 B3 B4 o W1) =>
    (he ▸ add_int w (some ad) l cc B1 B3 B4 HA.out hl 2 f tI 2 f t' rfl rfl hI (by decide) h1 h2 o ho W1 h : Calls Tryd.prog 34 #[.int .i64 2, .int .i64 f, .int .i64 tI, .pointer (some ⟨B1, 0, none⟩), .pointer (some ⟨B3, 0, none⟩)] W1 fun e w' => e = .returned (.tuple #[]) ∧ RS w (some ad) l cc B1 B3 B4 (o ++ addR l 2 f (cut2 l f t)) w'))
  have hRB := fun ob => h.alloc ob
  have HR := Lib.hid hRB
  clear h hA hRB
  have hri : ((t : Int) - f) % 4 = 3 := by omega
  have hrow : (convert 23 9 (.slice (some ⟨W.heap.size, 0, none⟩) 1 1)).run Tryd.prog (W.alloc (.cells #[.int .u8 61] 5 (1, 2))) = .ok (.string (bs [61])) (W.alloc (.cells #[.int .u8 61] 5 (1, 2))) := row_conv (P := Tryd.prog) (T := 23) (d := 9) Tryd.underlying23 Tryd.underlying5 Tryd.underlying9 W [61] 1 1 (1, 2) rfl
  have hb4' := (HR.out (.cells #[.int .u8 61] 5 (1, 2))).2.2.2.2.2.2.2.1
  have hbW := hbel.alloc (o := (.cells #[.int .u8 61] 5 (1, 2))) hbel.size
  have hcW : ∀ j (h : j < l.length), (W.alloc (.cells #[.int .u8 61] 5 (1, 2))).cell? (ad.add j) = some (.int .u8 l[j].toNat) := fun j hj => (World.cell?_of_block (by rw [Reads_block]; exact hbW.block _ had)).trans (hcs j hj)
  have hsub : 1 ≤ l.length - t → (convert 23 9 (.slice (some (ad.add t)) 1 (cc - t))).run Tryd.prog (W.alloc (.cells #[.int .u8 61] 5 (1, 2))) = .ok (.string (bs ((l.drop t).take 1))) (W.alloc (.cells #[.int .u8 61] 5 (1, 2))) := fun hm => by
    have h := sub_conv (P := Tryd.prog) Tryd.underlying23 Tryd.underlying5 Tryd.underlying9 t (t + 1) (cc - t) (by omega) hcW
    unfold sub at h
    rw [show t + 1 - t = 1 by omega] at h
    exact h
  have PX := prefix_any (some (ad.add t)) (some ⟨W.heap.size, 0, none⟩) (l.length - t) 1 (cc - t) 1 (l.drop t) [61] (by simp) rfl (by omega) (by omega) _ hsub hrow
  have HE := Lib.hid (cut2_no3 hr hp)
  rw [hp] at PX
  clear hrow hbW hcW hsub hr hp hcs
  go_enter Tryd.func42, Tryd.ntmps42
  go_wp2_with (go_at_call 43; refine PX.mono ?_; rintro e w1 ⟨rfl, rfl⟩)
  refine (HADD.out (t - 3) (by omega) (by omega) HE.out _ ?he _ (HR.out (.cells #[.int .u8 61] 5 (1, 2)))).mono ?_
  case he => omega
  rintro e w2 ⟨rfl, hR⟩
  go_wp2
  go_end0
  exact ⟨rfl, hR⟩
set_option maxHeartbeats 2000000 in
theorem add_64 (w : World) (A : Option Addr) (l : List UInt8) (cc B1 B3 B4 : Nat) (hA : BA A l cc w) (hl : l.length ≤ 65536) (f t : Nat) (hft : f < t) (htl : t ≤ l.length) (o : List Rn) (ho : o.length ≤ 900000) (W : World) (h : RS w A l cc B1 B3 B4 o W) :
    Calls Tryd.prog 42 #[.int .i64 (f : Int), .int .i64 (t : Int), .pointer (some ⟨B1, 0, none⟩), .pointer (some ⟨B4, 0, none⟩)] W fun e w' => e = .returned (.tuple #[]) ∧ RS w A l cc B1 B3 B4 (o ++ addR l 2 f (cut2 l f t)) w' := by
  have hb4 : W.cell? ⟨B4, 0, none⟩ = some (.func (.func 34) #[] #[.pointer (some ⟨B1, 0, none⟩), .pointer (some ⟨B3, 0, none⟩)]) := h.2.2.2.2.2.2.2.1
  have hb1 : W.cell? ⟨B1, 0, none⟩ = some (.slice A l.length cc) := h.2.2.2.2.2.2.1
  have hbel := h.1
  have hlc := hA.1
  have HA := Lib.hid hA
  obtain ⟨ad, rfl, had, hcs⟩ := hA.2.resolve_left (by omega)
  clear hA
  obtain ⟨r, hr⟩ : ∃ r, (t - f) % 4 = r := ⟨_, rfl⟩
  have hri : ((t : Int) - f) % 4 = (r : Int) := by omega
  have ADD := fun (t' : Nat) (h1 : f ≤ t') (h2 : t' ≤ l.length) (he : cut2 l f t = t') (tI : Int) (hI : tI = t') (W1 : World) (h : RS w (some ad) l cc B1 B3 B4 o W1) =>
    (he ▸ add_int w (some ad) l cc B1 B3 B4 HA.out hl 2 f tI 2 f t' rfl rfl hI (by decide) h1 h2 o ho W1 h : Calls Tryd.prog 34 #[.int .i64 2, .int .i64 f, .int .i64 tI, .pointer (some ⟨B1, 0, none⟩), .pointer (some ⟨B3, 0, none⟩)] W1 fun e w' => e = .returned (.tuple #[]) ∧ RS w (some ad) l cc B1 B3 B4 (o ++ addR l 2 f (cut2 l f t)) w')
  have HADD := Lib.hid ADD; clear ADD
  have hrr : r = 0 ∨ r = 1 ∨ r = 2 ∨ r = 3 := by omega
  have HW := Lib.hid h; clear h
  have kc := fun (w : World) (C : Array Value) (n c : Nat) => Lib.run_convert_bytes_const (P := Tryd.prog) w 23 5 C n c Tryd.underlying23 Tryd.underlying5
  rcases hrr with rfl | rfl | rfl | rfl
  · have HE := Lib.hid (cut2_lo (l := l) hr (by decide)); clear hr
    go_enter Tryd.func42, Tryd.ntmps42
    go_wp2_with fail
    refine (HADD.out (t - 0) (by omega) (by omega) HE.out _ (by omega) _ HW.out).mono ?_
    rintro e w1 ⟨rfl, hR⟩
    go_wp2
    go_end0
    exact ⟨rfl, hR⟩
  · have HE := Lib.hid (cut2_lo (l := l) hr (by decide)); clear hr
    go_enter Tryd.func42, Tryd.ntmps42
    go_wp2_with fail
    refine (HADD.out (t - 1) (by omega) (by omega) HE.out _ (by omega) _ HW.out).mono ?_
    rintro e w1 ⟨rfl, hR⟩
    go_wp2
    go_end0
    exact ⟨rfl, hR⟩
  · clear HADD kc hri hb4 hb1 hbel
    by_cases hct : cc = t
    · obtain rfl : t = l.length := by omega
      obtain rfl := hct
      exact add_64e2 w ad l B1 B3 B4 HA.out had hcs hl f hft hr o ho W HW.out
    · cases hp : ((l.drop t).take 2 == [61, 61]) with
      | true => exact add_64t2 w ad l cc B1 B3 B4 HA.out had hcs hl f t hft htl hct hr hp o ho W HW.out
      | false => exact add_64f2 w ad l cc B1 B3 B4 HA.out had hcs hl f t hft htl hct hr hp o ho W HW.out
  · clear HADD kc hri hb4 hb1 hbel
    by_cases hct : cc = t
    · obtain rfl : t = l.length := by omega
      obtain rfl := hct
      exact add_64e3 w ad l B1 B3 B4 HA.out had hcs hl f hft hr o ho W HW.out
    · cases hp : ((l.drop t).take 1 == [61]) with
      | true => exact add_64t3 w ad l cc B1 B3 B4 HA.out had hcs hl f t hft htl hct hr hp o ho W HW.out
      | false => exact add_64f3 w ad l cc B1 B3 B4 HA.out had hcs hl f t hft htl hct hr hp o ho W HW.out
end Go.Proofs.YtpfldcfnbgdceaaDoor
