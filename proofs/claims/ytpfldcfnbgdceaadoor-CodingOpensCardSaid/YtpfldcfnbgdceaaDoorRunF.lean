/- The walk of the code's Runs. -/
import Derived.Laws.EntriesVeiled
import Derived.Test.YtpfldcfnbgdceaaDoorRunC
import Derived.Test.YtpfldcfnbgdceaaDoorRunE
namespace Go.Proofs.YtpfldcfnbgdceaaDoor
set_option linter.unusedVariables false
set_option linter.unusedSimpArgs false
set_option maxRecDepth 100000
open Go.RowKit
def U1 (l : List UInt8) : List Rn := foldP (fun o f t => o ++ addR l 1 f (cut1 f t)) (scanP hexP l 0 0) []
def U2 (l : List UInt8) : List Rn := foldP (fun o f t => o ++ addR l 2 f (cut2 l f t)) (scanP sgnP l 0 0) (U1 l)
def U3 (l : List UInt8) : List Rn := foldP (fun o f t => o ++ (addR l 3 f t ++ addR l 4 f t)) (scanP visP l 0 0) (U2 l)
/-- What Runs hands back: the runs in their order. -/
def RunsPost (o : List Rn) (w : World) (e : Ending) (w' : World) : Prop := ∃ v, e = .returned v ∧ RC v o w' ∧ Below w.heap.size w w'
theorem BA.zero {A : Option Addr} {l : List UInt8} {cc : Nat} {w W : World} (h : BA A l cc w) (hb : Below w.heap.size w W) : l.length = 0 ∨ ∃ ad, A = some ad ∧ ∀ j (h : j < l.length), W.cell? (ad.add j) = some (.int .u8 l[j].toNat) :=
  h.2.imp id fun ⟨ad, h1, h2, h3⟩ => ⟨ad, h1, fun j hj => (World.cell?_of_block (by rw [Reads_block]; exact hb.block _ h2)).trans (h3 j hj)⟩
theorem parts_RS (p : Int → Bool) (gi gf : Nat) (lf : Array Value) (g : List Rn → Nat → Nat → List Rn) (w : World) (A : Option Addr) (l : List UInt8) (cc B1 B3 B4 : Nat) (hA : BA A l cc w) (hl : l.length ≤ 65536)
    (ei : ∀ args w, (callFunc gi args).run Tryd.prog w = .ok (.enter gi args) w) (ef : ∀ args w, (callFunc gf args).run Tryd.prog w = .ok (.enter gf args) w)
    (hi : ∀ (c : Int) (w : World), 0 ≤ c → c < 256 → Calls Tryd.prog gi #[.int .u8 c] w fun e w' => e = .returned (.bool (p c)) ∧ w = w')
    (hg : ∀ o f t, (g o f t).length ≤ o.length + 2)
    (hf : ∀ (f t : Nat) (o : List Rn) (W : World), f < t → t ≤ l.length → o.length ≤ 800000 → RS w A l cc B1 B3 B4 o W → Calls Tryd.prog gf (#[.int .i64 (f : Int), .int .i64 (t : Int)] ++ lf) W fun e w' => e = .returned (.tuple #[]) ∧ RS w A l cc B1 B3 B4 (g o f t) w')
    (b : Nat) (hb : b ≤ 400000) (o : List Rn) (ho : o.length ≤ b) (W : World) (h : RS w A l cc B1 B3 B4 o W) :
    Calls Tryd.prog 36 #[.slice A l.length cc, .func (.func gi) #[] #[], .func (.func gf) #[] lf] W fun e w' => e = .returned (.tuple #[]) ∧ RS w A l cc B1 B3 B4 (foldP g (scanP p l 0 0) o) w' ∧ (foldP g (scanP p l 0 0) o).length ≤ b + 131076 := by
  refine (parts_any p gi gf lf (fun f o W => RS w A l cc B1 B3 B4 o W ∧ o.length ≤ b + 2 * f) (fun f f' s w hff h => ⟨h.1, by omega⟩) g A l cc hl ei ef hi ?_ ?_ o W ⟨h, by omega⟩).mono ?_
  · rintro f t s w1 h1 h2 ⟨h3, h4⟩
    refine (hf f t s w1 h1 h2 (by omega) h3).mono ?_
    rintro e w2 ⟨rfl, h5⟩
    exact ⟨rfl, h5, by have := hg s f t; omega⟩
  · by_cases h0 : l.length = 0
    · exact .inl h0
    · obtain ⟨ad, h1, h2, h3⟩ := hA.2.resolve_left h0
      exact .inr ⟨ad, h1, fun f s w1 h4 j hj => (World.cell?_of_block (by rw [Reads_block]; exact h4.1.1.block _ h2)).trans (h3 j hj)⟩
  · rintro e w' ⟨rfl, h1, h2⟩
    exact ⟨rfl, h1, by omega⟩
theorem parts1 (w : World) (A : Option Addr) (l : List UInt8) (cc B1 B3 B4 : Nat) (hA : BA A l cc w) (hl : l.length ≤ 65536) (b : Nat) (hb : b ≤ 400000) (o : List Rn) (ho : o.length ≤ b) (W : World) (h : RS w A l cc B1 B3 B4 o W) :
    Calls Tryd.prog 36 #[.slice A l.length cc, .func (.func 37) #[] #[], .func (.func 39) #[] #[.pointer (some ⟨B4, 0, none⟩)]] W fun e w' => e = .returned (.tuple #[]) ∧ RS w A l cc B1 B3 B4 (foldP (fun o f t => o ++ addR l 1 f (cut1 f t)) (scanP hexP l 0 0) o) w' ∧ (foldP (fun o f t => o ++ addR l 1 f (cut1 f t)) (scanP hexP l 0 0) o).length ≤ b + 131076 :=
  parts_RS hexP 37 39 #[.pointer (some ⟨B4, 0, none⟩)] (fun o f t => o ++ addR l 1 f (cut1 f t)) w A l cc B1 B3 B4 hA hl (enters_of Tryd.func37 (by kernel_rfl) rfl) (enters_of Tryd.func39 (by kernel_rfl) rfl) hexP_any (fun o f t => by have := addR_len l 1 f (cut1 f t); simp; omega)
    (fun f t o W h1 h2 h3 h4 => add_hex w A l cc B1 B3 B4 hA hl f t h1 h2 o (by omega) W h4) b hb o ho W h
theorem parts2 (w : World) (A : Option Addr) (l : List UInt8) (cc B1 B3 B4 : Nat) (hA : BA A l cc w) (hl : l.length ≤ 65536) (b : Nat) (hb : b ≤ 400000) (o : List Rn) (ho : o.length ≤ b) (W : World) (h : RS w A l cc B1 B3 B4 o W) :
    Calls Tryd.prog 36 #[.slice A l.length cc, .func (.func 40) #[] #[], .func (.func 42) #[] #[.pointer (some ⟨B1, 0, none⟩), .pointer (some ⟨B4, 0, none⟩)]] W fun e w' => e = .returned (.tuple #[]) ∧ RS w A l cc B1 B3 B4 (foldP (fun o f t => o ++ addR l 2 f (cut2 l f t)) (scanP sgnP l 0 0) o) w' ∧ (foldP (fun o f t => o ++ addR l 2 f (cut2 l f t)) (scanP sgnP l 0 0) o).length ≤ b + 131076 :=
  parts_RS sgnP 40 42 #[.pointer (some ⟨B1, 0, none⟩), .pointer (some ⟨B4, 0, none⟩)] (fun o f t => o ++ addR l 2 f (cut2 l f t)) w A l cc B1 B3 B4 hA hl (enters_of Tryd.func40 (by kernel_rfl) rfl) (enters_of Tryd.func42 (by kernel_rfl) rfl) sgnP_any (fun o f t => by have := addR_len l 2 f (cut2 l f t); simp; omega)
    (fun f t o W h1 h2 h3 h4 => add_64 w A l cc B1 B3 B4 hA hl f t h1 h2 o (by omega) W h4) b hb o ho W h
theorem parts3 (w : World) (A : Option Addr) (l : List UInt8) (cc B1 B3 B4 : Nat) (hA : BA A l cc w) (hl : l.length ≤ 65536) (b : Nat) (hb : b ≤ 400000) (o : List Rn) (ho : o.length ≤ b) (W : World) (h : RS w A l cc B1 B3 B4 o W) :
    Calls Tryd.prog 36 #[.slice A l.length cc, .func (.func 44) #[] #[], .func (.func 45) #[] #[.pointer (some ⟨B4, 0, none⟩)]] W fun e w' => e = .returned (.tuple #[]) ∧ RS w A l cc B1 B3 B4 (foldP (fun o f t => o ++ (addR l 3 f t ++ addR l 4 f t)) (scanP visP l 0 0) o) w' ∧ (foldP (fun o f t => o ++ (addR l 3 f t ++ addR l 4 f t)) (scanP visP l 0 0) o).length ≤ b + 131076 :=
  parts_RS visP 44 45 #[.pointer (some ⟨B4, 0, none⟩)] (fun o f t => o ++ (addR l 3 f t ++ addR l 4 f t)) w A l cc B1 B3 B4 hA hl (enters_of Tryd.func44 (by kernel_rfl) rfl) (enters_of Tryd.func45 (by kernel_rfl) rfl) visP_any (fun o f t => by have := addR_len l 3 f t; have := addR_len l 4 f t; simp; omega)
    (fun f t o W h1 h2 h3 h4 => add_vis w A l cc B1 B3 B4 hA hl f t h1 h2 o (by omega) W h4) b hb o ho W h
def CRPost (l : List UInt8) (w : World) (e : Ending) (w' : World) : Prop := ∃ o : List Rn, (if 65536 < l.length then o = [] else o.Perm (U3 l) ∧ o.Pairwise (fun a b => ltR b a = false)) ∧ RunsPost o w e w'
theorem RS.start (w : World) (A : Option Addr) (l : List UInt8) (cc : Nat) : RS w A l cc w.heap.size (w.heap.size + 1) (w.heap.size + 1 + 1) []
    (((w.alloc (Obj.cells #[Value.slice A l.length cc] 23)).alloc (Obj.cells #[Value.slice none 0 0] 44)).alloc (Obj.cells #[Value.func (Fn.func 34) #[] #[Value.pointer (some { block := w.heap.size, off := 0 }), Value.pointer (some { block := w.heap.size + 1, off := 0 })]] 59)) := by
  refine ⟨(((Below.refl _ w).alloc (Nat.le_refl _) _).alloc (by simp) _).alloc (by simp; omega) _, Nat.le_refl _, by omega, by omega, by simp, by simp, ?_, ?_, .slice none 0 0, ?_, World.ownsRow_nil _ _ _ _⟩
  · rw [World.cell?_alloc_lt _ _ _ (by simp; omega), World.cell?_alloc_lt _ _ _ (by simp), World.cell?_alloc_mark]; rfl
  · rw [show w.heap.size + 1 + 1 = ((w.alloc (Obj.cells #[Value.slice A l.length cc] 23)).alloc (Obj.cells #[Value.slice none 0 0] 44)).heap.size by simp, World.cell?_alloc_mark]; rfl
  · rw [Below.heap_alloc _ _ _ (by simp), show w.heap.size + 1 = (w.alloc (Obj.cells #[Value.slice A l.length cc] 23)).heap.size by simp, World.alloc_heap_new]
set_option maxRecDepth 100000 in
set_option maxHeartbeats 4000000 in
theorem Runs_any (A : Option Addr) (l : List UInt8) (cc : Nat) (w : World) (hA : BA A l cc w) (hbig : l.length ≤ maxLen) :
    Calls Tryd.prog 20 #[.slice A l.length cc] w (CRPost l w) := by
  unfold maxLen at hbig
  by_cases hL : 65536 < l.length
  · have hd : decide ((65536 : Int) < l.length) = true := decide_eq_true (by omega)
    have HL := Lib.hid hL; clear hL
    go_enter Tryd.func20, Tryd.ntmps20
    go_wp2
    go_ret
    exact ⟨[], by rw [if_pos HL.out], _, rfl, ⟨none, 0, rfl, .inl rfl⟩, (Below.refl _ w).alloc (Nat.le_refl _) _⟩
  · have hd : decide ((65536 : Int) < l.length) = false := decide_eq_false (by omega)
    have hl : l.length ≤ 65536 := by omega
    have HA := Lib.hid hA; clear hA
    have HL := Lib.hid hL; clear hL
    go_enter Tryd.func20, Tryd.ntmps20
    have h0 := RS.start w A l cc
    go_wp2_with fail
    generalize (((w.alloc (Obj.cells #[Value.slice A l.length cc] 23)).alloc (Obj.cells #[Value.slice none 0 0] 44)).alloc (Obj.cells #[Value.func (Fn.func 34) #[] #[Value.pointer (some { block := w.heap.size, off := 0 }), Value.pointer (some { block := w.heap.size + 1, off := 0 })]] 59)) = W0 at *
    refine (parts1 w A l cc _ _ _ HA.out hl 0 (by omega) _ (by simp) _ h0).mono ?_
    rintro e W1 ⟨rfl, h1, hn1⟩
    have hb1 := h1.2.2.2.2.2.2.1
    have H1 := Lib.hid h1; clear h1 h0
    go_wp2_with fail
    refine (parts2 w A l cc _ _ _ HA.out hl (0 + 131076) (by omega) _ hn1 _ H1.out).mono ?_
    rintro e W2 ⟨rfl, h2, hn2⟩
    have hb2 := h2.2.2.2.2.2.2.1
    have H2 := Lib.hid h2; clear h2 hb1
    go_wp2_with fail
    refine (parts3 w A l cc _ _ _ HA.out hl (0 + 131076 + 131076) (by omega) _ hn2 _ H2.out).mono ?_
    rintro e W3 ⟨rfl, h3, hn3⟩
    obtain ⟨g1, g2, g3, g4, g5, g6, g7, g8, v, g9, g10⟩ := h3
    have hc3 : W3.cell? ⟨w.heap.size + 1, 0, none⟩ = some v := by rw [cell_of_row W3 _ 0 _ _ _ g9]; rfl
    clear hb2 g7 g8
    obtain ⟨Av, nv, cv, rfl⟩ : ∃ A n c, v = .slice A n c := by
      rcases g10.2 with ⟨h, -⟩ | ⟨g, cap, cur, h, -⟩ <;> exact ⟨_, _, _, h⟩
    have S := sort_any _ _ _ _ g10 (by omega)
    have HS := Lib.hid S; clear S
    go_wp2_with fail
    refine HS.out.mono ?_
    rintro e W4 ⟨rfl, o', hperm, hpair, hrc, hgr⟩
    have hne : (Value.slice Av nv cv).ownBlock ≠ some (w.heap.size + 1) := fun e => by have := (own_cells g10 _ e).1; omega
    have hc4 : W4.cell? ⟨w.heap.size + 1, 0, none⟩ = some (.slice Av nv cv) := (World.cell?_of_block (a := ⟨w.heap.size + 1, 0, none⟩) (hgr.block (w.heap.size + 1) (by omega) (fun e => hne e.symm))).trans hc3
    have hb4 : Below w.heap.size W3 W4 := (Below.refl _ W3).grown hgr (by have := g1.size; omega) (fun k hk => by have := (own_cells g10 k hk).1; omega)
    have HP := Lib.hid hperm; have HQ := Lib.hid hpair; have HC := Lib.hid hrc
    clear hperm hpair hrc hc3 hgr g9 g10 hne
    go_wp2
    go_ret
    exact ⟨o', by rw [if_neg HL.out]; exact ⟨HP.out, HQ.out⟩, _, rfl, HC.out, g1.trans hb4⟩
end Go.Proofs.YtpfldcfnbgdceaaDoor
