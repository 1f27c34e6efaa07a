/- Walk: law06.own. Printed by gen_oww.py. · A compile: where groups begin; what it answers. · A compile: a round of the groups. · Walks: the reader of patterns at one text: an item. · Walks: the reader of patterns at one text: lists of one part, the sequence, the choice. · Walks: the reader of patterns at one text: the choice. · Walks: the text of a pattern at one pattern: signs and sets. · Walk: law06.few at any machine. · A machine of law06.own as any machine; what the law's changes leave of it. -/
import Derived.Test.YtjhmipidmpmlmaaGreatDoorY23
import Derived.Test.YtjhmipidmpmlmaaGreatDoorY11
import Derived.Test.YtjhmipidmpmlmaaGreatDoorY15
import Derived.Test.YtjhmipidmpmlmaaGreatDoorY10
import Derived.Test.YtjhmipidmpmlmaaGreatDoorY22
import Derived.Test.YtjhmipidmpmlmaaGreatDoorY19
namespace Go.Proofs.YtjhmipidmpmlmaaGreatDoor
set_option linter.unusedVariables false
set_option linter.unusedSimpArgs false
set_option maxRecDepth 100000
open Go.RowKit
structure OwW (b : Nat) (w : World) (n i : Nat) (vE vA : Value) (gv : List Value) (rs : List (List Ed)) (acs : List Bool) (wr : World) : Prop where
 mm : MkM (w.heap.size + 1) (w.heap.size + 1) [] vE vA gv rs acs wr
 rl : rs.length = i
 al : acs.length = i
 rok : ∀ r ∈ rs, r.length ≤ 3 ∧ ∃ a, OwI n r a
 tp : TapeOK b wr
 fr : Fr b w wr
 res : wr.heap[w.heap.size]? = some (.cells #[.slice none 0 0, .slice none 0 0] 34 (0, 0))
 rws : ∀ (i : Nat) (r : List Ed), rs[i]? = some r → ∃ u, gv[i]? = some u ∧ OR 58 3 edC (w.heap.size + 1) u r wr
 dst : ∀ (i j : Nat) (u v : Value), i < j → gv[i]? = some u → gv[j]? = some v → ∀ g, u.ownBlock = some g → v.ownBlock ≠ some g
theorem or_fr {b B n : Nat} {T : TypeId} {α : Type} {enc : α → List Value} {v : Value} {o : List α} {w w' : World} (h : OR T n enc B v o w) (hf : Fr b w w') (hb : b < B) : OR T n enc B v o w' :=
 OR.keep h fun g hg => hf.block g (World.ownsRow.lt h g hg).2 (fun e => by injection e with e; have := (World.ownsRow.lt h g hg).1; omega)
theorem OwW.next {b : Nat} {w : World} {n i : Nat} {vE vA : Value} {gv : List Value} {rs : List (List Ed)} {acs : List Bool} {wr w' : World} (h : OwW b w n i vE vA gv rs acs wr) (hb : b < w.heap.size) (ht : TapeOK b w') (hf : Fr b wr w') : OwW b w n i vE vA gv rs acs w' := by
 have hs := h.fr.size;have hr := (Array.getElem?_eq_some_iff.1 h.res).1;refine ⟨h.mm.low (L := [b]) (L' := []) ⟨hf.os, hf.tape, hf.output, hf.size, fun k hk hn => hf.block k hk (fun e => hn (by injection e with e; simp [e])), fun k hk => by cases hk⟩ (fun k hk => by rw [List.mem_singleton] at hk; omega), h.rl, h.al, h.rok, ht, h.fr.trans hf, (hf.block _ hr (fun e => by injection e; omega)).trans h.res, fun i r hi => ?_, h.dst⟩
 obtain ⟨u, h1, h2⟩ := h.rws i r hi;exact ⟨u, h1, or_fr h2 hf (by omega)⟩
theorem fr_low {b : Nat} {w2 w5 w6 : World} (h : Fr b w2 w5) (h' : Below w2.heap.size w5 w6) : Fr b w2 w6 :=
 ⟨h'.os.trans h.os, h'.tape.trans h.tape, h'.output.trans h.output, Nat.le_trans h.size h'.size, fun k hk hne => (h'.block k hk).trans (h.block k hk hne)⟩
theorem fr_low' {b : Nat} {w w5 w6 : World} (h : Fr b w w5) (h' : Below w.heap.size w5 w6) : Fr b w w6 := fr_low h h'
theorem OwW.step {b : Nat} {w : World} {n i : Nat} {vE vA x y rv : Value} {gv : List Value} {rs : List (List Ed)} {acs : List Bool} {p : List Ed} {q : Bool} {a : Nat} {wr w' : World} (h : OwW b w n i vE vA gv rs acs wr) (hb : b < w.heap.size)
  (hm : MkM (w.heap.size + 1) (w.heap.size + 1) [] x y (gv ++ [rv]) (rs ++ [p]) (acs ++ [q]) w') (hk : KeepF (b :: fpM (w.heap.size + 1) vE vA) [] wr w') (ht : TapeOK b w') (hp : p.length ≤ 3) (hI : OwI n p a) {B2 : Nat} (hB2 : ∀ k ∈ fpM (w.heap.size + 1) vE vA, k < B2) (hB3 : ∀ (i : Nat) (u : Value), gv[i]? = some u → ∀ g, u.ownBlock = some g → g < B2) (hBw : w.heap.size < B2) (hrow : OR 58 3 edC B2 rv p wr) : OwW b w n (i + 1) x y (gv ++ [rv]) (rs ++ [p]) (acs ++ [q]) w' := by
 have hs := h.fr.size;have hr := (Array.getElem?_eq_some_iff.1 h.res).1;have hlow : ∀ k, k < w.heap.size + 1 → k ≠ b → w'.heap[k]? = wr.heap[k]? := fun k hk1 hk2 => hk.blk k (by omega) fun hm => (List.mem_cons.1 hm).elim hk2 fun hm => by have := (h.mm.lt k hm).1; omega
 refine ⟨hm, by rw [List.length_append, h.rl]; rfl, by rw [List.length_append, h.al]; rfl, fun r hr => ?_, ht, ⟨hk.os.trans h.fr.os, hk.tape.trans h.fr.tape, hk.output.trans h.fr.output, Nat.le_trans hs hk.size, fun k hk1 hne => (hlow k (by omega) (fun e => hne (by rw [e]))).trans (h.fr.block k hk1 hne)⟩, (hlow _ (by omega) (by omega)).trans h.res, fun i' r hi => ?_, fun i' j' u v hij hu hv g hg => ?_⟩
 rotate_left
 ·have hgl : gv.length = rs.length := by have := h.mm.own.1; omega
  by_cases hlt : i' < rs.length
  ·rw [List.getElem?_append_left hlt] at hi;obtain ⟨u, h1, h2⟩ := h.rws i' r hi;obtain ⟨u', h1', -, h3', -⟩ := h.mm.gvs i' hlt;have e : u = u' := by rw [h1] at h1'; exact Option.some.inj h1'
   subst e;refine ⟨u, by rw [List.getElem?_append_left (by omega)]; exact h1, OR.keep h2 fun g hg => hk.blk g (World.ownsRow.lt h2 g hg).2 fun hm => ?_⟩
   rcases List.mem_cons.1 hm with e | hm
   ·have := (World.ownsRow.lt h2 g hg).1; omega
   ·exact h3' g hg hm
  ·have hie : i' = rs.length := by
    have := (List.getElem?_eq_some_iff.1 hi).1;simp at this; omega
   subst hie;rw [List.getElem?_append_right (Nat.le_refl _)] at hi;simp at hi;subst hi;refine ⟨rv, by rw [List.getElem?_append_right (by omega), hgl]; simp, OR.mono (OR.keep hrow fun g hg => hk.blk g (World.ownsRow.lt hrow g hg).2 fun hm => ?_) (by omega)⟩
   have h5 := (World.ownsRow.lt hrow g hg).1;rcases List.mem_cons.1 hm with e | hm
   ·omega
   ·have := hB2 g hm; omega
 ·have hgl : gv.length = rs.length := by have := h.mm.own.1; omega
  by_cases hlt : j' < gv.length
  ·rw [List.getElem?_append_left hlt] at hv;rw [List.getElem?_append_left (by omega)] at hu
   exact h.dst i' j' u v hij hu hv g hg
  ·have hje : j' = gv.length := by
    have := (List.getElem?_eq_some_iff.1 hv).1;simp at this; omega
   subst hje;rw [List.getElem?_append_right (Nat.le_refl _)] at hv;simp at hv;subst hv;rw [List.getElem?_append_left (by omega)] at hu
   intro hgr;have h1 := hB3 i' u hu g hg;have h2 := (World.ownsRow.lt hrow g hgr).1;omega
 rcases List.mem_append.1 hr with h1 | h1
 ·exact h.rok r h1
 ·rw [List.mem_singleton] at h1; subst h1; exact ⟨hp, a, hI⟩
theorem own_monoO {w : World} {B B' k n : Nat} {e : TypeId} {v : Value} {xs : List Value} (h : w.ownsRow B e k v n xs) (hB : B' ≤ B) : w.ownsRow B' e k v n xs := by
 refine ⟨h.1, h.2.imp id ?_⟩;rintro ⟨g, cap, cur, h1, h2, h3⟩;exact ⟨g, cap, cur, h1, Nat.le_trans hB h2, h3⟩
def OwR (B : Nat) (w : World) (v : Value) (m : Mc) : Prop := ∃ vE vA gv, v = .agg #[vE, vA] ∧ w.ownsRow B 53 1 vE m.ed.length gv ∧ OR 4 1 bC B vA m.ac w ∧ (∀ (i : Nat) (r : List Ed), m.ed[i]? = some r → ∃ u, gv[i]? = some u ∧ OR 58 3 edC B u r w) ∧ (∀ (i j : Nat) (u v : Value), i < j → gv[i]? = some u → gv[j]? = some v → ∀ g, u.ownBlock = some g → v.ownBlock ≠ some g) ∧ ∀ (i : Nat), i < m.ed.length → ∃ r, m.ed[i]? = some r ∧ r.length ≤ 3
def OwPost2 (b : Nat) (w : World) (e : Ending) (w' : World) : Prop := ∃ rv m, e = .returned rv ∧ McUp w.heap.size w' rv m ∧ Vld m ∧ McSm m ∧ (1 ≤ m.ed.length ∧ m.ed.length ≤ 5) ∧ TapeOK b w' ∧ Fr b w w' ∧ OwR w.heap.size w' rv m
def OwPost (b : Nat) (w : World) (e : Ending) (w' : World) : Prop := ∃ rv m, e = .returned rv ∧ McUp w.heap.size w' rv m ∧ Vld m ∧ McSm m ∧ (1 ≤ m.ed.length ∧ m.ed.length ≤ 5) ∧ TapeOK b w' ∧ Fr b w w'
def factO15 (b B N i cE cA : Nat) (AE AK : Option Addr) (gv : List Value) (acs : List Bool) (rv : Value) (W : World) : Nat → Nat → Value → World → Prop
 | c, 0, x, w => x = .pointer (some ⟨N, 0, none⟩)
 | c, 1, x, w => x = .slice AE i cE
 | c, 2, x, w => x = rv
 | c, 3, x, w => c = 1 → ∃ g, x = .slice (some ⟨g, 0, none⟩) 1 1 ∧ g < w.heap.size ∧ w.cell? ⟨g, 0, none⟩ = some rv
 | c, 4, x, w => FEo B (i + 1) (.slice AE i cE) rv gv W c x w
 | c, 5, x, w => x = .pointer (some ⟨N, 1, none⟩)
 | c, 6, x, w => x = .slice AK i cA
 | c, 7, x, w => x = .pointer (some ⟨b, 0, none⟩)
 | c, 8, x, w => ∃ r, x = .int .i64 r
 | c, 9, x, w => ∃ q, x = .bool q
 | c, 10, x, w => c = 4 → ∃ g q, x = .slice (some ⟨g, 0, none⟩) 1 1 ∧ g < w.heap.size ∧ w.cell? ⟨g, 0, none⟩ = some (.bool q)
 | c, 11, x, w => FAo B (i + 1) (.slice AK i cA) acs W c x w
 | c, 12, x, w => x = .pointer (some ⟨N, 0, none⟩)
 | c, 13, x, w => FBo B N (i + 1) (.slice AE i cE) (.slice AK i cA) rv gv W c w
 | c, 14, x, w => x = .pointer (some ⟨N, 1, none⟩)
 | _, _, _, _ => True
set_option maxHeartbeats 4000000 in
theorem own2_any (b : Nat) (w : World) (ht : TapeOK b w) : Calls Tryz.prog 19 #[.pointer (some ⟨b, 0, none⟩)] w (OwPost2 b w) := by
 have hbl := ht.lt;obtain ⟨ie, hie, hke0, hke1, hke2⟩ := info_parts info_ed;obtain ⟨is, his, he0, he1, he2⟩ := info_parts info_es;obtain ⟨ib, hib, hb0', hb1, hb2⟩ := info_parts info_bool;have HT := Lib.hid ht;clear ht
 go_enter Tryz.func19, Tryz.ntmps19
 go_wp2_with fail;refine calls_named fun W0 hW0 => ?_;have hb0 : Below w.heap.size w W0 := by rw [hW0]; exact ((Below.refl _ _).alloc (Nat.le_refl _) _).alloc (by simp) _
 have hr0 : W0.heap[w.heap.size]? = some (.cells #[.slice none 0 0, .slice none 0 0] 34 (0, 0)) := by rw [hW0, old_alloc _ _ _ (by simp)]; exact heap_alloc_new w _
 have hr1 : W0.heap[w.heap.size + 1]? = some (.cells #[.slice none 0 0, .slice none 0 0] 34 (0, 0)) := by rw [hW0]; simpa using heap_alloc_new (w.alloc (.cells #[.slice none 0 0, .slice none 0 0] 34)) (.cells #[.slice none 0 0, .slice none 0 0] 34)
 have hO0 : ∀ n, OwW b w n 0 (.slice none 0 0) (.slice none 0 0) [] [] [] W0 := fun n => ⟨⟨hr1, by omega, World.ownsRow_nil _ _ _ _, fun i hi => absurd hi (Nat.not_lt_zero _), OR.nil_ _ _ _, fun k hk h => (by cases h)⟩, rfl, rfl, fun r hr => (by cases hr), HT.out.below hb0, Fr.of_below hb0, hr0, fun i r hi => (by cases hi), fun i j u v _ hu => (by cases hu)⟩
 have HO0 := Lib.hid hO0;clear hW0 hb0 hr0 hr1 hO0;refine (between_any b 1 5 W0 (by decide) (by decide) (by decide) (HO0.out 0).tp).mono ?_
 rintro e w1 ⟨r, rfl, hr1, hr5, ht1, hf1⟩;obtain ⟨n, rfl⟩ : ∃ n : Nat, r = (n : Int) := ⟨r.toNat, by omega⟩
 have HO1 := Lib.hid ((HO0.out n).next hbl ht1 hf1);have hn1 : 1 ≤ n := by omega
 have hn5 : n ≤ 5 := by omega
 clear ht1 hf1 HO0 hr1 hr5;go_wp2_with fail
 go_loopw [5] (fun v wr => ∃ i : Nat, i ≤ n ∧ v = .int .i64 (i : Int) ∧ Hid (∃ vE vA gv rs acs, OwW b w n i vE vA gv rs acs wr)) (fun v _ => n - (intOf v).toNat)
 case atStart => exact ⟨0, by omega, rfl, _, _, _, _, _, HO1.out⟩
 case round =>
  obtain ⟨i, hi, rfl, HO⟩ := hrel;by_cases hlt : i < n
  ·have hd : decide ((i : Int) < (n : Int)) = true := decide_eq_true (by omega)
   have hdn : decide (i < n) = true := decide_eq_true hlt;obtain ⟨vE, vA, gv, rs, acs, hO⟩ := HO.out;have HOW := Lib.hid hO;clear hO;go_wp2_with fail;refine (next_any b 4 wr (by decide) (by decide) HOW.out.tp).mono ?_
   rintro e w2 ⟨r, rfl, hr1, hr2, ht2, hf2⟩;obtain ⟨c, rfl⟩ : ∃ c : Nat, r = (c : Int) := ⟨r.toNat, by omega⟩
   have HO2 := Lib.hid (HOW.out.next hbl ht2 hf2);have hc3 : c ≤ 3 := by omega
   have hbl2 : b < w2.heap.size := ht2.lt;clear ht2 hf2 hr1 hr2;go_wp2_with fail
   go_loopg [6, 7, 8] c (fun q s6 s7 s8 wr => ∃ (a : Nat) (p : List Ed), s7 = .int .i64 (a : Int) ∧ s8 = .int .i64 (q : Int) ∧ p.length + q ≤ 3 ∧ a ≤ 256 ∧ Hid (OwI n p a) ∧ Hid (Fr b w2 wr ∧ TapeOK b wr ∧ OR 58 3 edC w2.heap.size s6 p wr))
   case atStart => exact ⟨0, [], rfl, rfl, by simp; omega, by omega, OwI.start n, Fr.refl _ _, HO2.out.tp, OR.nil_ _ _ _⟩
   case round =>
    obtain ⟨a, p, rfl, rfl, hpq, ha, HI, HW⟩ := hrel;obtain ⟨A6, c6, rfl⟩ : ∃ A c, u6 = .slice A p.length c := by
     obtain ⟨A, c, e, -⟩ := own_form (show wr.ownsRow _ _ _ _ _ _ from HW.out.2.2);exact ⟨A, c, e⟩
    cases gk with
    | zero =>
     have hd0 : decide ((0 : Int) < 0) = false := by decide
     obtain ⟨np, hnp⟩ : ∃ k, p.length = k := ⟨_, rfl⟩;rw [hnp] at hpq ⊢;have HP := Lib.hid hnp;have hOr := HO2.out.next hbl HW.out.2.1 HW.out.1;obtain ⟨AE, cE, eE, -, -⟩ := own_form hOr.mm.own;rw [hOr.rl] at eE;obtain ⟨AK, cA, eA, -, -⟩ := own_form (show wr.ownsRow _ _ _ _ _ _ from hOr.mm.acc);rw [hOr.al] at eA;subst eE eA;have hN := hOr.mm.hN;obtain ⟨xn0, xn1⟩ : wr.cell? ⟨w.heap.size + 1, 0, none⟩ = some (.slice AE i cE) ∧ wr.cell? ⟨w.heap.size + 1, 1, none⟩ = some (.slice AK i cA) := by constructor <;> (rw [cell_of_row _ _ _ _ _ _ hN]; rfl)
     have lN : w.heap.size + 1 < wr.heap.size := (Array.getElem?_eq_some_iff.1 hN).1;have hbr : Below wr.heap.size wr wr.drew := (Below.refl _ _).drew;have hS0 : StO b (w.heap.size + 1) (w.heap.size + 1) i (.slice AE i cE) (.slice AK i cA) gv rs acs wr 0 wr.drew :=
      StO.bel (c := 0) (w := wr) ⟨hOr.mm, by omega, kf_bel (Below.refl _ _), hOr.tp, fun _ => rfl, fun _ => by have := hOr.mm.own; rwa [hOr.rl] at this, fun _ => by have : wr.ownsRow _ _ _ _ _ _ := hOr.mm.acc; rwa [hOr.al] at this⟩ hbr (Nat.le_refl _)
     have HNR := Lib.hid hN;have HOr := Lib.hid hOr;have hn5' : i < 5 := by omega
     clear hN hOr hnp hbr;go_wp2_with fail;refine wp_region_chain 15 [3, 4, 8, 10, 11, 13] (factO15 b (w.heap.size + 1) (w.heap.size + 1) i cE cA AE AK gv acs (.slice A6 np c6) wr) (fun c w' => StO b (w.heap.size + 1) (w.heap.size + 1) i (.slice AE i cE) (.slice AK i cA) gv rs acs wr c w') (by kernel_rfl) (by kernel_rfl) (by kernel_rfl) (by kernel_rfl) (by kernel_rfl) (by kernel_rfl) (by decide) hS0 ?_ ?_
     ·simp only [pq4, pq5];refine HSteps.pure (by decide) ?_ (HSteps.pure (by decide) ?_ (HSteps.pure (by decide) ?_ (HSteps.eff 0 rfl ?_ (HSteps.eff 1 rfl ?_ (HSteps.pure (by decide) ?_ (HSteps.pure (by decide) ?_ (HSteps.pure (by decide) ?_ (HSteps.eff 2 rfl ?_ (HSteps.pure (by decide) ?_ (HSteps.eff 3 rfl ?_ (HSteps.eff 4 rfl ?_ (HSteps.pure (by decide) ?_ (HSteps.eff 5 rfl ?_ (HSteps.pure (by decide) ?_ (HSteps.nil)))))))))))))))
      all_goals first | (intro v wz c hlo hS hE K hK;simp only [putAll, Act.put, pq1, pq2, pq3, Nat.zero_add, Nat.reduceAdd, pq4, pq5] at hK ⊢) | (intro v wz hS hE K hK;simp only [putAll, Act.put, pq1, pq2, pq3, Nat.zero_add, Nat.reduceAdd, pq4, pq5] at hK ⊢)
      ·have HX := Lib.hid hS;clear hS hE hlo;go_wp2_with fail;exact hK.out _ rfl
      ·have e0 : v 0 = _ := hE.1 rfl;rw [e0] at hK ⊢;have hc1 := hlo 1 (by kernel_rfl)
       have c1 := (World.cell?_of_block (a := ⟨w.heap.size + 1, 0, none⟩) (hS.bx (by omega))).trans xn0
       have l1 : w.heap.size + 1 < wz.heap.size := by have := hS.kf.size; omega
       clear hc1;have HX := Lib.hid hS;clear hS hE hlo;go_wp2_with fail;exact hK.out _ rfl
      ·have HX := Lib.hid hS;clear hS hE hlo;go_wp2_with fail;exact hK.out _ rfl
      ·have e2 : v 2 = _ := hE.1 rfl;rw [e2] at hK ⊢;have HX := Lib.hid hS;clear hS hE;go_wp2_with fail;have hbz : Below wz.heap.size wz (wz.alloc (.cells #[.slice A6 np c6] 53)) := (Below.refl _ _).alloc (Nat.le_refl _) _;refine hK.out _ _ (fun j z hj h => ?_) (HX.out.bel hbz (by decide)) (fun _ => ⟨wz.heap.size, rfl, by simp, by go_simp⟩)
       match j with
       | 0 | 1 | 2 | 5 | 6 | 7 | 8 | 9 | 12 | 14 => exact h
       | 4 => exact fun h1 => by omega
       | 10 => exact fun hc => by omega
       | 11 => exact fun h1 => by omega
       | 13 => exact fun hc => by omega
       | 3 => exact absurd rfl hj
       | _ + 15 => exact trivial
      ·have e1 : v 1 = _ := hE.1 rfl;rw [e1] at hK ⊢;have E3 := hE.2.1 rfl;obtain ⟨g, e3, hgl, hg0⟩ := E3 rfl;rw [e3] at hK ⊢;have hown := hS.ve (by decide)
       have hcell : ∀ j u, ([.slice A6 np c6] : List Value)[j]? = some u → wz.cell? ((⟨g, 0, none⟩ : Addr).add j) = some u := fun j u hj => by
        match j, hj with
        | 0, hj => simp at hj; rw [← hj, Addr.add_lit]; exact hg0
       have hzz := hS.kf.size;have HX := Lib.hid hS;clear hS hE E3;go_wp2_with (at_builtin; refine appI_at rfl _ _ 31 rfl (w.heap.size + 1) 53 is (.slice none 0 0) 1 24 Tryz.underlying31 his he0 he1 he2 rfl (by decide) _ i gv rfl hown ⟨g, 0, none⟩ 1 1 [.slice A6 np c6] rfl rfl hcell (by intro u hu; simp at hu; subst hu; rfl) (by unfold maxLen; omega) (by omega) (by omega) ?_)
       intro v' wx hown1 hg1 hfr;obtain ⟨A', c', rfl, -, -⟩ := own_form hown1;have hfr2 : Fresh (.slice A' (i + 1) c') (.slice AE i cE) wr.heap.size := hfr.imp id fun ⟨g, h1, h2⟩ => ⟨g, h1, Nat.le_trans hzz h2⟩;refine hK.out _ _ (fun j z hj h => ?_) (HX.out.apE hg1) (fun _ _ => ⟨⟨A', c', rfl⟩, hown1, hfr2⟩)
       match j with
       | 0 | 1 | 2 | 5 | 6 | 7 | 8 | 9 | 12 | 14 => exact h
       | 3 => exact fun hc => by omega
       | 10 => exact fun hc => by omega
       | 11 => exact fun h1 => by omega
       | 13 => exact fun hc => by omega
       | 4 => exact absurd rfl hj
       | _ + 15 => exact trivial
      ·have HX := Lib.hid hS;clear hS hE hlo;go_wp2_with fail;exact hK.out _ rfl
      ·have e5 : v 5 = _ := hE.1 rfl;rw [e5] at hK ⊢;have hc4 := hlo 4 (by kernel_rfl)
       have c1 := (World.cell?_of_block (a := ⟨w.heap.size + 1, 1, none⟩) (hS.bx (by omega))).trans xn1
       have l1 : w.heap.size + 1 < wz.heap.size := by have := hS.kf.size; omega
       clear hc4;have HX := Lib.hid hS;clear hS hE hlo;go_wp2_with fail;exact hK.out _ rfl
      ·have HX := Lib.hid hS;clear hS hE hlo;go_wp2_with fail;exact hK.out _ rfl
      ·have e7 : v 7 = _ := hE.1 rfl;rw [e7] at hK ⊢;have HX := Lib.hid hS;clear hS hE;go_wp2_with fail;refine (next_any b 3 wz (by decide) (by decide) HX.out.tp).mono ?_
       rintro e wy ⟨r, rfl, hr0, hr1, hty, hfy⟩;have HY := Lib.hid (And.intro hty hfy);clear hty hfy hr0 hr1;go_wp2_with fail;refine hK.out _ _ (fun j z hj h => ?_) (HX.out.nxt HY.out.2 HY.out.1 (by decide)) ⟨r, rfl⟩
       match j with
       | 0 | 1 | 2 | 5 | 6 | 7 | 9 | 12 | 14 => exact h
       | 3 => exact fun hc => by omega
       | 4 => exact FEo.nxt h HY.out.2 HX.out.bB (by decide) (by decide)
       | 10 => exact fun hc => by omega
       | 11 => exact fun h1 => by omega
       | 13 => exact fun hc => by omega
       | 8 => exact absurd rfl hj
       | _ + 15 => exact trivial
      ·have E8 := hE.1 rfl;obtain ⟨r, e8⟩ := E8;rw [e8] at hK ⊢;have HX := Lib.hid hS;clear hS hE hlo;go_wp2_with fail;exact hK.out _ ⟨_, rfl⟩
      ·have E9 := hE.1 rfl;obtain ⟨q, e9⟩ := E9;rw [e9] at hK ⊢;have HX := Lib.hid hS;clear hS hE;go_wp2_with fail;have hbz : Below wz.heap.size wz (wz.alloc (.cells #[.bool q] 4)) := (Below.refl _ _).alloc (Nat.le_refl _) _;refine hK.out _ _ (fun j z hj h => ?_) (HX.out.bel hbz (by decide)) (fun _ => ⟨wz.heap.size, q, rfl, by simp, by go_simp⟩)
       match j with
       | 0 | 1 | 2 | 5 | 6 | 7 | 8 | 9 | 12 | 14 => exact h
       | 3 => exact fun hc => by omega
       | 4 => exact FEo.bel h hbz (by decide) (by decide)
       | 11 => exact fun h1 => by omega
       | 13 => exact fun hc => by omega
       | 10 => exact absurd rfl hj
       | _ + 15 => exact trivial
      ·have e6 : v 6 = _ := hE.1 rfl;rw [e6] at hK ⊢;have E10 := hE.2.1 rfl;obtain ⟨g, q, e10, hgl, hg0⟩ := E10 rfl;rw [e10] at hK ⊢;have hown := hS.va (by decide)
       have hcell : ∀ j u, ([.bool q] : List Value)[j]? = some u → wz.cell? ((⟨g, 0, none⟩ : Addr).add j) = some u := fun j u hj => by
        match j, hj with
        | 0, hj => simp at hj; rw [← hj, Addr.add_lit]; exact hg0
       have hzz := hS.kf.size;have HX := Lib.hid hS;have HOA := Lib.hid hown;clear hS hE E10;go_wp2_with (at_builtin; refine appI_at rfl _ _ 32 rfl (w.heap.size + 1) 4 ib (.bool false) 1 1 Tryz.underlying32 hib hb0' hb1 hb2 rfl (by decide) _ i (rowF bC acs) rfl hown ⟨g, 0, none⟩ 1 1 [.bool q] rfl rfl hcell (by intro u hu; simp at hu; subst hu; rfl) (by unfold maxLen; omega) (by omega) (by omega) ?_)
       intro v' wx hown1 hg1 hfr;obtain ⟨A', c', rfl, -, -⟩ := own_form hown1;have hfr2 : Fresh (.slice A' (i + 1) c') (.slice AK i cA) wr.heap.size := hfr.imp id fun ⟨g, h1, h2⟩ => ⟨g, h1, Nat.le_trans hzz h2⟩;refine hK.out _ _ (fun j z hj h => ?_) (HX.out.apA hg1) (fun _ => ⟨⟨A', c', rfl⟩, ⟨q, hown1⟩, hfr2⟩)
       match j with
       | 0 | 1 | 2 | 5 | 6 | 7 | 8 | 9 | 12 | 14 => exact h
       | 3 => exact fun hc => by omega
       | 4 => exact FEo.apA h HOA.out hg1 (by decide) (by decide)
       | 10 => exact fun hc => by omega
       | 13 => exact fun hc => by omega
       | 11 => exact absurd rfl hj
       | _ + 15 => exact trivial
      ·have HX := Lib.hid hS;clear hS hE hlo;go_wp2_with fail;exact hK.out _ rfl
      ·have e12 : v 12 = _ := hE.1 rfl;rw [e12] at hK ⊢;have E4 := hE.2.1 rfl;obtain ⟨⟨A4, c4, e4⟩, o4, f4⟩ := id E4 (by decide) (by decide)
       rw [e4] at hK E4 ⊢;have hrow := (hS.bx (by decide)).trans HNR.out
       have cz : wz.cell? ⟨w.heap.size + 1, 0, none⟩ = some (.slice AE i cE) := by rw [cell_of_row _ _ _ _ _ _ hrow]; rfl
       have fz : wz.frozen? ⟨w.heap.size + 1, 0, none⟩ = false := by simp [World.frozen?, hrow]
       have HX := Lib.hid hS;have HO := Lib.hid (And.intro E4 hrow);clear hS hE o4 f4 hrow e4 E4;go_wp2_with fail;refine hK.out undef _ (fun j z hj h => ?_) HX.out.set (FBo.set HO.out.1 HO.out.2)
       match j with
       | 0 | 1 | 2 | 5 | 6 | 7 | 8 | 9 | 12 | 14 => exact h
       | 3 => exact fun hc => by omega
       | 4 => exact fun _ h1 => by omega
       | 10 => exact fun hc => by omega
       | 11 => exact FAo.set h HO.out.2
       | 13 => exact absurd rfl hj
       | _ + 15 => exact trivial
      ·have HX := Lib.hid hS;clear hS hE hlo;go_wp2_with fail;exact hK.out _ rfl
     ·intro v wz hS hF;have e0 : v 0 = _ := hF 0 (by decide)
      have e1 : v 1 = _ := hF 1 (by decide)
      have e2 : v 2 = _ := hF 2 (by decide)
      have e5 : v 5 = _ := hF 5 (by decide)
      have e6 : v 6 = _ := hF 6 (by decide)
      have e7 : v 7 = _ := hF 7 (by decide)
      have e12 : v 12 = _ := hF 12 (by decide)
      have e14 : v 14 = _ := hF 14 (by decide)
      have E3 := hF 3 (by decide)
      have E4 := hF 4 (by decide)
      have E8 := hF 8 (by decide)
      have E9 := hF 9 (by decide)
      have E10 := hF 10 (by decide)
      have E11 := hF 11 (by decide)
      have E13 := hF 13 (by decide)
      simp only [putAll, Act.put, pq1, pq2, pq3, Nat.zero_add, Nat.reduceAdd, pq4, pq5, List.drop_succ_cons, List.drop_zero, e0, e1, e2, e5, e6, e7, e12, e14];clear hF e0 e1 e2 e5 e6 e7 e12 e14;have h13 := E13;have h11 := E11;obtain ⟨⟨A8, c8, e8⟩, -, -⟩ := id E11 (by decide)
      rw [e8] at h11 ⊢;obtain ⟨x4, -, -, hbx⟩ := id E13 rfl;have cz1 : wz.cell? ⟨w.heap.size + 1, 1, none⟩ = some (.slice AK i cA) := by rw [cell_of_row _ _ _ _ _ _ hbx]; rfl
      have fz1 : wz.frozen? ⟨w.heap.size + 1, 1, none⟩ = false := by simp [World.frozen?, hbx]
      have lNz : w.heap.size + 1 < wz.heap.size := (Array.getElem?_eq_some_iff.1 hbx).1;have hrow : OR 58 3 edC w2.heap.size (.slice A6 np c6) p wr := by have := HW.out.2.2; rw [HP.out] at this; exact this
      obtain ⟨x5, q, hmm, hkk, htt⟩ := hS.done h13 h11 HOr.out.rl HOr.out.al (EdIn.of_OR hrow) (fun g hg hm => by have h1 := (World.ownsRow.lt hrow g hg).1; have h2 := (HO2.out.mm.lt g hm).2; omega) (fun g hg => by have h1 := World.ownsRow.lt hrow g hg; have := (Array.getElem?_eq_some_iff.1 HO2.out.mm.hN).1; omega)
      have HST := Lib.hid (HOr.out.step hbl hmm hkk htt (show p.length ≤ 3 by have := HP.out; omega) HI.out (B2 := w2.heap.size) (fun k hk => (HO2.out.mm.lt k hk).2) (fun i' u hu g hg => by obtain ⟨u', h1, -, -, -, h5⟩ := HO2.out.mm.gvs i' (by have := (List.getElem?_eq_some_iff.1 hu).1; have := HO2.out.mm.own.1; omega); rw [hu] at h1; obtain rfl := Option.some.inj h1; exact (h5 g hg).2) (by have := (Array.getElem?_eq_some_iff.1 HO2.out.mm.hN).1; omega) hrow)
      clear hS E3 E4 E8 E9 E10 E11 E13 h13 h11 e8 hbx hrow hmm hkk htt;go_wp2_with fail;go_roundw
      case measure => simp [intOf]; omega
      case rel => exact ⟨i + 1, by omega, by go_num, _, _, _, _, _, HST.out⟩
    | succ q =>
     have hd0 : decide ((0 : Int) < ((q + 1 : Nat) : Int)) = true := decide_eq_true (by omega)
     have hd0n : decide (0 < q + 1) = true := decide_eq_true (by omega)
     by_cases h250 : a < 250
     ·have hd1 : decide ((a : Int) < 250) = true := decide_eq_true (by omega)
      have hd1n : decide (a < 250) = true := decide_eq_true h250;go_wp2_with fail;refine (next_any b 60 wr (by decide) (by decide) HW.out.2.1).mono ?_
      rintro e w3 ⟨r, rfl, hr1, hr2, ht3, hf3⟩;obtain ⟨x1, rfl⟩ : ∃ c : Nat, r = (c : Int) := ⟨r.toNat, by omega⟩
      have HW3 := Lib.hid (And.intro (HW.out.1.trans hf3) (And.intro ht3 (or_fr HW.out.2.2 hf3 hbl2)));have hx1 : x1 < 60 := by omega
      have hw1 : IntKind.i64.wrap ((a : Int) + (x1 : Int)) = ((a + x1 : Nat) : Int) := by rw [IntWalk.i64_in _ (by omega)]; omega
      clear ht3 hf3 hr1 hr2;go_wp2_with fail;refine (next_any b 60 w3 (by decide) (by decide) HW3.out.2.1).mono ?_
      rintro e w4 ⟨r, rfl, hr1, hr2, ht4, hf4⟩;obtain ⟨x2, rfl⟩ : ∃ c : Nat, r = (c : Int) := ⟨r.toNat, by omega⟩
      have HW4 := Lib.hid (And.intro (HW3.out.1.trans hf4) (And.intro ht4 (or_fr HW3.out.2.2 hf4 hbl2)));have hx2 : x2 < 60 := by omega
      have hw2 : IntKind.i64.wrap (((a + x1 : Nat) : Int) + (x2 : Int)) = ((a + x1 + x2 : Nat) : Int) := by rw [IntWalk.i64_in _ (by omega)]; omega
      obtain ⟨lo, hlo⟩ : ∃ x, min 255 (a + x1) = x := ⟨_, rfl⟩;obtain ⟨hi', hhi⟩ : ∃ x, min 255 (a + x1 + x2) = x := ⟨_, rfl⟩;have hm1 : min (255 : Int) ((a : Int) + (x1 : Int)) = (lo : Int) := by omega
      have hm2 : min (255 : Int) ((a : Int) + (x1 : Int) + (x2 : Int)) = (hi' : Int) := by omega
      have HM := Lib.hid (And.intro hlo hhi);have hh256 : hi' < 256 := by omega
      clear ht4 hf4 hr1 hr2 hlo hhi;go_wp2_with fail;refine (next_any b (n : Int) w4 (by omega) (by omega) HW4.out.2.1).mono ?_
      rintro e w5 ⟨r, rfl, hr1, hr2, ht5, hf5⟩;obtain ⟨t, rfl⟩ : ∃ c : Nat, r = (c : Int) := ⟨r.toNat, by omega⟩
      have HW5 := Lib.hid (And.intro (HW4.out.1.trans hf5) (And.intro ht5 (or_fr HW4.out.2.2 hf5 hbl2)));have hI2 := HI.out.step h250 hx1 hx2 (t := t) (by omega)
      rw [HM.out.1, HM.out.2] at hI2;have HI2 := Lib.hid hI2;have hown := HW5.out.2.2;have hws : w2.heap.size ≤ w5.heap.size := HW5.out.1.size;clear ht5 hf5 hr1 hr2 hI2;go_wp2_with (at_builtin; refine app_one edC_E Tryz.underlying53 hie hke0 hke1 hke2 rfl (by decide) _ _ _ _ p ⟨lo, hi', t⟩ _ w2.heap.size rfl rfl rfl rfl rfl hown (by omega) hws ?_; intro v6 w6 hown6 hb6)
      have HW6 := Lib.hid (And.intro (fr_low HW5.out.1 hb6) (And.intro (HW5.out.2.1.below' hb6 hbl2) hown6));clear hown hown6 hb6;go_wp2_with fail
      go_roundg q
      case measure => omega
      case rel => exact ⟨hi' + 1, p ++ [⟨lo, hi', t⟩], by go_num, by go_num, by simp; omega, by omega, HI2, HW6⟩
     ·have hd1 : decide ((a : Int) < 250) = false := decide_eq_false (by omega)
      have hd1n : decide (a < 250) = false := decide_eq_false h250;obtain ⟨np, hnp⟩ : ∃ k, p.length = k := ⟨_, rfl⟩;rw [hnp] at hpq ⊢;have HP := Lib.hid hnp;have hOr := HO2.out.next hbl HW.out.2.1 HW.out.1;obtain ⟨AE, cE, eE, -, -⟩ := own_form hOr.mm.own;rw [hOr.rl] at eE;obtain ⟨AK, cA, eA, -, -⟩ := own_form (show wr.ownsRow _ _ _ _ _ _ from hOr.mm.acc);rw [hOr.al] at eA;subst eE eA;have hN := hOr.mm.hN;obtain ⟨xn0, xn1⟩ : wr.cell? ⟨w.heap.size + 1, 0, none⟩ = some (.slice AE i cE) ∧ wr.cell? ⟨w.heap.size + 1, 1, none⟩ = some (.slice AK i cA) := by constructor <;> (rw [cell_of_row _ _ _ _ _ _ hN]; rfl)
      have lN : w.heap.size + 1 < wr.heap.size := (Array.getElem?_eq_some_iff.1 hN).1;have hbr : Below wr.heap.size wr wr.drew := (Below.refl _ _).drew;have hS0 : StO b (w.heap.size + 1) (w.heap.size + 1) i (.slice AE i cE) (.slice AK i cA) gv rs acs wr 0 wr.drew :=
       StO.bel (c := 0) (w := wr) ⟨hOr.mm, by omega, kf_bel (Below.refl _ _), hOr.tp, fun _ => rfl, fun _ => by have := hOr.mm.own; rwa [hOr.rl] at this, fun _ => by have : wr.ownsRow _ _ _ _ _ _ := hOr.mm.acc; rwa [hOr.al] at this⟩ hbr (Nat.le_refl _)
      have HNR := Lib.hid hN;have HOr := Lib.hid hOr;have hn5' : i < 5 := by omega
      clear hN hOr hnp hbr;go_wp2_with fail;refine wp_region_chain 15 [3, 4, 8, 10, 11, 13] (factO15 b (w.heap.size + 1) (w.heap.size + 1) i cE cA AE AK gv acs (.slice A6 np c6) wr) (fun c w' => StO b (w.heap.size + 1) (w.heap.size + 1) i (.slice AE i cE) (.slice AK i cA) gv rs acs wr c w') (by kernel_rfl) (by kernel_rfl) (by kernel_rfl) (by kernel_rfl) (by kernel_rfl) (by kernel_rfl) (by decide) hS0 ?_ ?_
      ·simp only [pq4, pq5];refine HSteps.pure (by decide) ?_ (HSteps.pure (by decide) ?_ (HSteps.pure (by decide) ?_ (HSteps.eff 0 rfl ?_ (HSteps.eff 1 rfl ?_ (HSteps.pure (by decide) ?_ (HSteps.pure (by decide) ?_ (HSteps.pure (by decide) ?_ (HSteps.eff 2 rfl ?_ (HSteps.pure (by decide) ?_ (HSteps.eff 3 rfl ?_ (HSteps.eff 4 rfl ?_ (HSteps.pure (by decide) ?_ (HSteps.eff 5 rfl ?_ (HSteps.pure (by decide) ?_ (HSteps.nil)))))))))))))))
       all_goals first | (intro v wz c hlo hS hE K hK;simp only [putAll, Act.put, pq1, pq2, pq3, Nat.zero_add, Nat.reduceAdd, pq4, pq5] at hK ⊢) | (intro v wz hS hE K hK;simp only [putAll, Act.put, pq1, pq2, pq3, Nat.zero_add, Nat.reduceAdd, pq4, pq5] at hK ⊢)
       ·have HX := Lib.hid hS;clear hS hE hlo;go_wp2_with fail;exact hK.out _ rfl
       ·have e0 : v 0 = _ := hE.1 rfl;rw [e0] at hK ⊢;have hc1 := hlo 1 (by kernel_rfl)
        have c1 := (World.cell?_of_block (a := ⟨w.heap.size + 1, 0, none⟩) (hS.bx (by omega))).trans xn0
        have l1 : w.heap.size + 1 < wz.heap.size := by have := hS.kf.size; omega
        clear hc1;have HX := Lib.hid hS;clear hS hE hlo;go_wp2_with fail;exact hK.out _ rfl
       ·have HX := Lib.hid hS;clear hS hE hlo;go_wp2_with fail;exact hK.out _ rfl
       ·have e2 : v 2 = _ := hE.1 rfl;rw [e2] at hK ⊢;have HX := Lib.hid hS;clear hS hE;go_wp2_with fail;have hbz : Below wz.heap.size wz (wz.alloc (.cells #[.slice A6 np c6] 53)) := (Below.refl _ _).alloc (Nat.le_refl _) _;refine hK.out _ _ (fun j z hj h => ?_) (HX.out.bel hbz (by decide)) (fun _ => ⟨wz.heap.size, rfl, by simp, by go_simp⟩)
        match j with
        | 0 | 1 | 2 | 5 | 6 | 7 | 8 | 9 | 12 | 14 => exact h
        | 4 => exact fun h1 => by omega
        | 10 => exact fun hc => by omega
        | 11 => exact fun h1 => by omega
        | 13 => exact fun hc => by omega
        | 3 => exact absurd rfl hj
        | _ + 15 => exact trivial
       ·have e1 : v 1 = _ := hE.1 rfl;rw [e1] at hK ⊢;have E3 := hE.2.1 rfl;obtain ⟨g, e3, hgl, hg0⟩ := E3 rfl;rw [e3] at hK ⊢;have hown := hS.ve (by decide)
        have hcell : ∀ j u, ([.slice A6 np c6] : List Value)[j]? = some u → wz.cell? ((⟨g, 0, none⟩ : Addr).add j) = some u := fun j u hj => by
         match j, hj with
         | 0, hj => simp at hj; rw [← hj, Addr.add_lit]; exact hg0
        have hzz := hS.kf.size;have HX := Lib.hid hS;clear hS hE E3;go_wp2_with (at_builtin; refine appI_at rfl _ _ 31 rfl (w.heap.size + 1) 53 is (.slice none 0 0) 1 24 Tryz.underlying31 his he0 he1 he2 rfl (by decide) _ i gv rfl hown ⟨g, 0, none⟩ 1 1 [.slice A6 np c6] rfl rfl hcell (by intro u hu; simp at hu; subst hu; rfl) (by unfold maxLen; omega) (by omega) (by omega) ?_)
        intro v' wx hown1 hg1 hfr;obtain ⟨A', c', rfl, -, -⟩ := own_form hown1;have hfr2 : Fresh (.slice A' (i + 1) c') (.slice AE i cE) wr.heap.size := hfr.imp id fun ⟨g, h1, h2⟩ => ⟨g, h1, Nat.le_trans hzz h2⟩;refine hK.out _ _ (fun j z hj h => ?_) (HX.out.apE hg1) (fun _ _ => ⟨⟨A', c', rfl⟩, hown1, hfr2⟩)
        match j with
        | 0 | 1 | 2 | 5 | 6 | 7 | 8 | 9 | 12 | 14 => exact h
        | 3 => exact fun hc => by omega
        | 10 => exact fun hc => by omega
        | 11 => exact fun h1 => by omega
        | 13 => exact fun hc => by omega
        | 4 => exact absurd rfl hj
        | _ + 15 => exact trivial
       ·have HX := Lib.hid hS;clear hS hE hlo;go_wp2_with fail;exact hK.out _ rfl
       ·have e5 : v 5 = _ := hE.1 rfl;rw [e5] at hK ⊢;have hc4 := hlo 4 (by kernel_rfl)
        have c1 := (World.cell?_of_block (a := ⟨w.heap.size + 1, 1, none⟩) (hS.bx (by omega))).trans xn1
        have l1 : w.heap.size + 1 < wz.heap.size := by have := hS.kf.size; omega
        clear hc4;have HX := Lib.hid hS;clear hS hE hlo;go_wp2_with fail;exact hK.out _ rfl
       ·have HX := Lib.hid hS;clear hS hE hlo;go_wp2_with fail;exact hK.out _ rfl
       ·have e7 : v 7 = _ := hE.1 rfl;rw [e7] at hK ⊢;have HX := Lib.hid hS;clear hS hE;go_wp2_with fail;refine (next_any b 3 wz (by decide) (by decide) HX.out.tp).mono ?_
        rintro e wy ⟨r, rfl, hr0, hr1, hty, hfy⟩;have HY := Lib.hid (And.intro hty hfy);clear hty hfy hr0 hr1;go_wp2_with fail;refine hK.out _ _ (fun j z hj h => ?_) (HX.out.nxt HY.out.2 HY.out.1 (by decide)) ⟨r, rfl⟩
        match j with
        | 0 | 1 | 2 | 5 | 6 | 7 | 9 | 12 | 14 => exact h
        | 3 => exact fun hc => by omega
        | 4 => exact FEo.nxt h HY.out.2 HX.out.bB (by decide) (by decide)
        | 10 => exact fun hc => by omega
        | 11 => exact fun h1 => by omega
        | 13 => exact fun hc => by omega
        | 8 => exact absurd rfl hj
        | _ + 15 => exact trivial
       ·have E8 := hE.1 rfl;obtain ⟨r, e8⟩ := E8;rw [e8] at hK ⊢;have HX := Lib.hid hS;clear hS hE hlo;go_wp2_with fail;exact hK.out _ ⟨_, rfl⟩
       ·have E9 := hE.1 rfl;obtain ⟨q, e9⟩ := E9;rw [e9] at hK ⊢;have HX := Lib.hid hS;clear hS hE;go_wp2_with fail;have hbz : Below wz.heap.size wz (wz.alloc (.cells #[.bool q] 4)) := (Below.refl _ _).alloc (Nat.le_refl _) _;refine hK.out _ _ (fun j z hj h => ?_) (HX.out.bel hbz (by decide)) (fun _ => ⟨wz.heap.size, q, rfl, by simp, by go_simp⟩)
        match j with
        | 0 | 1 | 2 | 5 | 6 | 7 | 8 | 9 | 12 | 14 => exact h
        | 3 => exact fun hc => by omega
        | 4 => exact FEo.bel h hbz (by decide) (by decide)
        | 11 => exact fun h1 => by omega
        | 13 => exact fun hc => by omega
        | 10 => exact absurd rfl hj
        | _ + 15 => exact trivial
       ·have e6 : v 6 = _ := hE.1 rfl;rw [e6] at hK ⊢;have E10 := hE.2.1 rfl;obtain ⟨g, q, e10, hgl, hg0⟩ := E10 rfl;rw [e10] at hK ⊢;have hown := hS.va (by decide)
        have hcell : ∀ j u, ([.bool q] : List Value)[j]? = some u → wz.cell? ((⟨g, 0, none⟩ : Addr).add j) = some u := fun j u hj => by
         match j, hj with
         | 0, hj => simp at hj; rw [← hj, Addr.add_lit]; exact hg0
        have hzz := hS.kf.size;have HX := Lib.hid hS;have HOA := Lib.hid hown;clear hS hE E10;go_wp2_with (at_builtin; refine appI_at rfl _ _ 32 rfl (w.heap.size + 1) 4 ib (.bool false) 1 1 Tryz.underlying32 hib hb0' hb1 hb2 rfl (by decide) _ i (rowF bC acs) rfl hown ⟨g, 0, none⟩ 1 1 [.bool q] rfl rfl hcell (by intro u hu; simp at hu; subst hu; rfl) (by unfold maxLen; omega) (by omega) (by omega) ?_)
        intro v' wx hown1 hg1 hfr;obtain ⟨A', c', rfl, -, -⟩ := own_form hown1;have hfr2 : Fresh (.slice A' (i + 1) c') (.slice AK i cA) wr.heap.size := hfr.imp id fun ⟨g, h1, h2⟩ => ⟨g, h1, Nat.le_trans hzz h2⟩;refine hK.out _ _ (fun j z hj h => ?_) (HX.out.apA hg1) (fun _ => ⟨⟨A', c', rfl⟩, ⟨q, hown1⟩, hfr2⟩)
        match j with
        | 0 | 1 | 2 | 5 | 6 | 7 | 8 | 9 | 12 | 14 => exact h
        | 3 => exact fun hc => by omega
        | 4 => exact FEo.apA h HOA.out hg1 (by decide) (by decide)
        | 10 => exact fun hc => by omega
        | 13 => exact fun hc => by omega
        | 11 => exact absurd rfl hj
        | _ + 15 => exact trivial
       ·have HX := Lib.hid hS;clear hS hE hlo;go_wp2_with fail;exact hK.out _ rfl
       ·have e12 : v 12 = _ := hE.1 rfl;rw [e12] at hK ⊢;have E4 := hE.2.1 rfl;obtain ⟨⟨A4, c4, e4⟩, o4, f4⟩ := id E4 (by decide) (by decide)
        rw [e4] at hK E4 ⊢;have hrow := (hS.bx (by decide)).trans HNR.out
        have cz : wz.cell? ⟨w.heap.size + 1, 0, none⟩ = some (.slice AE i cE) := by rw [cell_of_row _ _ _ _ _ _ hrow]; rfl
        have fz : wz.frozen? ⟨w.heap.size + 1, 0, none⟩ = false := by simp [World.frozen?, hrow]
        have HX := Lib.hid hS;have HO := Lib.hid (And.intro E4 hrow);clear hS hE o4 f4 hrow e4 E4;go_wp2_with fail;refine hK.out undef _ (fun j z hj h => ?_) HX.out.set (FBo.set HO.out.1 HO.out.2)
        match j with
        | 0 | 1 | 2 | 5 | 6 | 7 | 8 | 9 | 12 | 14 => exact h
        | 3 => exact fun hc => by omega
        | 4 => exact fun _ h1 => by omega
        | 10 => exact fun hc => by omega
        | 11 => exact FAo.set h HO.out.2
        | 13 => exact absurd rfl hj
        | _ + 15 => exact trivial
       ·have HX := Lib.hid hS;clear hS hE hlo;go_wp2_with fail;exact hK.out _ rfl
      ·intro v wz hS hF;have e0 : v 0 = _ := hF 0 (by decide)
       have e1 : v 1 = _ := hF 1 (by decide)
       have e2 : v 2 = _ := hF 2 (by decide)
       have e5 : v 5 = _ := hF 5 (by decide)
       have e6 : v 6 = _ := hF 6 (by decide)
       have e7 : v 7 = _ := hF 7 (by decide)
       have e12 : v 12 = _ := hF 12 (by decide)
       have e14 : v 14 = _ := hF 14 (by decide)
       have E3 := hF 3 (by decide)
       have E4 := hF 4 (by decide)
       have E8 := hF 8 (by decide)
       have E9 := hF 9 (by decide)
       have E10 := hF 10 (by decide)
       have E11 := hF 11 (by decide)
       have E13 := hF 13 (by decide)
       simp only [putAll, Act.put, pq1, pq2, pq3, Nat.zero_add, Nat.reduceAdd, pq4, pq5, List.drop_succ_cons, List.drop_zero, e0, e1, e2, e5, e6, e7, e12, e14];clear hF e0 e1 e2 e5 e6 e7 e12 e14;have h13 := E13;have h11 := E11;obtain ⟨⟨A8, c8, e8⟩, -, -⟩ := id E11 (by decide)
       rw [e8] at h11 ⊢;obtain ⟨x4, -, -, hbx⟩ := id E13 rfl;have cz1 : wz.cell? ⟨w.heap.size + 1, 1, none⟩ = some (.slice AK i cA) := by rw [cell_of_row _ _ _ _ _ _ hbx]; rfl
       have fz1 : wz.frozen? ⟨w.heap.size + 1, 1, none⟩ = false := by simp [World.frozen?, hbx]
       have lNz : w.heap.size + 1 < wz.heap.size := (Array.getElem?_eq_some_iff.1 hbx).1;have hrow : OR 58 3 edC w2.heap.size (.slice A6 np c6) p wr := by have := HW.out.2.2; rw [HP.out] at this; exact this
       obtain ⟨x5, q, hmm, hkk, htt⟩ := hS.done h13 h11 HOr.out.rl HOr.out.al (EdIn.of_OR hrow) (fun g hg hm => by have h1 := (World.ownsRow.lt hrow g hg).1; have h2 := (HO2.out.mm.lt g hm).2; omega) (fun g hg => by have h1 := World.ownsRow.lt hrow g hg; have := (Array.getElem?_eq_some_iff.1 HO2.out.mm.hN).1; omega)
       have HST := Lib.hid (HOr.out.step hbl hmm hkk htt (show p.length ≤ 3 by have := HP.out; omega) HI.out (B2 := w2.heap.size) (fun k hk => (HO2.out.mm.lt k hk).2) (fun i' u hu g hg => by obtain ⟨u', h1, -, -, -, h5⟩ := HO2.out.mm.gvs i' (by have := (List.getElem?_eq_some_iff.1 hu).1; have := HO2.out.mm.own.1; omega); rw [hu] at h1; obtain rfl := Option.some.inj h1; exact (h5 g hg).2) (by have := (Array.getElem?_eq_some_iff.1 HO2.out.mm.hN).1; omega) hrow)
       clear hS E3 E4 E8 E9 E10 E11 E13 h13 h11 e8 hbx hrow hmm hkk htt;go_wp2_with fail;go_roundw
       case measure => simp [intOf]; omega
       case rel => exact ⟨i + 1, by omega, by go_num, _, _, _, _, _, HST.out⟩
  ·obtain rfl : i = n := by omega
   have hd : decide ((i : Int) < (i : Int)) = false := decide_eq_false (by omega)
   have hdn : decide (i < i) = false := decide_eq_false (by omega)
   obtain ⟨vE, vA, gv, rs, acs, hO⟩ := HO.out;have HOW := Lib.hid hO;clear hO;obtain ⟨ve, va, ee, he, ha⟩ := HOW.out.mm.mcIn;injection ee with ee;simp only [Array.mk.injEq, List.cons.injEq, and_true] at ee;obtain ⟨rfl, rfl⟩ := ee;obtain ⟨A9, c9, e9, -⟩ := he.form;obtain ⟨B9, d9, f9, -⟩ := ha.form;generalize (⟨rs, acs⟩ : Mc).ed.length = n9 at *;generalize (⟨rs, acs⟩ : Mc).ac.length = m9 at *;subst e9 f9;have hN := HOW.out.mm.hN;have hR := HOW.out.res;obtain ⟨b0, b1⟩ : wr.cell? ⟨w.heap.size + 1, 0, none⟩ = some (.slice A9 n9 c9) ∧ wr.cell? ⟨w.heap.size + 1, 1, none⟩ = some (.slice B9 m9 d9) := by constructor <;> (rw [cell_of_row _ _ _ _ _ _ hN]; rfl)
   obtain ⟨rz0, rz1⟩ : wr.cell? ⟨w.heap.size, 0, none⟩ = some (.slice none 0 0) ∧ wr.cell? ⟨w.heap.size, 1, none⟩ = some (.slice none 0 0) := by constructor <;> (rw [cell_of_row _ _ _ _ _ _ hR]; rfl)
   have gz0 : wr.frozen? ⟨w.heap.size, 0, none⟩ = false := by simp [World.frozen?, hR]
   have gz1 : wr.frozen? ⟨w.heap.size, 1, none⟩ = false := by simp [World.frozen?, hR]
   have lN : w.heap.size + 1 < wr.heap.size := (Array.getElem?_eq_some_iff.1 hN).1;have lR : w.heap.size < wr.heap.size := by omega
   clear he ha hN hR HO;go_wp2_with fail;refine post_named fun Wf hWf => ?_;refine bodyPost_ret (v := .agg #[.slice A9 n9 c9, .slice B9 m9 d9]) (by rw [hWf]; simp [results, Tryz.results19, go_sem, rz0, rz1, lR]; try rfl) rfl ?_
   have hkl : KeepF [w.heap.size] [] wr Wf := by
    rw [hWf];have hne : ∀ k, k ∉ [w.heap.size] → k ≠ w.heap.size := fun k hn e => hn (List.mem_singleton.2 e);exact ⟨rfl, rfl, rfl, by simp [World.setCell], fun k _ hn => (Below.heap_setCell (wr.setCell ⟨w.heap.size, 0, none⟩ _) ⟨w.heap.size, 1, none⟩ _ k (hne k hn)).trans (Below.heap_setCell wr ⟨w.heap.size, 0, none⟩ _ k (hne k hn)), fun k hk => by cases hk⟩
   have hup := (HOW.out.mm.low hkl (fun k hk => by rw [List.mem_singleton] at hk; omega)).up.mono (show w.heap.size ≤ w.heap.size + 1 by omega)
   have hbf : Below w.heap.size wr Wf := hkl.below (fun k hk => by rw [List.mem_singleton] at hk; omega) (by omega)
   obtain ⟨hv, hsm⟩ := own_vld HOW.out.rl HOW.out.al HOW.out.rok hn5;have hl : rs.length = i := HOW.out.rl;have hkeep : ∀ g, w.heap.size + 1 ≤ g → g < wr.heap.size → Wf.heap[g]? = wr.heap[g]? := fun g h1 h2 => hkl.blk g h2 (fun e => by rw [List.mem_singleton] at e; omega)
   have hR : OwR w.heap.size Wf (.agg #[.slice A9 n9 c9, .slice B9 m9 d9]) ⟨rs, acs⟩ := by
    have hE := own_same HOW.out.mm.own fun g hg => hkeep g (HOW.out.mm.own.lt g hg).1 (HOW.out.mm.own.lt g hg).2;have hA : OR 4 1 bC (w.heap.size + 1) (.slice B9 m9 d9) acs Wf := OR.keep HOW.out.mm.acc fun g hg => hkeep g (World.ownsRow.lt HOW.out.mm.acc g hg).1 (World.ownsRow.lt HOW.out.mm.acc g hg).2;refine ⟨_, _, gv, rfl, own_monoO hE (Nat.le_succ _), hA.mono (Nat.le_succ _), fun i' r hi => ?_, HOW.out.dst, fun i' hi => ⟨rs[i'], List.getElem?_eq_getElem hi, (HOW.out.rok _ (List.getElem_mem hi)).1⟩⟩;obtain ⟨u, h1, h2⟩ := HOW.out.rws i' r hi;exact ⟨u, h1, OR.mono (OR.keep h2 fun g hg => hkeep g (World.ownsRow.lt h2 g hg).1 (World.ownsRow.lt h2 g hg).2) (Nat.le_succ _)⟩
   exact ⟨_, ⟨rs, acs⟩, rfl, hup, hv, hsm, ⟨by show 1 ≤ rs.length; omega, by show rs.length ≤ 5; omega⟩, HOW.out.tp.below' hbf hbl, fr_low' HOW.out.fr hbf, hR⟩
theorem own_any (b : Nat) (w : World) (ht : TapeOK b w) : Calls Tryz.prog 19 #[.pointer (some ⟨b, 0, none⟩)] w (OwPost b w) :=
 (own2_any b w ht).mono fun e w' ⟨rv, m, h1, h2, h3, h4, h5, h6, h7, _⟩ => ⟨rv, m, h1, h2, h3, h4, h5, h6, h7⟩
end Go.Proofs.YtjhmipidmpmlmaaGreatDoor
namespace Go.Proofs.YtjhmipidmpmlmaaGreatDoor
set_option linter.unusedVariables false
set_option linter.unusedSimpArgs false
set_option maxRecDepth 100000
open Go.RowKit
open Go.Maps (Keyed)
def mcNil : Value := .agg #[.slice none 0 0, .slice none 0 0]
def CmPost (nd : Nd) (w : World) (e : Ending) (w' : World) : Prop :=
 Below w.heap.size w w' ∧
 ((validF nd ≠ 0 ∧ e = .returned (.tuple #[mcNil, .int .i64 (validF nd)])) ∨
  (validF nd = 0 ∧ 600 < posF nd ∧ e = .returned (.tuple #[mcNil, .int .i64 3])) ∨
  (validF nd = 0 ∧ posF nd ≤ 600 ∧ ∃ b x gs rows acs i, Wr ⟨[], []⟩ b x (langN nd) ∧ b.fol.length = posF nd ∧ (∀ rs ∈ b.sets, ∀ r ∈ rs, r.2 < 256) ∧ CmI b x gs rows acs i ∧
   ((2000 < gs.length ∧ e = .returned (.tuple #[mcNil, .int .i64 3])) ∨ (i = gs.length ∧ gs.length ≤ 2000 ∧ ∃ rv m', e = .returned (.tuple #[rv, .int .i64 0]) ∧ McUp w.heap.size w' rv m' ∧ LeOK ⟨rows, acs⟩ m'))))
theorem own_row1 {w : World} {B n : Nat} {e : TypeId} {v : Value} {xs : List Value} (h : w.ownsRow B e 1 v n xs) (hn : 0 < n) : ∃ g c, v = .slice (some ⟨g, 0, none⟩) n c ∧ (n ≤ c ∧ c ≤ 9223372036854775807) ∧ v.ownBlock = some g ∧ g < w.heap.size ∧ ∀ i, i < n → w.cell? ⟨g, i, none⟩ = xs[i]? := by
 obtain ⟨A, c, rfl, h1, h2⟩ := own_form h;obtain ⟨g, rfl, -, h3, h4⟩ := own_at1 h hn;exact ⟨g, c, rfl, ⟨h1, h2⟩, rfl, h3, h4⟩
theorem cp_start {w0 : World} {s mb : Nat} {x2 v2 vs vf : Value} {b : Pb} {rows sv : List Value} {w w' : World} (hb : BuS w0 s x2 (.map (some mb)) (.slice none 0 0) b vs vf rows sv w) (hk : KeepF [s] [] w w')
  (hcs : w'.heap[s]? = some (.cells #[vs, vf, v2, .map (some mb), .slice none 0 0] 70 (0, 0))) (hm : MV Tryz.prog 9 mb 0 (fun _ => none) w') (hmB : w0.heap.size ≤ mb) (hmw : mb < w.heap.size) (h1 : 0 < b.fol.length) (h2 : 0 < b.sets.length) :
  SbI w0.heap.size s mb vs vf v2 [] (fpG s mb (.slice none 0 0)) w' ∧ SetC w0 (fpG s mb (.slice none 0 0)) w' vs b.sets ∧ FolC (fpG s mb (.slice none 0 0)) w' vf b.fol ∧ Below w0.heap.size w0 w' := by
 have hlt := hb.lt;have hsl : s < w.heap.size := (hlt s (by simp [fpS])).2
 have hnd := hb.nd;rw [List.nodup_cons] at hnd;have hsm : s ≠ mb := by
  rintro rfl;obtain ⟨D, ⟨es, c, q1, -⟩, -⟩ := hm;rw [hcs] at q1;injection q1 with q1
  cases q1
 have hmap : ∀ {B k n : Nat} {e : TypeId} {v : Value} {xs : List Value}, w.ownsRow B e k v n xs → v.ownBlock ≠ some mb := fun {B k n e v xs} ho hv => by
  obtain ⟨cs, md, q2⟩ := own_type ho mb hv;have q3 := (hk.blk mb hmw (by simp; exact fun e => hsm e.symm)).trans q2
  obtain ⟨D, ⟨es, c, q1, -⟩, -⟩ := hm;rw [q3] at q1;injection q1 with q1
  cases q1
 have hfp : ∀ g, g ∈ fpG s mb (.slice none 0 0) ↔ g = s ∨ g = mb := fun g => by simp [fpG, blk, Value.ownBlock]
 have hs' : ∀ g, g ≠ s → g ∉ [s] := fun g h hm => h (List.mem_singleton.1 hm);obtain ⟨gS, cS, rfl, hcS, hoS, hgS, hcellS⟩ := own_row1 hb.sets h2;obtain ⟨gF, cF, rfl, hcF, hoF, hgF, hcellF⟩ := own_row1 hb.fol h1;have nS : gS ≠ s := fun e => hnd.1 (by rw [← e]; exact List.mem_append_left _ (mem_blk.2 hoS))
 have nF : gF ≠ s := fun e => hnd.1 (by rw [← e]; exact List.mem_append_right _ (List.mem_append_left _ (mem_blk.2 hoF)))
 have mS : gS ≠ mb := fun e => hmap hb.sets (by rw [hoS, e])
 have mF : gF ≠ mb := fun e => hmap hb.fol (by rw [hoF, e])
 refine ⟨⟨.slice none 0 0, [], fun _ => none, rfl, ⟨hsm, by simp [Value.ownBlock], by simp [Value.ownBlock]⟩, ⟨hb.hs, hmB, Nat.le_trans hb.bel.size hk.size⟩, hcs, hm, fun l => rfl, World.ownsRow_nil _ _ _ _, fun i hi => (by cases hi)⟩, ?_, ?_, ?_⟩
 ·refine ⟨_, cS, rfl, hcS, .inr ⟨gS, rfl, Nat.lt_of_lt_of_le hgS hk.size, fun h => by rcases (hfp gS).1 h with h | h; exact nS h; exact mS h, fun i hi => ?_⟩⟩
  obtain ⟨v, q1, q2, -⟩ := hb.setv i hi;refine ⟨v, (World.cell?_of_block (a := ⟨gS, i, none⟩) (hk.blk gS hgS (hs' _ nS))).trans ?_, q2⟩;rw [hcellS i hi, q1]
 ·refine ⟨gF, cF, rfl, hcF, Nat.lt_of_lt_of_le hgF hk.size, fun h => by rcases (hfp gF).1 h with h | h; exact nF h; exact mF h, fun i hi => ?_⟩
  obtain ⟨v, q1, q2⟩ := hb.folv i hi;have nv : v.ownBlock ≠ some s := fun e => hnd.1 (List.mem_append_right _ (List.mem_append_right _ (List.mem_flatMap.2 ⟨v, List.mem_of_getElem? q1, mem_blk.2 e⟩)));have mv : v.ownBlock ≠ some mb := hmap q2;refine ⟨v, (World.cell?_of_block (a := ⟨gF, i, none⟩) (hk.blk gF hgF (hs' _ nF))).trans ?_, (SL.of_own q2).keep (fun g hg hm => nv (by rw [hg, List.mem_singleton.1 hm])) hk, fun g hg hm => ?_, fun k hv => Nat.lt_of_lt_of_le (q2.lt k hv).2 hk.size, fun n c e => ?_⟩
  ·rw [hcellF i hi, q1]
  ·rcases (hfp g).1 hm with h | h
   ·exact nv (by rw [hg, h])
   ·exact mv (by rw [hg, h])
  ·rcases q2.2 with ⟨h3, -⟩ | ⟨g, cap, cur, h3, -⟩
   ·rw [h3] at e; injection e with _ _ e; exact e.symm
   ·rw [h3] at e; injection e with e; cases e
 ·exact hb.bel.trans ⟨hk.os, hk.tape, hk.output, hk.size, fun k hk2 => hk.blk k (by have := hb.bel.size; omega) (fun h => by have := hb.hs; have := List.mem_singleton.1 h; omega)⟩
theorem SetC.weak {w0 : World} {L L' : List Nat} {w : World} {v : Value} {sets : List (List (Nat × Nat))} (h : SetC w0 L w v sets) (hs : ∀ k ∈ L', k ∈ L) : SetC w0 L' w v sets := by
 obtain ⟨A, c, e, hc, h⟩ := h;refine ⟨A, c, e, hc, h.imp id ?_⟩;rintro ⟨g, rfl, hg, hn, hcell⟩;exact ⟨g, rfl, hg, fun hm => hn (hs g hm), hcell⟩
theorem SbI.groups {B s mb : Nat} {v0 v1 v2 : Value} {gs : List (List Nat)} {fp : List Nat} {w : World} (h : SbI B s mb v0 v1 v2 gs fp w) : ∃ A c, w.cell? ⟨s, 4, none⟩ = some (.slice A gs.length c) ∧ (gs.length ≤ c ∧ c ≤ 9223372036854775807) ∧
  ∀ k (hk : k < gs.length), ∃ g v, A = some ⟨g, 0, none⟩ ∧ g < w.heap.size ∧ w.cell? ⟨g, k, none⟩ = some v ∧ IL w v gs[k] ∧ outOf fp v := by
 obtain ⟨vg, gv, F, rfl, h⟩ := h;obtain ⟨A, c, rfl, hc⟩ := own_form h.own;refine ⟨A, c, by rw [cell_of_row _ _ _ _ _ _ h.cs]; rfl, hc, fun k hk => ?_⟩
 obtain ⟨g, rfl, -, hg, hcell⟩ := own_at1 h.own (by omega)
 obtain ⟨v, h1, h2, h3, -⟩ := h.gvs k hk;exact ⟨g, v, rfl, hg, by rw [hcell k hk, h1], h2, h3⟩
def EdF (w0 : World) (s mb : Nat) (v0 v1 v2 : Value) (b : Pb) (gs : List (List Nat)) (fp L : List Nat) (W : World) (x : Value) (w : World) : Prop :=
 ∃ r row gs' fp', SortedF L r ∧ (EdIn w x row ∧ outOf fp' x ∧ ∀ g, x.ownBlock = some g → W.heap.size ≤ g ∧ g < w.heap.size) ∧ SbI w0.heap.size s mb v0 v1 v2 gs' fp' w ∧ KeepF fp fp' W w ∧ RowI b r gs' row 256 ∧ GrowG b r gs gs' ∧ gs'.length ≤ gs.length + 257
theorem EdF.later {w0 : World} {s mb : Nat} {v0 v1 v2 : Value} {b : Pb} {gs : List (List Nat)} {fp L : List Nat} {W : World} {x : Value} {w w' : World} (h : EdF w0 s mb v0 v1 v2 b gs fp L W x w) (hb : Below w.heap.size w w') : EdF w0 s mb v0 v1 v2 b gs fp L W x w' := by
 obtain ⟨r, row, gs', fp', h1, ⟨h2, h3, h4⟩, h5, h6, h7, h8, h9⟩ := h;exact ⟨r, row, gs', fp', h1, ⟨h2.later hb, h3, fun g hg => ⟨(h4 g hg).1, Nat.lt_of_lt_of_le (h4 g hg).2 hb.size⟩⟩, h5.later hb, h6.trans (KeepF.of_below hb), h7, h8, h9⟩
structure CpL (w0 : World) (s mb : Nat) (v0 v1 v2 : Value) (b : Pb) (x : Prt) (P : Nat) (vx vy : Value) (N i : Nat) (gs : List (List Nat)) (fp : List Nat) (rs : List (List Ed)) (acs : List Bool) (vE vA : Value) (gv : List Value) (wr : World) : Prop where
 sb : SbI w0.heap.size s mb v0 v1 v2 gs fp wr
 ma : MkM w0.heap.size N fp vE vA gv rs acs wr
 cp : CpS w0 (fp ++ fpM N vE vA) v0 v1 v2 b x P vx vy wr
 ci : CmI b x gs rs acs i
 bl : Below w0.heap.size w0 wr
theorem cp_next {w0 W w6 w7 : World} {s mb P N i : Nat} {v0 v1 v2 vx vy vE vA vE' rv : Value} {b : Pb} {x : Prt} {gs : List (List Nat)} {fp L : List Nat} {rs : List (List Ed)} {acs0 acs : List Bool} {gv : List Value}
  (hma : MkM w0.heap.size N fp vE vA gv rs acs W) (hcp : CpS w0 (fp ++ fpM N vE vA) v0 v1 v2 b x P vx vy W) (hci : CmI b x gs rs acs0 i) (hac : if i = 0 then acs = acs0 else ∃ a, acs = acs0 ++ [a] ∧ (a = true ↔ ∃ p ∈ (gs[i]?).getD [], p ∈ x.last))
  (hi : i < gs.length) (hbl : Below w0.heap.size w0 W) (hL : ∀ p, p ∈ L ↔ grpF b x gs i p) (hLb : ∀ p ∈ L, p < b.sets.length)
  (hE : EdF w0 s mb v0 v1 v2 b gs fp L W rv w6) (hg : w6.grownBy w7 vE.ownBlock) (ho : w7.ownsRow w0.heap.size 53 1 vE' (rs.length + 1) (gv ++ [rv])) (hf : Fresh vE' vE w6.heap.size) (hfp : ∀ k ∈ fp, w0.heap.size ≤ k) :
  ∃ row gs' fp', CpL w0 s mb v0 v1 v2 b x P vx vy N (i + 1) gs' fp' (rs ++ [row]) acs vE' vA (gv ++ [rv]) (w7.setCell ⟨N, 0, none⟩ vE') ∧ gs'.length ≤ gs.length + 257 := by
 obtain ⟨r, row, gs', fp', h1, ⟨h2, h3, h4⟩, h5, h6, h7, h8, h9⟩ := hE;have hlt := hma.lt;have hma6 := hma.keep h6;have hlt6 := h5.lt;have hw0 := hbl.size;obtain ⟨q1, q2⟩ := hma6.addE (fun k hk => (hlt6 k hk).2) h2 (fun g hg hm => by have := (h4 g hg).1; have := (hlt g hm).2; omega) h3 (fun g hg => ⟨by have := (h4 g hg).1; omega, (h4 g hg).2⟩) ho hg hf
 refine ⟨row, gs', fp', ⟨h5.apart q2 (fun k hk => hma6.out k hk) hma6.types, q1, (hcp.keep (h6.appL _)).keep (q2.appR _), hci.step hi (fun p => (h1.2 p).trans (hL p)) h1.1 (fun p hp => hLb p ((h1.2 p).1 hp)) h8 h7 hac, ?_⟩, h9⟩;exact (hbl.trans (h6.below hfp hw0)).trans (q2.below (fun k hk => (hlt k hk).1) (by have := h6.size; omega))
theorem WrP.later {w0 : World} {s : Nat} {x2 x3 x4 : Value} {b : Pb} {fp : List Nat} {Lg : List Nat → Prop} {n K : Nat} {w : World} {e : Ending} {w' w'' : World} (h : WrP w0 s x2 x3 x4 b fp Lg n K w e w') (hb : Below w'.heap.size w' w'') : WrP w0 s x2 x3 x4 b fp Lg n K w e w'' := by
 obtain ⟨b', x, fp', v1, v2, h1, h2, h3, ⟨h4, h5⟩, ⟨h6, h7⟩, h8⟩ := h;have hk := KeepF.of_below (fp := fp') hb;exact ⟨b', x, fp', v1, v2, h1, h2.later hb, h3.trans hk, h4.keep h5 hk, h6.keep h7 hk, h8⟩
theorem BuI.ne_part {w0 : World} {s : Nat} {x2 x3 x4 : Value} {b : Pb} {fp : List Nat} {w : World} (h : BuI w0 s x2 x3 x4 b fp w) {g : Nat} {cs : Array Value} {m : Nat × Nat} (hg : w.heap[g]? = some (.cells cs 72 m)) : g ∉ fp := by
 obtain ⟨vs, vf, rows, sv, rfl, h⟩ := h;intro hm;unfold fpS at hm;have key : ∀ {cs' : Array Value} {e : TypeId} {m' : Nat × Nat}, w.heap[g]? = some (.cells cs' e m') → e ≠ 72 → False := fun {cs' e m'} h1 hne => by
  rw [hg] at h1;injection h1 with h1;injection h1 with _ h2 _;exact hne h2.symm
 rcases List.mem_cons.1 hm with rfl | hm
 ·exact key h.cs (by decide)
 ·rcases List.mem_append.1 hm with hm | hm
  ·obtain ⟨cs', m', h1⟩ := own_type h.sets g (mem_blk.1 hm); exact key h1 (by decide)
  ·rcases List.mem_append.1 hm with hm | hm
   ·obtain ⟨cs', m', h1⟩ := own_type h.fol g (mem_blk.1 hm); exact key h1 (by decide)
   ·obtain ⟨v, hv, hgv⟩ := List.mem_flatMap.1 hm;obtain ⟨i, hi, he⟩ := List.getElem_of_mem hv;have hrl : rows.length = b.fol.length := by have := h.fol.1; omega
    obtain ⟨v', h1, h2⟩ := h.folv i (by omega)
    rw [List.getElem?_eq_getElem hi, he] at h1;obtain rfl := Option.some.inj h1;obtain ⟨cs', m', h3⟩ := own_type h2 g (mem_blk.1 hgv);exact key h3 (by decide)
theorem own_mono {w : World} {B B' k n : Nat} {e : TypeId} {v : Value} {xs : List Value} (h : w.ownsRow B e k v n xs) (hB : B' ≤ B) : w.ownsRow B' e k v n xs :=
 ⟨h.1, h.2.imp id fun ⟨g, cap, cur, h1, h2, h3⟩ => ⟨g, cap, cur, h1, Nat.le_trans hB h2, h3⟩⟩
def endsL (last : List Nat) (n k : Nat) : List Bool := (List.range n).map fun p => decide (p ∈ last.take k)
theorem endsL_zero (last : List Nat) (n : Nat) : endsL last n 0 = List.replicate n false := by
 unfold endsL;rw [List.eq_replicate_iff];refine ⟨by simp, fun x hx => ?_⟩
 obtain ⟨p, -, rfl⟩ := List.mem_map.1 hx;simp
theorem endsL_len (last : List Nat) (n k : Nat) : (endsL last n k).length = n := by simp [endsL]
theorem endsL_get (last : List Nat) {n p : Nat} (k : Nat) (h : p < n) : (endsL last n k)[p]? = some (decide (p ∈ last.take k)) := by
 unfold endsL;rw [List.getElem?_map, List.getElem?_range h]; rfl
theorem endsL_succ {last : List Nat} {n k : Nat} (hk : k < last.length) : (endsL last n k).set last[k] true = endsL last n (k + 1) := by
 apply List.ext_getElem?;intro p;by_cases hp : p < n
 ·rw [endsL_get last (k + 1) hp, List.getElem?_set, List.take_succ_eq_append_getElem hk];by_cases e : last[k] = p
  ·rw [if_pos e, if_pos (by rw [endsL_len, e]; exact hp)]
   simp [e]
  ·rw [if_neg e, endsL_get last k hp]
   congr 1
   rw [decide_eq_decide, List.mem_append, List.mem_singleton];exact ⟨.inl, fun h => h.resolve_right fun e2 => e e2.symm⟩
 ·rw [List.getElem?_eq_none (by rw [List.length_set, endsL_len]; omega), List.getElem?_eq_none (by rw [endsL_len]; omega)]
theorem bools_new (w : World) (n : Nat) (hn : n ≤ 1000000) : OR 4 1 bC w.heap.size (.slice (some ⟨w.heap.size, 0, none⟩) n n) (List.replicate n false) (w.alloc (.cells (Array.replicate n (.bool false)) 4)) := by
 have hrow : rowF bC (List.replicate n false) = List.replicate n (.bool false) := by
  unfold rowF
  induction n with
  | zero => rfl
  | succ n ih => rw [List.replicate_succ, List.map_cons, List.flatten_cons, ih (by omega), List.replicate_succ]; rfl
 refine ⟨by rw [hrow]; simp, .inr ⟨w.heap.size, n, Array.replicate n (.bool false), by simp, Nat.le_refl _, heap_alloc_new w _, by simp, by unfold maxLen; omega, by simp, ?_⟩⟩
 rw [hrow, List.length_replicate];simp
def folG (b : Pb) (g : List Nat) : List Nat := g.flatMap fun p => folP b p
theorem folG_snoc (b : Pb) (g : List Nat) (p : Nat) : folG b (g ++ [p]) = folG b g ++ folP b p := by unfold folG; simp
theorem folG_mem {b : Pb} {g : List Nat} {p : Nat} : p ∈ folG b g ↔ ∃ q ∈ g, p ∈ folP b q := by unfold folG; exact List.mem_flatMap
theorem folG_len {b : Pb} {K : Nat} (hK : ∀ l ∈ b.fol, l.length ≤ K) : ∀ g : List Nat, (folG b g).length ≤ g.length * K
 | [] => by simp [folG]
 | p :: r => by
  have ih := folG_len hK r;have h1 : (folP b p).length ≤ K := by
   unfold folP
   cases h : b.fol[p]? with
   | none => simp
   | some l => exact hK l (List.mem_of_getElem? h)
  unfold folG at ih ⊢;rw [List.flatMap_cons, List.length_append, List.length_cons, Nat.succ_mul];omega
end Go.Proofs.YtjhmipidmpmlmaaGreatDoor
namespace Go.Proofs.YtjhmipidmpmlmaaGreatDoor
set_option linter.unusedVariables false
set_option linter.unusedSimpArgs false
set_option maxRecDepth 100000
open Go.RowKit
theorem own_type' {w : World} {B k n : Nat} {e : TypeId} {v : Value} {xs : List Value} (h : w.ownsRow B e k v n xs) : ∀ g, v.ownBlock = some g → ∃ cs m, w.heap[g]? = some (.cells cs e m) := fun g hg => by
 rcases h.2 with ⟨h1, -⟩ | ⟨g', cap, cur, h1, -, hg', -⟩
 ·subst h1; simp [Value.ownBlock] at hg
 ·subst h1; simp [Value.ownBlock] at hg; subst hg; exact ⟨_, _, hg'⟩
def ItP (B : Nat) (x : Value) (w' : World) : Prop := ∃ g v, x = .agg #[.int .i64 4, .slice none 0 0, .slice (some ⟨g, 0, none⟩) 1 1, .int .i64 2, .int .i64 2] ∧ B ≤ g ∧ w'.heap[g]? = some (.cells #[.int .i64 1, v, .slice none 0 0, .int .i64 0, .int .i64 0] 29 (0, 0)) ∧ OR 56 2 rgC B v [(97, 98)] w'
theorem ItP.keep {B : Nat} {x : Value} {w w' : World} {L L' : List Nat} (h : ItP B x w) (hk : KeepF L L' w w') (hL : ∀ k ∈ L, k < B) : ItP B x w' := by
 obtain ⟨g, v, h1, h2, h3, h4⟩ := h;exact ⟨g, v, h1, h2, (hk.blk g (Array.getElem?_eq_some_iff.1 h3).1 fun hm => by have := hL g hm; omega).trans h3, OR.keep h4 fun q hq => hk.blk q (World.ownsRow.lt h4 q hq).2 fun hm => by have := hL q hm; have := (World.ownsRow.lt h4 q hq).1; omega⟩
theorem ItP.mono {B B' : Nat} {x : Value} {w : World} (h : ItP B x w) (hB : B' ≤ B) : ItP B' x w := by
 obtain ⟨g, v, h1, h2, h3, h4⟩ := h;exact ⟨g, v, h1, Nat.le_trans hB h2, h3, OR.mono h4 hB⟩
def StI10 (rb : Nat) (d : Int) (W : World) (c : Nat) (w' : World) : Prop := KfR rb W w' ∧ (c = 0 → RdW rb ⟨#[50, 125]⟩ false d w')
def factI10 (rb : Nat) (d : Int) (v1 : Value) (W : World) : Nat → Nat → Value → World → Prop
 | c, 0, x, w => x = .agg #[.int .i64 1, v1, .slice none 0 0, .int .i64 0, .int .i64 0]
 | c, 1, x, w => ∃ g, x = .slice (some ⟨g, 0, none⟩) 1 1 ∧ W.heap.size ≤ g ∧ g < w.heap.size ∧ w.heap[g]? = some (.cells #[.int .i64 1, v1, .slice none 0 0, .int .i64 0, .int .i64 0] 29 (0, 0))
 | c, 2, x, w => x = .pointer (some ⟨rb, 0, none⟩)
 | c, 3, x, w => c = 1 → x = .int .i64 2 ∧ RdW rb ⟨#[125]⟩ false d w
 | _, _, _, _ => True
set_option maxHeartbeats 4000000 in
theorem set5 {w Wf : World} {b : Nat} {a0 a1 a2 a3 a4 : Value} (h : Wf = ((((w.setCell ⟨b, 0, none⟩ a0).setCell ⟨b, 1, none⟩ a1).setCell ⟨b, 2, none⟩ a2).setCell ⟨b, 3, none⟩ a3).setCell ⟨b, 4, none⟩ a4) : (∀ k, k ≠ b → Wf.heap[k]? = w.heap[k]?) ∧ Wf.heap.size = w.heap.size ∧ (Wf.os = w.os ∧ Wf.tape = w.tape ∧ Wf.output = w.output) ∧
  ∀ {o0 o1 o2 o3 o4 : Value} {T : TypeId}, w.heap[b]? = some (.cells #[o0, o1, o2, o3, o4] T (0, 0)) → Wf.heap[b]? = some (.cells #[a0, a1, a2, a3, a4] T (0, 0)) := by
 subst h;refine ⟨fun k hk => ?_, by simp [World.setCell], ⟨rfl, rfl, rfl⟩, fun {o0 o1 o2 o3 o4 T} hb => ?_⟩
 ·exact (Below.heap_setCell _ ⟨b, 4, none⟩ _ k hk).trans ((Below.heap_setCell _ ⟨b, 3, none⟩ _ k hk).trans ((Below.heap_setCell _ ⟨b, 2, none⟩ _ k hk).trans ((Below.heap_setCell _ ⟨b, 1, none⟩ _ k hk).trans (Below.heap_setCell _ ⟨b, 0, none⟩ _ k hk))))
 ·have := set_row3 (set_row3 (set_row3 (set_row3 (set_row3 hb 0 a0) 1 a1) 2 a2) 3 a3) 4 a4;simpa using this
set_option maxHeartbeats 4000000 in
theorem item_ab (rb : Nat) (d : Int) (w : World) (h : RdW rb ⟨#[91, 97, 45, 98, 93, 123, 50, 125]⟩ false d w) :
  Calls Tryz.prog 142 #[.pointer (some ⟨rb, 0, none⟩)] w fun e w' => ∃ x, e = .returned x ∧ ItP w.heap.size x w' ∧ RdW rb ⟨#[]⟩ false d w' ∧ KfR rb w w' := by
 obtain ⟨-, -, hl⟩ := h.cells;have HR := Lib.hid h;clear h;have hne : ∀ k, w.heap.size ≤ k → k ∉ [rb] := fun k hk hm => by rw [List.mem_singleton] at hm; omega
 go_enter Tryz.func142, Tryz.ntmps142
 go_wp2_with fail;refine calls_named fun W0 hW0 => ?_;have hb0 : Below w.heap.size w W0 := by rw [hW0]; exact ((Below.refl _ _).alloc (Nat.le_refl _) _).alloc (by simp) _
 have hX : W0.heap[w.heap.size + 1]? = some (.cells #[.int .i64 0, .slice none 0 0, .slice none 0 0, .int .i64 0, .int .i64 0] 29 (0, 0)) := by rw [hW0]; simpa using heap_alloc_new (w.alloc _) (.cells #[.int .i64 0, .slice none 0 0, .slice none 0 0, .int .i64 0, .int .i64 0] 29)
 have hY : W0.heap[w.heap.size]? = some (.cells #[.int .i64 0, .slice none 0 0, .slice none 0 0, .int .i64 0, .int .i64 0] 29 (0, 0)) := by rw [hW0, old_alloc _ _ _ (by simp)]; exact heap_alloc_new w _
 have hz0 : W0.heap.size = w.heap.size + 2 := by rw [hW0]; simp
 have hT1 := take_any rb _ ⟨#[91, 97, 45, 98, 93, 123, 50, 125]⟩ ⟨#[40]⟩ false false d W0 (HR.out.later hb0) rfl rfl;have HT1 := Lib.hid hT1;have H0 := Lib.hid (And.intro hb0 (And.intro hX hY));clear hW0 hb0 hX hY hT1;refine HT1.out.mono ?_;rintro e w1 ⟨rfl, hr1, hk1⟩;have HT2 := Lib.hid (take_any rb _ ⟨#[97, 45, 98, 93, 123, 50, 125]⟩ ⟨#[91]⟩ false true d w1 hr1 rfl rfl);have H1 := Lib.hid hk1;clear hr1 hk1;go_wp2_with fail;refine HT2.out.mono ?_;rintro e w2 ⟨rfl, hr2, hk2⟩;have HT3 := Lib.hid (set_ab rb d w2 hr2);have hk02 := H1.out.tr hk2;have H2 := Lib.hid hk02;have hz2 := hk02.size;clear hr2 hk2 hk02;go_wp2_with fail;refine HT3.out.mono ?_;rintro e w3 ⟨v1, rfl, ho3, hr3, hk3⟩;obtain ⟨A1, c1, rfl, -, -⟩ := own_form (show w3.ownsRow _ _ _ _ _ _ from ho3);obtain ⟨n1, hn1⟩ : ∃ n, [((97 : Nat), (98 : Nat))].length = n := ⟨_, rfl⟩;rw [hn1] at ho3 ⊢;have hk03 := H2.out.tr hk3;have hX3 := (hk03.blk (w.heap.size + 1) (by omega) (hne _ (by omega))).trans H0.out.2.1
 have hY3 := (hk03.blk w.heap.size (by omega) (hne _ (Nat.le_refl _))).trans H0.out.2.2
 obtain ⟨x0, x1, x2, x3, x4⟩ := cells5 hX3;have fx : ∀ j, j < 5 → w3.frozen? ⟨w.heap.size + 1, j, none⟩ = false := fun j _ => by simp [World.frozen?, hX3]
 have fx0 := fx 0 (by decide)
 have fx1 := fx 1 (by decide)
 have fx2 := fx 2 (by decide)
 have fx3 := fx 3 (by decide)
 have fx4 := fx 4 (by decide)
 have hz3 := hk03.size;have lX3 : w.heap.size + 1 < w3.heap.size := by omega
 have H3 := Lib.hid (And.intro ho3 (And.intro hr3 (And.intro hk03 (And.intro hX3 hY3))));clear ho3 hr3 hk3 hk03 hX3 hY3 fx hn1;go_wp2_with fail;refine calls_named fun W4 hW4 => ?_;obtain ⟨s1, s2, s3, s4⟩ := set5 hW4;have hX4 := s4 H3.out.2.2.2.1;have hY4 := (s1 w.heap.size (by omega)).trans H3.out.2.2.2.2
 have hr4 := H3.out.2.1.keep (s1 rb (by omega))
 have ho4 : W4.ownsRow w2.heap.size 56 2 (.slice A1 n1 c1) _ _ := own_same H3.out.1 fun g hg => s1 g (by have := (World.ownsRow.lt H3.out.1 g hg).1; omega)
 have HT5 := Lib.hid (take_any rb _ ⟨#[50, 125]⟩ ⟨#[123]⟩ false true d W4 hr4 rfl rfl);have H4 := Lib.hid (And.intro hX4 (And.intro hY4 (And.intro (show OR 56 2 rgC w2.heap.size (.slice A1 n1 c1) [(97, 98)] W4 from ho4) (And.intro s1 (And.intro s2 s3)))));clear hW4 s1 s3 s4 hX4 hY4 hr4 ho4 x0 x1 x2 x3 x4 fx0 fx1 fx2 fx3 fx4;refine HT5.out.mono ?_;rintro e W ⟨rfl, hrW, hkW⟩;have hXW := (hkW.blk (w.heap.size + 1) (by omega) (hne _ (by omega))).trans H4.out.1
 obtain ⟨m0, m1, m2, m3, m4⟩ := cells5 hXW;have hzW := hkW.size;have lX : w.heap.size + 1 < W.heap.size := by omega
 have nX := hne (w.heap.size + 1) (by omega)
 have hS0 : StI10 rb d W 0 W.drew := ⟨⟨rfl, rfl, rfl, Nat.le_refl _, fun _ _ _ => rfl, fun _ h => .inl h⟩, fun _ => hrW⟩;have H5 := Lib.hid (And.intro hkW hXW);clear hrW hkW hXW;go_wp2_with fail;refine wp_region_chain 4 [3] (factI10 rb d (.slice A1 n1 c1) W) (fun c w' => StI10 rb d W c w') (by kernel_rfl) (by kernel_rfl) (by kernel_rfl) (by kernel_rfl) (by kernel_rfl) (by kernel_rfl) (by decide) hS0 ?_ ?_
 ·simp only [pq4, pq5];refine HSteps.pure (by decide) ?_ (HSteps.free (by decide) ?_ (HSteps.pure (by decide) ?_ (HSteps.eff 0 rfl ?_ (HSteps.nil))))
  all_goals first | (intro v wz c hlo hS hE K hK;simp only [putAll, Act.put, pq1, pq2, pq3, Nat.zero_add, Nat.reduceAdd, pq4, pq5] at hK ⊢) | (intro v wz hS hE K hK;simp only [putAll, Act.put, pq1, pq2, pq3, Nat.zero_add, Nat.reduceAdd, pq4, pq5] at hK ⊢)
  ·have y0 := (World.cell?_of_block (a := ⟨w.heap.size + 1, 0, none⟩) (hS.1.blk _ lX nX)).trans m0;have y1 := (World.cell?_of_block (a := ⟨w.heap.size + 1, 1, none⟩) (hS.1.blk _ lX nX)).trans m1;have y2 := (World.cell?_of_block (a := ⟨w.heap.size + 1, 2, none⟩) (hS.1.blk _ lX nX)).trans m2;have y3 := (World.cell?_of_block (a := ⟨w.heap.size + 1, 3, none⟩) (hS.1.blk _ lX nX)).trans m3;have y4 := (World.cell?_of_block (a := ⟨w.heap.size + 1, 4, none⟩) (hS.1.blk _ lX nX)).trans m4;have l1 : w.heap.size + 1 < wz.heap.size := by have := hS.1.size; omega
   have HX := Lib.hid hS;clear hS hE hlo;go_wp2_with fail;exact hK.out _ rfl
  ·have e0 : v 0 = _ := hE.1 rfl;rw [e0] at hK ⊢;have hbz : Below wz.heap.size wz (wz.alloc (.cells #[.int .i64 1, .slice A1 n1 c1, .slice none 0 0, .int .i64 0, .int .i64 0] 29)) := (Below.refl _ _).alloc (Nat.le_refl _) _;have hzW := hS.1.size;have hk1 : KfR rb W (wz.alloc (.cells #[.int .i64 1, .slice A1 n1 c1, .slice none 0 0, .int .i64 0, .int .i64 0] 29)) := hS.1.tr (kfr_below hbz);have hr1 : c = 0 → RdW rb ⟨#[50, 125]⟩ false d (wz.alloc (.cells #[.int .i64 1, .slice A1 n1 c1, .slice none 0 0, .int .i64 0, .int .i64 0] 29)) := fun h => (hS.2 h).later hbz;have HX := Lib.hid (And.intro hk1 hr1);have HBZ := Lib.hid hbz;clear hS hE hlo hbz hk1 hr1;go_wp2_with fail;refine hK.out _ _ (fun j z hj h => ?_) HX.out ⟨wz.heap.size, rfl, hzW, by simp, by simpa using heap_alloc_new wz (.cells #[.int .i64 1, .slice A1 n1 c1, .slice none 0 0, .int .i64 0, .int .i64 0] 29)⟩
   match j with
   | 0 | 2 => exact h
   | 1 => exact absurd rfl hj
   | 3 => exact fun hc => ⟨(h hc).1, (h hc).2.later HBZ.out⟩
   | _ + 4 => exact trivial
  ·have HX := Lib.hid hS;clear hS hE hlo;go_wp2_with fail;exact hK.out _ rfl
  ·have e2 : v 2 = _ := hE.1 rfl;rw [e2] at hK ⊢;have hcall := number_2 rb d wz (hS.2 rfl);have HC := Lib.hid hcall;have HX := Lib.hid hS;clear hS hE hcall;go_wp2_with fail;refine HC.out.mono ?_;rintro e wy ⟨rfl, hr, hk⟩;have HP := Lib.hid (And.intro hr hk);clear hr hk;go_wp2_with fail;refine hK.out _ _ (fun j z hj h => ?_) ⟨HX.out.1.tr HP.out.2, fun h => by cases h⟩ (fun _ => ⟨rfl, HP.out.1⟩)
   match j with
   | 0 | 2 => exact h
   | 1 =>
    obtain ⟨g, e, h1, h2, h3⟩ := h;have hrW := HX.out.1.size;exact ⟨g, e, h1, Nat.lt_of_lt_of_le h2 HP.out.2.size, (HP.out.2.blk g h2 (by rw [List.mem_singleton]; omega)).trans h3⟩
   | 3 => exact absurd rfl hj
   | _ + 4 => exact trivial
 ·intro v wz hS hF;have e0 : v 0 = _ := hF 0 (by decide)
  have e2 : v 2 = _ := hF 2 (by decide)
  have E1 := hF 1 (by decide)
  have E3 := hF 3 (by decide)
  simp only [putAll, Act.put, pq1, pq2, pq3, Nat.zero_add, Nat.reduceAdd, pq4, pq5, List.drop_succ_cons, List.drop_zero, e0, e2];clear hF e0 e2;obtain ⟨g1, e1', hg1, hg2, hg3⟩ := E1;obtain ⟨e3', hrz⟩ := E3 rfl;rw [e1', e3'];have hkz := hS.1;have hXz := (hkz.blk (w.heap.size + 1) lX nX).trans H5.out.2;have hYW := (H5.out.1.blk w.heap.size (by omega) (hne _ (Nat.le_refl _))).trans H4.out.2.1
  have hYz := (hkz.blk w.heap.size (by omega) (hne _ (Nat.le_refl _))).trans hYW
  obtain ⟨x0, x1, x2, x3, x4⟩ := cells5 hXz;have fx : ∀ j, j < 5 → wz.frozen? ⟨w.heap.size + 1, j, none⟩ = false := fun j _ => by simp [World.frozen?, hXz]
  have fx0 := fx 0 (by decide)
  have fx1 := fx 1 (by decide)
  have fx2 := fx 2 (by decide)
  have fx3 := fx 3 (by decide)
  have fx4 := fx 4 (by decide)
  have hzz := hkz.size;have lXz : w.heap.size + 1 < wz.heap.size := by omega
  have ho5 : OR 56 2 rgC (w.heap.size + 1) (.slice A1 n1 c1) [(97, 98)] wz := by
   have hoW := H4.out.2.2.1;have h1 := OR.keep hoW (w1 := W) fun q hq => H5.out.1.blk q (World.ownsRow.lt hoW q hq).2 (hne _ (by have := (World.ownsRow.lt hoW q hq).1; omega))
   have h2 := OR.keep h1 (w1 := wz) fun q hq => hkz.blk q (World.ownsRow.lt h1 q hq).2 (hne _ (by have := (World.ownsRow.lt h1 q hq).1; omega))
   exact OR.mono h2 (by omega)
  have H6 := Lib.hid (And.intro hkz (And.intro hXz (And.intro hYz (And.intro ho5 (And.intro hrz hg3)))));clear hS hkz hXz hYW hYz fx ho5 hrz hg3 e1' e3' E3 m0 m1 m2 m3 m4;go_wp2_with fail;refine calls_named fun W8 hW8 => ?_;obtain ⟨W7, hW7⟩ : ∃ W7, W7 = ((((wz.setCell ⟨w.heap.size + 1, 0, none⟩ (.int .i64 4)).setCell ⟨w.heap.size + 1, 1, none⟩ (.slice none 0 0)).setCell ⟨w.heap.size + 1, 2, none⟩ (.slice (some ⟨g1, 0, none⟩) 1 1)).setCell ⟨w.heap.size + 1, 3, none⟩ (.int .i64 2)).setCell ⟨w.heap.size + 1, 4, none⟩ (.int .i64 0) := ⟨_, rfl⟩;rw [← hW7] at hW8;obtain ⟨s1, s7, s3, s4⟩ := set5 hW7;have hX7 := s4 H6.out.2.1;have hX8 : W8.heap[w.heap.size + 1]? = some (.cells #[.int .i64 4, .slice none 0 0, .slice (some ⟨g1, 0, none⟩) 1 1, .int .i64 2, .int .i64 2] 29 (0, 0)) := by
   rw [hW8];have := set_row3 hX7 4 (.int .i64 2);simpa using this
  have t1 : ∀ k, k ≠ w.heap.size + 1 → W8.heap[k]? = wz.heap[k]? := fun k hk => by rw [hW8]; exact (Below.heap_setCell _ ⟨w.heap.size + 1, 4, none⟩ _ k hk).trans (s1 k hk)
  have t2 : W8.heap.size = wz.heap.size := by rw [hW8]; simp [World.setCell]; exact s7
  have t3 : W8.os = wz.os ∧ W8.tape = wz.tape ∧ W8.output = wz.output := by rw [hW8]; exact s3
  have hr8 := H6.out.2.2.2.2.1.keep (t1 rb (by omega))
  have hY8 := (t1 w.heap.size (by omega)).trans H6.out.2.2.1
  have ho8 := OR.keep H6.out.2.2.2.1 (w1 := W8) fun q hq => t1 q (by
   intro e;obtain ⟨cs, md, h1⟩ := own_type' (show wz.ownsRow _ _ _ _ _ _ from H6.out.2.2.2.1) q hq;rw [e, H6.out.2.1] at h1;injection h1 with h1;injection h1 with _ h1 _;exact absurd h1 (by decide))
  have hg8 := (t1 g1 (by omega)).trans H6.out.2.2.2.2.2
  have HT9 := Lib.hid (take_any rb _ ⟨#[125]⟩ ⟨#[44]⟩ false false d W8 hr8 rfl rfl);have H8 := Lib.hid (And.intro hX8 (And.intro hY8 (And.intro ho8 (And.intro hg8 (And.intro t1 t3)))));clear hW7 hW8 s1 s3 s4 hX7 hX8 t1 t3 hr8 hY8 ho8 hg8 x0 x1 x2 x3 x4 fx0 fx1 fx2 fx3 fx4;refine HT9.out.mono ?_;rintro e w9 ⟨rfl, hr9, hk9⟩;have HT10 := Lib.hid (need_yes rb _ ⟨#[]⟩ ⟨#[125]⟩ false d w9 hr9 rfl rfl);have H9 := Lib.hid hk9;clear hr9 hk9;go_wp2_with fail;refine HT10.out.mono ?_;rintro e w10 ⟨rfl, hr10, hk10⟩;have hk8 := H9.out.tr hk10;have hz8 := hk8.size;have hX10 := (hk8.blk (w.heap.size + 1) (by omega) (hne _ (by omega))).trans H8.out.1
  have hY10 := (hk8.blk w.heap.size (by omega) (hne _ (Nat.le_refl _))).trans H8.out.2.1
  obtain ⟨x0, x1, x2, x3, x4⟩ := cells5 hX10;obtain ⟨y0, y1, y2, y3, y4⟩ := cells5 hY10;have fy : ∀ j, j < 5 → w10.frozen? ⟨w.heap.size, j, none⟩ = false := fun j _ => by simp [World.frozen?, hY10]
  have fy0 := fy 0 (by decide)
  have fy1 := fy 1 (by decide)
  have fy2 := fy 2 (by decide)
  have fy3 := fy 3 (by decide)
  have fy4 := fy 4 (by decide)
  have l10 : w.heap.size + 1 < w10.heap.size := by omega
  have l100 : w.heap.size < w10.heap.size := by omega
  have H10 := Lib.hid (And.intro hr10 hk8);clear hr10 hk10 hk8 hX10 hY10 fy;go_wp2_with fail;refine post_named fun Wf hWf => ?_;obtain ⟨u1, u2, u3, -⟩ := set5 hWf;refine bodyPost_ret (v := .agg #[.int .i64 4, .slice none 0 0, .slice (some ⟨g1, 0, none⟩) 1 1, .int .i64 2, .int .i64 2]) (by rw [hWf]; simp [results, Tryz.results142, go_sem, y0, y1, y2, y3, y4, l100]; try rfl) rfl ?_
  have hkf : KeepF [rb, w.heap.size] [] w10 Wf := ⟨u3.1, u3.2.1, u3.2.2, by omega, fun k _ hn => u1 k (fun e => hn (by simp [e])), fun k hk => by cases hk⟩
  have hit8 : ItP (w.heap.size + 1) (.agg #[.int .i64 4, .slice none 0 0, .slice (some ⟨g1, 0, none⟩) 1 1, .int .i64 2, .int .i64 2]) W8 := ⟨g1, .slice A1 n1 c1, rfl, by omega, H8.out.2.2.2.1, H8.out.2.2.1⟩
  have hitf := (hit8.keep H10.out.2 (fun k hk => by rw [List.mem_singleton] at hk; omega)).keep hkf (fun k hk => by simp at hk; omega)
  have hs1 := H4.out.2.2.2.1;have hs2 := H4.out.2.2.2.2.2;have ht1 := H8.out.2.2.2.2.1;have ht3 := H8.out.2.2.2.2.2;have k1 := H3.out.2.2.1;have k2 := H5.out.1;have k3 := H6.out.1;have k4 := H10.out.2;have kb := H0.out.1;refine ⟨_, rfl, hitf.mono (by omega), H10.out.1.keep (u1 rb (by omega)), ?_⟩
  refine ⟨?_, ?_, ?_, by omega, fun k hk hn => ?_, fun k hk => .inl hk⟩
  ·rw [u3.1, k4.os, ht3.1, k3.os, k2.os, hs2.1, k1.os, kb.os]
  ·rw [u3.2.1, k4.tape, ht3.2.1, k3.tape, k2.tape, hs2.2.1, k1.tape, kb.tape]
  ·rw [u3.2.2, k4.output, ht3.2.2, k3.output, k2.output, hs2.2.2, k1.output, kb.output]
  ·rw [u1 k (by omega), k4.blk k (by omega) hn, ht1 k (by omega), k3.blk k (by omega) hn, k2.blk k (by omega) hn, hs1 k (by omega), k1.blk k (by omega) hn, kb.block k hk]
def ListP (rb : Nat) (d : Int) (w : World) (e : Ending) (w' : World) : Prop := ∃ x, e = .returned x ∧ ItP w.heap.size x w' ∧ RdW rb ⟨#[]⟩ false d w' ∧ KfR rb w w'
set_option maxHeartbeats 4000000 in
theorem list_seq (rb : Nat) (d : Int) (w : World) (h : RdW rb ⟨#[91, 97, 45, 98, 93, 123, 50, 125]⟩ false d w) :
  Calls Tryz.prog 125 #[.pointer (some ⟨rb, 0, none⟩), .int .i64 2, .func (.func 142) #[.pointer (some ⟨rb, 0, none⟩)] #[], .func (.func 143) #[.pointer (some ⟨rb, 0, none⟩)] #[]] w (ListP rb d w) := by
 obtain ⟨-, -, hl⟩ := h.cells;have HR := Lib.hid h;clear h;have hne : ∀ k, w.heap.size ≤ k → k ∉ [rb] := fun k hk hm => by rw [List.mem_singleton] at hm; omega
 go_enter Tryz.func125, Tryz.ntmps125
 go_wp2_with fail;refine calls_named fun W0 hW0 => ?_;have hb0 : Below w.heap.size w W0 := by rw [hW0]; exact (Below.refl _ _).alloc (Nat.le_refl _) _
 have hY : W0.heap[w.heap.size]? = some (.cells #[.int .i64 0, .slice none 0 0, .slice none 0 0, .int .i64 0, .int .i64 0] 29 (0, 0)) := by rw [hW0]; exact heap_alloc_new w _
 have hz0 : W0.heap.size = w.heap.size + 1 := by rw [hW0]; simp
 have HT1 := Lib.hid (item_ab rb d W0 (HR.out.later hb0));have H0 := Lib.hid (And.intro hb0 hY);clear hW0 hb0 hY;refine HT1.out.mono ?_;rintro e w1 ⟨x, rfl, hit, hr1, hk1⟩;obtain ⟨g1, v1, rfl, hg1, hg2, hg3⟩ := id hit;have hz1 := hk1.size;have hY1 := (hk1.blk w.heap.size (by omega) (hne _ (Nat.le_refl _))).trans H0.out.2
 have hbA : Below w1.heap.size w1 (w1.alloc (.cells #[.int .i64 4, .slice none 0 0, .slice (some ⟨g1, 0, none⟩) 1 1, .int .i64 2, .int .i64 2] 29)) := (Below.refl _ _).alloc (Nat.le_refl _) _;obtain ⟨⟨c0, c1, c2⟩, -, lr1⟩ := hr1.cells;have H1 := Lib.hid (And.intro hit (And.intro hr1 (And.intro hk1 hY1)));clear hit hr1 hk1 hY1 hbA hg1 hg2 hg3;have lr2 : rb < w1.heap.size + 1 := by omega
 go_wp2_with fail;refine wp_loop_rounds 1 ?_;rw [rounds_succ];go_wp2_with fail;refine calls_named fun W2 hW2 => ?_;have hb2 : Below w1.heap.size w1 W2 := by rw [hW2]; exact ((Below.refl _ _).alloc (Nat.le_refl _) _).alloc (by simp) _
 have hK2 : W2.heap[w1.heap.size]? = some (.cells #[.int .i64 4, .slice none 0 0, .slice (some ⟨g1, 0, none⟩) 1 1, .int .i64 2, .int .i64 2] 29 (0, 0)) := by rw [hW2, old_alloc _ _ _ (by simp)]; exact heap_alloc_new w1 _
 have hL2 : W2.heap[w1.heap.size + 1]? = some (.cells #[.int .i64 2, .slice none 0 0, .slice (some ⟨w1.heap.size, 0, none⟩) 1 1, .int .i64 0, .int .i64 0] 29 (0, 0)) := by
  rw [hW2]; simpa using heap_alloc_new (w1.alloc (.cells #[.int .i64 4, .slice none 0 0, .slice (some ⟨g1, 0, none⟩) 1 1, .int .i64 2, .int .i64 2] 29)) (.cells #[.int .i64 2, .slice none 0 0, .slice (some ⟨w1.heap.size, 0, none⟩) 1 1, .int .i64 0, .int .i64 0] 29)
 have hz2 : W2.heap.size = w1.heap.size + 2 := by rw [hW2]; simp
 have HT2 := Lib.hid (more_nil rb false d W2 (H1.out.2.1.later hb2));have H2 := Lib.hid (And.intro hb2 (And.intro hK2 hL2));clear hW2 hb2 hK2 hL2 c0 c1 c2;refine HT2.out.mono ?_;rintro e w3 ⟨rfl, hr3, hk3⟩;have hz3 := hk3.size;have hK3 := (hk3.blk w1.heap.size (by omega) (hne _ (by omega))).trans H2.out.2.1
 have hL3 := (hk3.blk (w1.heap.size + 1) (by omega) (hne _ (by omega))).trans H2.out.2.2
 have hY3 := (hk3.blk w.heap.size (by omega) (hne _ (Nat.le_refl _))).trans ((H2.out.1.block w.heap.size (by omega)).trans H1.out.2.2.2)
 obtain ⟨k0, k1, k2, k3, k4⟩ := cells5 hK3;obtain ⟨l0, l1, l2, l3, l4⟩ := cells5 hL3;obtain ⟨y0, y1, y2, y3, y4⟩ := cells5 hY3;have fy : ∀ j, j < 5 → w3.frozen? ⟨w.heap.size, j, none⟩ = false := fun j _ => by simp [World.frozen?, hY3]
 have fy0 := fy 0 (by decide)
 have fy1 := fy 1 (by decide)
 have fy2 := fy 2 (by decide)
 have fy3 := fy 3 (by decide)
 have fy4 := fy 4 (by decide)
 have m1 : w1.heap.size + 1 < w3.heap.size := by omega
 have m2 : w1.heap.size < w3.heap.size := by omega
 have m3 : w.heap.size < w3.heap.size := by omega
 have H3 := Lib.hid (And.intro hr3 hk3);clear hr3 hk3 hK3 hL3 hY3 fy;go_wp2_with fail;refine post_named fun Wf hWf => ?_;obtain ⟨u1, u2, u3, -⟩ := set5 hWf;refine bodyPost_ret (v := .agg #[.int .i64 4, .slice none 0 0, .slice (some ⟨g1, 0, none⟩) 1 1, .int .i64 2, .int .i64 2]) (by rw [hWf]; simp [results, Tryz.results125, go_sem, y0, y1, y2, y3, y4, m3]; try rfl) rfl ?_
 have hkf : KeepF [w.heap.size] [] w3 Wf := ⟨u3.1, u3.2.1, u3.2.2, by omega, fun k _ hn => u1 k (fun e => hn (by simp [e])), fun k hk => by cases hk⟩
 have hit := (((H1.out.1.keep (KeepF.of_below (fp := []) H2.out.1) (fun k hk => by cases hk)).keep H3.out.2 (fun k hk => by rw [List.mem_singleton] at hk; omega)).keep hkf (fun k hk => by simp at hk; omega)).mono (show w.heap.size ≤ W0.heap.size by omega)
 have k1' := H1.out.2.2.1;have k2' := H2.out.1;have k3' := H3.out.2;have kb := H0.out.1;refine ⟨_, rfl, hit, H3.out.1.keep (u1 rb (by omega)), ?_, ?_, ?_, by omega, fun k hk hn => ?_, fun k hk => .inl hk⟩
 ·rw [u3.1, k3'.os, k2'.os, k1'.os, kb.os]
 ·rw [u3.2.1, k3'.tape, k2'.tape, k1'.tape, kb.tape]
 ·rw [u3.2.2, k3'.output, k2'.output, k1'.output, kb.output]
 ·rw [u1 k (by omega), k3'.blk k (by omega) hn, k2'.block k (by omega), k1'.blk k (by omega) hn, kb.block k hk]
set_option maxHeartbeats 4000000 in
theorem seq_ab (rb : Nat) (d : Int) (w : World) (h : RdW rb ⟨#[91, 97, 45, 98, 93, 123, 50, 125]⟩ false d w) : Calls Tryz.prog 126 #[.pointer (some ⟨rb, 0, none⟩)] w (ListP rb d w) := by
 obtain ⟨-, -, hl⟩ := h.cells;have HR := Lib.hid h;clear h;have hne : ∀ k, w.heap.size ≤ k → k ∉ [rb] := fun k hk hm => by rw [List.mem_singleton] at hm; omega
 go_enter Tryz.func126, Tryz.ntmps126
 go_wp2_with fail;refine calls_named fun W0 hW0 => ?_;have hb0 : Below w.heap.size w W0 := by rw [hW0]; exact (Below.refl _ _).alloc (Nat.le_refl _) _
 have hY : W0.heap[w.heap.size]? = some (.cells #[.int .i64 0, .slice none 0 0, .slice none 0 0, .int .i64 0, .int .i64 0] 29 (0, 0)) := by rw [hW0]; exact heap_alloc_new w _
 have hz0 : W0.heap.size = w.heap.size + 1 := by rw [hW0]; simp
 have HT1 := Lib.hid (list_seq rb d W0 (HR.out.later hb0));have H0 := Lib.hid (And.intro hb0 hY);clear hW0 hb0 hY;refine HT1.out.mono ?_;rintro e w1 ⟨x, rfl, hit, hr1, hk1⟩;obtain ⟨g1, v1, rfl, hg1, hg2, hg3⟩ := id hit;have hz1 := hk1.size;have hY3 := (hk1.blk w.heap.size (by omega) (hne _ (Nat.le_refl _))).trans H0.out.2
 obtain ⟨y0, y1, y2, y3, y4⟩ := cells5 hY3;have fy : ∀ j, j < 5 → w1.frozen? ⟨w.heap.size, j, none⟩ = false := fun j _ => by simp [World.frozen?, hY3]
 have fy0 := fy 0 (by decide)
 have fy1 := fy 1 (by decide)
 have fy2 := fy 2 (by decide)
 have fy3 := fy 3 (by decide)
 have fy4 := fy 4 (by decide)
 have m3 : w.heap.size < w1.heap.size := by omega
 have H1 := Lib.hid (And.intro hit (And.intro hr1 hk1));clear hit hr1 hk1 hY3 fy hg1 hg2 hg3;go_wp2_with fail;refine post_named fun Wf hWf => ?_;obtain ⟨u1, u2, u3, -⟩ := set5 hWf;refine bodyPost_ret (v := .agg #[.int .i64 4, .slice none 0 0, .slice (some ⟨g1, 0, none⟩) 1 1, .int .i64 2, .int .i64 2]) (by rw [hWf]; simp [results, Tryz.results126, go_sem, y0, y1, y2, y3, y4, m3]; try rfl) rfl ?_
 have hkf : KeepF [w.heap.size] [] w1 Wf := ⟨u3.1, u3.2.1, u3.2.2, by omega, fun k _ hn => u1 k (fun e => hn (by simp [e])), fun k hk => by cases hk⟩
 have hit := (H1.out.1.keep hkf (fun k hk => by simp at hk; omega)).mono (show w.heap.size ≤ W0.heap.size by omega)
 have k1' := H1.out.2.2;have kb := H0.out.1;refine ⟨_, rfl, hit, H1.out.2.1.keep (u1 rb (by omega)), ?_, ?_, ?_, by omega, fun k hk hn => ?_, fun k hk => .inl hk⟩
 ·rw [u3.1, k1'.os, kb.os]
 ·rw [u3.2.1, k1'.tape, kb.tape]
 ·rw [u3.2.2, k1'.output, kb.output]
 ·rw [u1 k (by omega), k1'.blk k (by omega) hn, kb.block k hk]
set_option maxHeartbeats 4000000 in
theorem list_cho (rb : Nat) (d : Int) (w : World) (bx : Nat) (hbx : bx < w.heap.size) (hb : w.cell? ⟨bx, 0, none⟩ = some (.pointer (some ⟨rb, 0, none⟩))) (hbn : bx ≠ rb) (h : RdW rb ⟨#[91, 97, 45, 98, 93, 123, 50, 125]⟩ false d w) :
  Calls Tryz.prog 125 #[.pointer (some ⟨rb, 0, none⟩), .int .i64 3, .func (.func 126) #[.pointer (some ⟨rb, 0, none⟩)] #[], .func (.func 127) #[] #[.pointer (some ⟨bx, 0, none⟩)]] w (ListP rb d w) := by
 obtain ⟨-, -, hl⟩ := h.cells;have HR := Lib.hid h;have HBX := Lib.hid (And.intro hbx (And.intro hb hbn));clear h hb hbn hbx;have hne : ∀ k, w.heap.size ≤ k → k ∉ [rb] := fun k hk hm => by rw [List.mem_singleton] at hm; omega
 go_enter Tryz.func125, Tryz.ntmps125
 go_wp2_with fail;refine calls_named fun W0 hW0 => ?_;have hb0 : Below w.heap.size w W0 := by rw [hW0]; exact (Below.refl _ _).alloc (Nat.le_refl _) _
 have hY : W0.heap[w.heap.size]? = some (.cells #[.int .i64 0, .slice none 0 0, .slice none 0 0, .int .i64 0, .int .i64 0] 29 (0, 0)) := by rw [hW0]; exact heap_alloc_new w _
 have hz0 : W0.heap.size = w.heap.size + 1 := by rw [hW0]; simp
 have HT1 := Lib.hid (seq_ab rb d W0 (HR.out.later hb0));have H0 := Lib.hid (And.intro hb0 hY);clear hW0 hb0 hY;refine HT1.out.mono ?_;rintro e w1 ⟨x, rfl, hit, hr1, hk1⟩;obtain ⟨g1, v1, rfl, hg1, hg2, hg3⟩ := id hit;have hz1 := hk1.size;have hY1 := (hk1.blk w.heap.size (by omega) (hne _ (Nat.le_refl _))).trans H0.out.2
 have hbA : Below w1.heap.size w1 (w1.alloc (.cells #[.int .i64 4, .slice none 0 0, .slice (some ⟨g1, 0, none⟩) 1 1, .int .i64 2, .int .i64 2] 29)) := (Below.refl _ _).alloc (Nat.le_refl _) _;obtain ⟨⟨c0, c1, c2⟩, -, lr1⟩ := hr1.cells;have H1 := Lib.hid (And.intro hit (And.intro hr1 (And.intro hk1 hY1)));clear hit hr1 hk1 hY1 hbA hg1 hg2 hg3;have lr2 : rb < w1.heap.size + 1 := by omega
 go_wp2_with fail;refine wp_loop_rounds 1 ?_;rw [rounds_succ];go_wp2_with fail;refine calls_named fun W2 hW2 => ?_;have hb2 : Below w1.heap.size w1 W2 := by rw [hW2]; exact ((Below.refl _ _).alloc (Nat.le_refl _) _).alloc (by simp) _
 have hK2 : W2.heap[w1.heap.size]? = some (.cells #[.int .i64 4, .slice none 0 0, .slice (some ⟨g1, 0, none⟩) 1 1, .int .i64 2, .int .i64 2] 29 (0, 0)) := by rw [hW2, old_alloc _ _ _ (by simp)]; exact heap_alloc_new w1 _
 have hL2 : W2.heap[w1.heap.size + 1]? = some (.cells #[.int .i64 3, .slice none 0 0, .slice (some ⟨w1.heap.size, 0, none⟩) 1 1, .int .i64 0, .int .i64 0] 29 (0, 0)) := by
  rw [hW2]; simpa using heap_alloc_new (w1.alloc (.cells #[.int .i64 4, .slice none 0 0, .slice (some ⟨g1, 0, none⟩) 1 1, .int .i64 2, .int .i64 2] 29)) (.cells #[.int .i64 3, .slice none 0 0, .slice (some ⟨w1.heap.size, 0, none⟩) 1 1, .int .i64 0, .int .i64 0] 29)
 have hz2 : W2.heap.size = w1.heap.size + 2 := by rw [hW2]; simp
 have HT2 := Lib.hid (choice1_any rb bx ⟨#[]⟩ false d W2 (H1.out.2.1.later hb2) ((hb2.cell (p := ⟨bx, 0, none⟩) (by have := HBX.out.1; show bx < w1.heap.size; omega)).trans ((World.cell?_of_block (a := ⟨bx, 0, none⟩) (H1.out.2.2.1.blk bx (by have := HBX.out.1; omega) (fun hm => HBX.out.2.2 (List.mem_singleton.1 hm)))).trans ((H0.out.1.cell (p := ⟨bx, 0, none⟩) HBX.out.1).trans HBX.out.2.1))) rfl rfl)
 have H2 := Lib.hid (And.intro hb2 (And.intro hK2 hL2));clear hW2 hb2 hK2 hL2 c0 c1 c2;refine HT2.out.mono ?_;rintro e w3 ⟨rfl, hr3, hk3⟩;have hz3 := hk3.size;have hK3 := (hk3.blk w1.heap.size (by omega) (hne _ (by omega))).trans H2.out.2.1
 have hL3 := (hk3.blk (w1.heap.size + 1) (by omega) (hne _ (by omega))).trans H2.out.2.2
 have hY3 := (hk3.blk w.heap.size (by omega) (hne _ (Nat.le_refl _))).trans ((H2.out.1.block w.heap.size (by omega)).trans H1.out.2.2.2)
 obtain ⟨k0, k1, k2, k3, k4⟩ := cells5 hK3;obtain ⟨l0, l1, l2, l3, l4⟩ := cells5 hL3;obtain ⟨y0, y1, y2, y3, y4⟩ := cells5 hY3;have fy : ∀ j, j < 5 → w3.frozen? ⟨w.heap.size, j, none⟩ = false := fun j _ => by simp [World.frozen?, hY3]
 have fy0 := fy 0 (by decide)
 have fy1 := fy 1 (by decide)
 have fy2 := fy 2 (by decide)
 have fy3 := fy 3 (by decide)
 have fy4 := fy 4 (by decide)
 have m1 : w1.heap.size + 1 < w3.heap.size := by omega
 have m2 : w1.heap.size < w3.heap.size := by omega
 have m3 : w.heap.size < w3.heap.size := by omega
 have H3 := Lib.hid (And.intro hr3 hk3);clear hr3 hk3 hK3 hL3 hY3 fy;go_wp2_with fail;refine post_named fun Wf hWf => ?_;obtain ⟨u1, u2, u3, -⟩ := set5 hWf;refine bodyPost_ret (v := .agg #[.int .i64 4, .slice none 0 0, .slice (some ⟨g1, 0, none⟩) 1 1, .int .i64 2, .int .i64 2]) (by rw [hWf]; simp [results, Tryz.results125, go_sem, y0, y1, y2, y3, y4, m3]; try rfl) rfl ?_
 have hkf : KeepF [w.heap.size] [] w3 Wf := ⟨u3.1, u3.2.1, u3.2.2, by omega, fun k _ hn => u1 k (fun e => hn (by simp [e])), fun k hk => by cases hk⟩
 have hit := (((H1.out.1.keep (KeepF.of_below (fp := []) H2.out.1) (fun k hk => by cases hk)).keep H3.out.2 (fun k hk => by rw [List.mem_singleton] at hk; omega)).keep hkf (fun k hk => by simp at hk; omega)).mono (show w.heap.size ≤ W0.heap.size by omega)
 have k1' := H1.out.2.2.1;have k2' := H2.out.1;have k3' := H3.out.2;have kb := H0.out.1;refine ⟨_, rfl, hit, H3.out.1.keep (u1 rb (by omega)), ?_, ?_, ?_, by omega, fun k hk hn => ?_, fun k hk => .inl hk⟩
 ·rw [u3.1, k3'.os, k2'.os, k1'.os, kb.os]
 ·rw [u3.2.1, k3'.tape, k2'.tape, k1'.tape, kb.tape]
 ·rw [u3.2.2, k3'.output, k2'.output, k1'.output, kb.output]
 ·rw [u1 k (by omega), k3'.blk k (by omega) hn, k2'.block k (by omega), k1'.blk k (by omega) hn, kb.block k hk]
set_option maxHeartbeats 4000000 in
theorem choice_ab (rb : Nat) (w : World) (h : RdW rb ⟨#[91, 97, 45, 98, 93, 123, 50, 125]⟩ false 0 w) : Calls Tryz.prog 96 #[.pointer (some ⟨rb, 0, none⟩)] w (ListP rb 0 w) := by
 obtain ⟨⟨c0, c1, c2⟩, ⟨f0, f1, f2⟩, hl⟩ := h.cells;have HR := Lib.hid h;clear h;have hne : ∀ k, w.heap.size ≤ k → k ∉ [rb] := fun k hk hm => by rw [List.mem_singleton] at hm; omega
 have l1 : rb < w.heap.size + 1 := by omega
 have l2 : rb < w.heap.size + 1 + 1 := by omega
 have n1 : ¬ w.heap.size = rb := by omega
 have n2 : ¬ rb = w.heap.size := by omega
 go_enter Tryz.func96, Tryz.ntmps96
 go_wp2_with fail;refine calls_named fun W0 hW0 => ?_;obtain ⟨Wd, hWd⟩ : ∃ W, W = w.setCell ⟨rb, 2, none⟩ (.int .i64 1) := ⟨_, rfl⟩;rw [← hWd] at hW0;have hzd : Wd.heap.size = w.heap.size := by rw [hWd]; simp [World.setCell]
 have hrd : RdW rb ⟨#[91, 97, 45, 98, 93, 123, 50, 125]⟩ false 1 Wd := by
  rw [hWd];have := set_row3 HR.out 2 (.int .i64 1);simpa [RdW] using this
 have hkd : KfR rb w Wd := by rw [hWd]; exact kfr_set
 have hbd : Below Wd.heap.size Wd W0 := by rw [hW0]; exact ((Below.refl _ _).alloc (Nat.le_refl _) _).alloc (by simp) _
 have hz0 : W0.heap.size = w.heap.size + 2 := by rw [hW0]; simp [hzd]
 have hX : W0.heap[w.heap.size]? = some (.cells #[.pointer (some ⟨rb, 0, none⟩)] 131 (0, 0)) := by
  rw [hW0, old_alloc _ _ _ (by simp [hzd])]
  have := heap_alloc_new Wd (.cells #[.pointer (some ⟨rb, 0, none⟩)] 131);rwa [hzd] at this
 have hY : W0.heap[w.heap.size + 1]? = some (.cells #[.int .i64 0, .slice none 0 0, .slice none 0 0, .int .i64 0, .int .i64 0] 29 (0, 0)) := by
  rw [hW0];have := heap_alloc_new (Wd.alloc (.cells #[.pointer (some ⟨rb, 0, none⟩)] 131)) (.cells #[.int .i64 0, .slice none 0 0, .slice none 0 0, .int .i64 0, .int .i64 0] 29);simpa [hzd] using this
 have HT1 := Lib.hid (list_cho rb 1 W0 w.heap.size (by omega) (by rw [cell_of_row _ _ _ _ _ _ hX]; rfl) (by omega) (hrd.later hbd))
 have H0 := Lib.hid (And.intro hkd (And.intro hbd (And.intro hX hY)));clear hW0 hWd hrd hkd hbd hX hY c0 c1 c2 f0 f1 f2;refine HT1.out.mono ?_;rintro e w1 ⟨x, rfl, hit, hr1, hk1⟩;obtain ⟨g1, v1, rfl, hg1, hg2, hg3⟩ := id hit;have hz1 := hk1.size;have hX1 := (hk1.blk w.heap.size (by omega) (hne _ (Nat.le_refl _))).trans H0.out.2.2.1
 have hY1 := (hk1.blk (w.heap.size + 1) (by omega) (hne _ (by omega))).trans H0.out.2.2.2
 obtain ⟨⟨c0, c1, c2⟩, ⟨f0, f1, f2⟩, lr1⟩ := hr1.cells;have x0 : w1.cell? ⟨w.heap.size, 0, none⟩ = some (.pointer (some ⟨rb, 0, none⟩)) := by rw [cell_of_row _ _ _ _ _ _ hX1]; rfl
 obtain ⟨y0, y1, y2, y3, y4⟩ := cells5 hY1;have fy : ∀ j, j < 5 → w1.frozen? ⟨w.heap.size + 1, j, none⟩ = false := fun j _ => by simp [World.frozen?, hY1]
 have fy0 := fy 0 (by decide)
 have fy1 := fy 1 (by decide)
 have fy2 := fy 2 (by decide)
 have fy3 := fy 3 (by decide)
 have fy4 := fy 4 (by decide)
 have m1 : w.heap.size < w1.heap.size := by omega
 have m2 : w.heap.size + 1 < w1.heap.size := by omega
 have m3 : w.heap.size < w1.heap.size + 1 := by omega
 have m4 : w.heap.size + 1 < w1.heap.size + 1 := by omega
 have m5 : rb < w1.heap.size + 1 := by omega
 have n3 : ¬ w.heap.size + 1 = rb := by omega
 have n4 : ¬ rb = w.heap.size + 1 := by omega
 have n5 : ¬ w1.heap.size = rb := by omega
 have n6 : ¬ w1.heap.size = w.heap.size + 1 := by omega
 have H1 := Lib.hid (And.intro hit (And.intro hr1 hk1));clear hit hr1 hk1 hX1 hY1 fy hg1 hg2 hg3;go_wp2_with fail;refine post_named fun Wf hWf => ?_;obtain ⟨Wr, hWr⟩ : ∃ W, W = w1.setCell ⟨rb, 2, none⟩ (.int .i64 0) := ⟨_, rfl⟩;rw [← hWr] at hWf;obtain ⟨W5, hW5⟩ : ∃ W, W = ((((Wr.setCell ⟨w.heap.size + 1, 0, none⟩ (.int .i64 4)).setCell ⟨w.heap.size + 1, 1, none⟩ (.slice none 0 0)).setCell ⟨w.heap.size + 1, 2, none⟩ (.slice (some ⟨g1, 0, none⟩) 1 1)).setCell ⟨w.heap.size + 1, 3, none⟩ (.int .i64 2)).setCell ⟨w.heap.size + 1, 4, none⟩ (.int .i64 2) := ⟨_, rfl⟩;rw [← hW5] at hWf;obtain ⟨u1, u2, u3, u4⟩ := set5 hW5;have hzr : Wr.heap.size = w1.heap.size := by rw [hWr]; simp [World.setCell]
 have hsr : ∀ k, k ≠ rb → Wr.heap[k]? = w1.heap[k]? := fun k hk => by rw [hWr]; exact Below.heap_setCell _ _ _ _ hk
 have hb5 : Below W5.heap.size W5 Wf := by rw [hWf]; exact (Below.refl _ _).alloc (Nat.le_refl _) _
 have hrf : RdW rb ⟨#[]⟩ false 0 Wf := by
  have h1 : RdW rb ⟨#[]⟩ false 0 Wr := by
   rw [hWr];have := set_row3 H1.out.2.1 2 (.int .i64 0);simpa [RdW] using this
  exact (h1.keep (u1 rb (by omega))).later hb5
 have hY1 : w1.heap[w.heap.size + 1]? = some (.cells #[.int .i64 0, .slice none 0 0, .slice none 0 0, .int .i64 0, .int .i64 0] 29 (0, 0)) := (H1.out.2.2.blk (w.heap.size + 1) (by omega) (hne _ (by omega))).trans H0.out.2.2.2
 have hYf : Wf.heap[w.heap.size + 1]? = some (.cells #[.int .i64 4, .slice none 0 0, .slice (some ⟨g1, 0, none⟩) 1 1, .int .i64 2, .int .i64 2] 29 (0, 0)) := (hb5.block _ (by omega)).trans (u4 ((hsr (w.heap.size + 1) (by omega)).trans hY1))
 have hzf := hb5.size;have l9 : w.heap.size + 1 < Wf.heap.size := by omega
 obtain ⟨q0, q1, q2, q3, q4⟩ := cells5 hYf;refine bodyPost_ret (v := .agg #[.int .i64 4, .slice none 0 0, .slice (some ⟨g1, 0, none⟩) 1 1, .int .i64 2, .int .i64 2]) (by simp [results, Tryz.results96, go_sem, q0, q1, q2, q3, q4, l9]; try rfl) rfl ?_
 have hkf : KeepF [rb, w.heap.size + 1] [] w1 Wf := by
  have hos : Wr.os = w1.os ∧ Wr.tape = w1.tape ∧ Wr.output = w1.output := by rw [hWr]; exact ⟨rfl, rfl, rfl⟩
  exact ⟨hb5.os.trans (u3.1.trans hos.1), hb5.tape.trans (u3.2.1.trans hos.2.1), hb5.output.trans (u3.2.2.trans hos.2.2), by omega, fun k hk hn => (hb5.block k (by omega)).trans ((u1 k (fun e => hn (by simp [e]))).trans (hsr k (fun e => hn (by simp [e])))), fun k hk => by cases hk⟩
 have hit := (H1.out.1.keep hkf (fun k hk => by simp at hk; omega)).mono (show w.heap.size ≤ W0.heap.size by omega)
 have k1' := H1.out.2.2;have kd := H0.out.1;have kb := H0.out.2.1;refine ⟨_, rfl, hit, hrf, ?_, ?_, ?_, by omega, fun k hk hn => ?_, fun k hk => .inl hk⟩
 ·rw [hkf.os, k1'.os, kb.os, kd.os]
 ·rw [hkf.tape, k1'.tape, kb.tape, kd.tape]
 ·rw [hkf.output, k1'.output, kb.output, kd.output]
 ·rw [hkf.blk k (by omega) (fun hm => by simp at hm; rcases hm with hm | hm; exact hn (by simp [hm]); omega), k1'.blk k (by omega) hn, kb.block k (by omega), kd.blk k hk hn]
theorem sign_at (c : Nat) (t : ByteArray) (w : World) (h1 : 33 ≤ c) (h2 : c ≤ 126) (hib : Lib.indexByte [92, 91, 93, 40, 41, 123, 125, 124, 45] c.toUInt8 = -1) (hcv : ∀ w, (convert 21 9 (.int .i32 (c : Int))).run Tryz.prog w = .ok (.string t) w) :
  Calls Tryz.prog 158 #[.int .u8 (c : Int)] w fun e w' => e = .returned (.string t) ∧ w' = w := by
 have HI := Lib.hid (Tryz.strings_IndexByte ⟨#[92, 91, 93, 40, 41, 123, 125, 124, 45]⟩ (c : Int) w);have d1 : decide ((c : Int) < 33) = false := decide_eq_false (by omega)
 have d2 : decide ((126 : Int) < (c : Int)) = false := decide_eq_false (by omega)
 have d1' : decide (c < 33) = false := decide_eq_false (by omega)
 have d2' : decide (126 < c) = false := decide_eq_false (by omega)
 go_enter Tryz.func158, Tryz.ntmps158
 go_wp2_with fail;refine HI.out.mono ?_;rintro e w2 ⟨rfl, hw2⟩;subst hw2;have hib' : Lib.indexByte [92, 91, 93, 40, 41, 123, 125, 124, 45] ((c : Int).toNat.toUInt8) = -1 := hib;rw [show Lib.indexByte (⟨#[92, 91, 93, 40, 41, 123, 125, 124, 45]⟩ : ByteArray).data.toList ((c : Int).toNat.toUInt8) = -1 from hib'];have hd : decide ((0 : Int) ≤ -1) = false := by decide
 go_wp2_with fail;go_ret;exact ⟨rfl, rfl⟩
theorem bufKeep {b : Nat} {l' : List UInt8} {fp fp' : List Nat} {w w' : World} (h : BuK b l' fp' w') (hk : KeepF fp fp' w w') {k : Nat} (hn : k ∉ fp) (hl : k < w.heap.size) : k ∉ fp' ∧ w'.heap[k]? = w.heap[k]? :=
 ⟨fun hm => (hk.new k hm).elim hn (fun h => by omega), hk.blk k hl hn⟩
set_option maxHeartbeats 4000000 in
theorem wset_ab (b : Nat) (l : List UInt8) (fp : List Nat) (q c : Nat) (w : World) (h : BuK b l fp w) (hl : l.length ≤ 1000000) (hq : w.cell? ⟨q, 0, none⟩ = some (.int .u8 97) ∧ w.cell? ⟨q, 1, none⟩ = some (.int .u8 98)) (hqn : q ∉ fp) (hqs : q < w.heap.size) :
  Calls Tryz.prog 145 #[.pointer (some ⟨b, 0, none⟩), .slice (some ⟨q, 0, none⟩) 1 c] w fun e w' => e = .returned (.tuple #[]) ∧ ∃ fp', BuK b (l ++ [91, 97, 45, 98, 93]) fp' w' ∧ KeepF fp fp' w w' := by
 have S97 := Lib.hid (fun w => sign_at 97 ⟨#[97]⟩ w (by decide) (by decide) rfl (fun _ => by kernel_rfl))
 have S98 := Lib.hid (fun w => sign_at 98 ⟨#[98]⟩ w (by decide) (by decide) rfl (fun _ => by kernel_rfl))
 obtain ⟨q0, q1⟩ := hq;have HB := Lib.hid h;have HQ := Lib.hid (And.intro q0 (And.intro q1 (And.intro hqn hqs)));have H1 := Lib.hid (byte_K b l fp 91 91 rfl w h (by omega))
 clear h hqn
 go_enter Tryz.func145, Tryz.ntmps145
 go_wp2_with fail
 go_quiet (fail)
 go_wp2_with fail;refine calls_named fun W0 hW0 => ?_;have hb0 : Below w.heap.size w W0 := by rw [hW0]; exact below_drewN (Below.refl _ _) _
 have H1 := Lib.hid (byte_K b l fp 91 91 rfl W0 (HB.out.below hb0) (by omega))
 have HB0 := Lib.hid hb0;clear hW0 hb0 q0 q1 hqs;refine H1.out.mono ?_;rintro e w1 ⟨rfl, fp1, hk1, kf1⟩;have hqs0 : q < W0.heap.size := by have := HB0.out.size; have := HQ.out.2.2.2; omega
 obtain ⟨n1, e1⟩ := bufKeep hk1 kf1 HQ.out.2.2.1 hqs0;have q0 := (World.cell?_of_block (a := ⟨q, 0, none⟩) e1).trans ((HB0.out.cell (p := ⟨q, 0, none⟩) HQ.out.2.2.2).trans HQ.out.1);have q1 := (World.cell?_of_block (a := ⟨q, 1, none⟩) e1).trans ((HB0.out.cell (p := ⟨q, 1, none⟩) HQ.out.2.2.2).trans HQ.out.2.1);have hz1 := kf1.size;have ql : q < w1.heap.size := by omega
 have H2 := Lib.hid (And.intro hk1 kf1);clear hk1 kf1 n1 e1;go_wp2_with fail;refine wp_loop_rounds 2 ?_;rw [rounds_succ];go_wp2_with fail;refine calls_named fun W1 hW1 => ?_;have hbW : Below w1.heap.size w1 W1 := by rw [hW1]; exact (Below.refl _ _).alloc (Nat.le_refl _) _
 have hX1 : W1.heap[w1.heap.size]? = some (.cells #[.int .u8 97, .int .u8 98] 56 (0, 0)) := by rw [hW1]; exact heap_alloc_new w1 _
 have hzW : W1.heap.size = w1.heap.size + 1 := by rw [hW1]; simp
 clear hW1 q0 q1;refine (S97.out W1).mono ?_;rintro e w2 ⟨rfl, hw2⟩;rw [hw2];clear hw2;have hbk1 := H2.out.1.below hbW;have H3 := Lib.hid (str_K b (l ++ [91]) fp1 ⟨#[97]⟩ W1 hbk1 (by rw [List.length_append, List.length_singleton]; omega) (by decide))
 have hnx : w1.heap.size ∉ fp1 := fun hm => by have := H2.out.1.lt _ hm; omega
 have HW := Lib.hid (And.intro hbW (And.intro hX1 hnx));obtain ⟨x0, x1⟩ : W1.cell? ⟨w1.heap.size, 0, none⟩ = some (.int .u8 97) ∧ W1.cell? ⟨w1.heap.size, 1, none⟩ = some (.int .u8 98) := by constructor <;> (rw [cell_of_row _ _ _ _ _ _ hX1]; rfl)
 clear hbW hX1 hbk1 hnx;go_wp2_with fail;refine H3.out.mono ?_;rintro e w3 ⟨rfl, fp3, hk3, kf3⟩;obtain ⟨n3, e3⟩ := bufKeep hk3 kf3 HW.out.2.2 (by omega)
 have hX3 := e3.trans HW.out.2.1;have hz3 := kf3.size;clear x0 x1;obtain ⟨x0, x1⟩ : w3.cell? ⟨w1.heap.size, 0, none⟩ = some (.int .u8 97) ∧ w3.cell? ⟨w1.heap.size, 1, none⟩ = some (.int .u8 98) := by constructor <;> (rw [cell_of_row _ _ _ _ _ _ hX3]; rfl)
 have xl : w1.heap.size < w3.heap.size := by omega
 have H4 := Lib.hid (And.intro hk3 ((H2.out.2.trans (KeepF.of_below HW.out.1)).trans kf3));clear hk3 kf3 n3 e3 hX3;go_wp2_with fail;refine (S98.out w3).mono ?_;rintro e w4 ⟨rfl, hw4⟩;rw [hw4];clear hw4;go_wp2_with fail;have H5 := Lib.hid (str_K b (l ++ [91] ++ bl ⟨#[97]⟩) fp3 (({ data := #[45] } : ByteArray) ++ { data := #[98] }) w3 H4.out.1 (by rw [List.length_append, List.length_append, List.length_singleton, show (bl ⟨#[97]⟩).length = 1 from rfl]; omega) (by decide))
 refine H5.out.mono ?_;rintro e w5 ⟨rfl, fp5, hk5, kf5⟩;have hz5 := kf5.size;have H6 := Lib.hid (And.intro hk5 (H4.out.2.trans kf5));clear hk5 kf5 x0 x1;go_wp2_with fail;rw [rounds_succ];go_wp2_with fail;have H7 := Lib.hid (byte_K b _ fp5 93 93 rfl w5 H6.out.1 (by rw [List.length_append, List.length_append, List.length_append, List.length_singleton, show (bl ⟨#[97]⟩).length = 1 from rfl, show (bl (({ data := #[45] } : ByteArray) ++ { data := #[98] })).length = 2 from rfl]; omega))
 refine H7.out.mono ?_;rintro e w7 ⟨rfl, fp7, hk7, kf7⟩;have H8 := Lib.hid (And.intro hk7 (H6.out.2.trans kf7));clear hk7 kf7;go_wp2_with fail
 go_end0
 refine ⟨rfl, fp7, ?_, (KeepF.of_below HB0.out).trans H8.out.2⟩;have := H8.out.1;rw [show l ++ [91] ++ bl ⟨#[97]⟩ ++ bl (({ data := #[45] } : ByteArray) ++ { data := #[98] }) ++ [93] = l ++ [91, 97, 45, 98, 93] by
  rw [List.append_assoc, List.append_assoc, List.append_assoc]; rfl] at this
 exact this
def sumZ : List (List EdZ) → Nat
 | [] => 0
 | r :: l => r.length + sumZ l
theorem sumZ_drop {l : List (List EdZ)} {k : Nat} (h : k < l.length) : l[k].length + sumZ (l.drop (k + 1)) = sumZ (l.drop k) := by
 rw [List.drop_eq_getElem_cons h]
 rfl
theorem sumZ_le : ∀ {l : List (List EdZ)} {r : List EdZ}, r ∈ l → r.length ≤ sumZ l
 | a :: l, r, h => by
  rw [sumZ];rcases List.mem_cons.1 h with rfl | h
  ·omega
  ·have := sumZ_le h; omega
theorem sumZ_bd : ∀ {l : List (List EdZ)} {B : Nat}, (∀ r ∈ l, r.length ≤ B) → sumZ l ≤ l.length * B
 | [], B, _ => by simp [sumZ]
 | a :: l, B, h => by
  have h1 := h a (by simp)
  have h2 := sumZ_bd (l := l) (B := B) (fun x hx => h x (by simp [hx]))
  rw [sumZ, List.length_cons, Nat.succ_mul]; omega
def fewZ (m : Mz) : Bool := decide (m.ed.length ≤ 30) && decide (sumZ m.ed ≤ 100)
set_option maxHeartbeats 4000000 in
theorem few6_any (v : Value) (m : Mz) (w : World) (hm : McInZ w v m) (hrl : ∀ r ∈ m.ed, r.length ≤ 281474976710656) :
  Calls Tryz.prog 20 #[v] w fun e w' => e = .returned (.bool (fewZ m)) ∧ Below w.heap.size w w' := by
 obtain ⟨Ae, ce, Aa, ca, rfl, ⟨hce1, hce2⟩, -⟩ := mcz_form hm;obtain ⟨he, -⟩ : EsInZ w (.slice Ae m.ed.length ce) m.ed ∧ BlIn w (.slice Aa m.ac.length ca) m.ac := by
  obtain ⟨ve, va, e, h1, h2⟩ := hm;injection e with e;simp only [Array.mk.injEq, List.cons.injEq, and_true] at e;obtain ⟨rfl, rfl⟩ := e;exact ⟨h1, h2⟩
 have hbd := sumZ_bd hrl;obtain ⟨n, hn⟩ : ∃ n, m.ed.length = n := ⟨_, rfl⟩;obtain ⟨na, hna⟩ : ∃ n, m.ac.length = n := ⟨_, rfl⟩;obtain ⟨q, hq⟩ : ∃ q, fewZ m = q := ⟨_, rfl⟩;obtain ⟨S, hS⟩ : ∃ S, sumZ m.ed = S := ⟨_, rfl⟩;have hqv : (decide (n ≤ 30) && decide (S ≤ 100)) = q := by rw [← hq, ← hn, ← hS]; rfl
 have HE := Lib.hid he;have HQ := Lib.hid hqv;have HN := Lib.hid hn;have HS := Lib.hid hS;have HRL := Lib.hid hrl;rw [hn] at hce1 hbd;rw [hS] at hbd;rw [hq, hn, hna];have HBD := Lib.hid hbd;have hb0 : Below w.heap.size w (w.alloc (.cells #[.slice Ae n ce, .slice Aa na ca] 34)) := (Below.refl _ _).alloc (Nat.le_refl _) _;have HB0 := Lib.hid (And.intro hb0 (heap_alloc_new w (.cells #[.slice Ae n ce, .slice Aa na ca] 34)));clear he hn hna hq hS hqv hm hrl hbd hb0
 go_enter Tryz.func20, Tryz.ntmps20
 go_wp2_with fail
 go_loopw [3, 4] (fun s v wr => ∃ (k : Nat) (x : Int), k ≤ n ∧ v = .int .i64 (k : Int) ∧ s = .int .i64 x ∧ w.heap.size < wr.heap.size ∧ Hid ((Below w.heap.size w wr ∧ wr.heap[w.heap.size]? = some (.cells #[.slice Ae n ce, .slice Aa na ca] 34 (0, 0))) ∧ (n ≤ 30 → x + (sumZ (m.ed.drop k) : Int) = (S : Int) ∧ 0 ≤ x))) (fun _ v _ => n - (intOf v).toNat)
 case atStart => exact ⟨0, 0, by omega, rfl, rfl, by simp, HB0.out, fun _ => by rw [List.drop_zero, HS.out]; omega⟩
 case round =>
  obtain ⟨k, x, hk, rfl, rfl, hws, HB⟩ := hrel;have hbx := HB.out.1.2;obtain ⟨b0, b1⟩ : wr.cell? ⟨w.heap.size, 0, none⟩ = some (.slice Ae n ce) ∧ wr.cell? ⟨w.heap.size, 1, none⟩ = some (.slice Aa na ca) := by
   constructor <;> (rw [cell_of_row _ _ _ _ _ _ hbx]; rfl)
  clear hbx;by_cases hlt : k < n
  ·have hd : decide ((k : Int) < (n : Int)) = true := decide_eq_true (by omega)
   have hdn : decide (k < n) = true := decide_eq_true hlt;have hkm : k < m.ed.length := by rw [HN.out]; exact hlt
   obtain ⟨g, f, rv, rfl, -, hg, hcE, hed⟩ := HE.out.at_ hkm;have hcE2 := (HB.out.1.1.cell (p := ⟨g, f + k, none⟩) hg).trans hcE;have hdr := sumZ_drop hkm;have hl := HRL.out _ (List.getElem_mem hkm);obtain ⟨Ar, cr, rfl, hrc, -⟩ := hed;obtain ⟨L, hL⟩ : ∃ L, m.ed[k].length = L := ⟨_, rfl⟩;rw [hL] at hrc hcE hcE2 hdr hl;have hgw : g < wr.heap.size := by have := HB.out.1.1.size; omega
   obtain ⟨y, hy⟩ : ∃ y, IntKind.i64.wrap (x + (L : Int)) = y := ⟨_, rfl⟩;have HNX : Hid ((Below w.heap.size w wr ∧ wr.heap[w.heap.size]? = some (.cells #[.slice (some ⟨g, f, none⟩) n ce, .slice Aa na ca] 34 (0, 0))) ∧ (n ≤ 30 → y + (sumZ (m.ed.drop (k + 1)) : Int) = (S : Int) ∧ 0 ≤ y)) := ⟨HB.out.1, fun h => by
    have h1 := HB.out.2 h;have h2 := HBD.out;have : S ≤ 30 * 281474976710656 := Nat.le_trans h2 (Nat.mul_le_mul_right _ h);rw [IntWalk.i64_in _ (by omega)] at hy
    omega⟩
   clear hcE hdr hl hL hkm;go_wp2_with fail;go_roundw
   case rel => exact ⟨k + 1, y, by omega, by go_num, rfl, hws, HNX⟩
   case measure => simp [intOf]; omega
  ·obtain rfl : k = n := by omega
   have hd : decide ((k : Int) < (k : Int)) = false := decide_eq_false (by omega)
   have hdn : decide (k < k) = false := decide_eq_false (by omega)
   by_cases h30 : k ≤ 30
   ·have hd3 : decide ((k : Int) ≤ 30) = true := decide_eq_true (by omega)
    have hd3n : decide (k ≤ 30) = true := decide_eq_true h30;go_wp2_with fail;go_ret;refine ⟨?_, HB.out.1.1⟩;have hx := HB.out.2 h30;rw [List.drop_of_length_le (by rw [HN.out]; omega)] at hx
    have e : x = (S : Int) := by have : sumZ [] = 0 := rfl; omega
    subst e;have e2 : decide ((S : Int) ≤ 100) = decide (S ≤ 100) := by
     by_cases h : S ≤ 100
     ·rw [decide_eq_true h]; exact decide_eq_true (by omega)
     ·rw [decide_eq_false h]; exact decide_eq_false (by omega)
    have e3 := HQ.out;rw [hd3n, Bool.true_and] at e3;rw [← e3, ← e2]
    rfl
   ·have hd3 : decide ((k : Int) ≤ 30) = false := decide_eq_false (by omega)
    have hd3n : decide (k ≤ 30) = false := decide_eq_false h30;go_wp2_with fail;go_ret;have e3 := HQ.out;rw [hd3n, Bool.false_and] at e3;exact ⟨by rw [← e3]; rfl, HB.out.1.1⟩
def zE (e : Ed) : EdZ := ⟨e.lo, e.hi, (e.to : Int)⟩
def zM (m : Mc) : Mz := ⟨m.ed.map (·.map zE), m.ac⟩
theorem edz_of {w : World} {v : Value} {r : List Ed} (h : EdIn w v r) (hb : ∀ e ∈ r, e.lo < 256 ∧ e.hi < 256 ∧ e.to < 1000000) : EdInZ w v (r.map zE) := by
 obtain ⟨A, c, rfl, hc, h⟩ := h;refine ⟨A, c, by rw [List.length_map], by rw [List.length_map]; exact hc, ?_⟩
 rcases h with h | ⟨g, f, rfl, hg, hcell⟩
 ·exact .inl (by simp [h])
 ·refine .inr ⟨g, f, rfl, hg, fun i hi => ?_⟩;have hi' : i < r.length := by simpa using hi
  obtain ⟨p0, p1, p2⟩ := hcell i hi';have hbi := hb _ (List.getElem_mem hi');rw [List.getElem_map];exact ⟨⟨p0, p1, p2⟩, hbi.1, hbi.2.1, by show (-9223372036854775808 : Int) ≤ ((r[i].to : Nat) : Int); omega, by show ((r[i].to : Nat) : Int) < 9223372036854775808; omega⟩
theorem mcz_of {w : World} {v : Value} {m : Mc} (h : McIn w v m) (hv : Vld m) (hs : McSm m) : McInZ w v (zM m) := by
 obtain ⟨ve, va, rfl, ⟨A, c, rfl, hc, h1⟩, h2⟩ := h;refine ⟨_, va, rfl, ⟨A, c, by simp [zM], by simpa [zM] using hc, ?_⟩, h2⟩
 rcases h1 with h1 | ⟨g, f, rfl, hg, hcell⟩
 ·exact .inl (by simp [zM, h1])
 ·refine .inr ⟨g, f, rfl, hg, fun i hi => ?_⟩;have hi' : i < m.ed.length := by simpa [zM] using hi
  obtain ⟨rv, q1, q2⟩ := hcell i hi';have he : (zM m).ed[i] = m.ed[i].map zE := by simp [zM]
  rw [he];refine ⟨rv, q1, edz_of q2 fun e hee => ?_⟩;have hb := hs.by_ _ (List.getElem_mem hi') e hee;have ht := hv.to _ (List.getElem_mem hi') e hee;have hn := hs.n;exact ⟨hb.1, hb.2, by omega⟩
theorem zM_rows {m : Mc} {k : Nat} (hs : ∀ r ∈ m.ed, r.length ≤ k) : ∀ r ∈ (zM m).ed, r.length ≤ k := fun r hr => by
 obtain ⟨r', hr', rfl⟩ := List.mem_map.1 hr;rw [List.length_map]; exact hs r' hr'
end Go.Proofs.YtjhmipidmpmlmaaGreatDoor
