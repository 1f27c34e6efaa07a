/- Walk: law06.own. Printed by gen_oww.py. · A compile: a round of the groups. · Walks: the text of a pattern at one pattern: signs and sets. · Walks: the text of a pattern at one pattern. · Walks: pattern.Text and pattern.Parse at one text. · Walks: pattern.Parse at one text. · Walk: pattern.Parse at one text. · Walks: slices.Equal at rows of bools and of edges. -/
import Derived.Test.YtjhmipidmpmlmaaGreatDoorY23
import Derived.Test.YtjhmipidmpmlmaaGreatDoorY20
import Derived.Test.YtjhmipidmpmlmaaGreatDoorY15
import Derived.Test.YtjhmipidmpmlmaaGreatDoorY22
import Derived.Test.YtjhmipidmpmlmaaGreatDoorY13
import Derived.Test.YtjhmipidmpmlmaaGreatDoorY18
import Derived.Test.YtjhmipidmpmlmaaGreatDoorY06
namespace Go.Proofs.YtjhmipidmpmlmaaGreatDoor
set_option linter.unusedVariables false
set_option linter.unusedSimpArgs false
set_option maxRecDepth 100000
open Go.RowKit
structure OwW (b : Nat) (w : World) (n i : Nat) (vE vA : Value) (gv : List Value) (rs : List (List Ed)) (acs : List Bool) (wr : World) : Prop where
 mm : MkM (w.heap.size + 1) (w.heap.size + 1) [] vE vA gv rs acs wr
 rl : rs.length = i
 al : acs.length = i
 rok : ∀ r ∈ rs, r.length ≤ 3 ∧ ∃ a, OwI n r a
 tp : TapeOK b wr
 fr : Fr b w wr
 res : wr.heap[w.heap.size]? = some (.cells #[.slice none 0 0, .slice none 0 0] 34 (0, 0))
 rws : ∀ (i : Nat) (r : List Ed), rs[i]? = some r → ∃ u, gv[i]? = some u ∧ OR 58 3 edC (w.heap.size + 1) u r wr
 dst : ∀ (i j : Nat) (u v : Value), i < j → gv[i]? = some u → gv[j]? = some v → ∀ g, u.ownBlock = some g → v.ownBlock ≠ some g
theorem or_fr {b B n : Nat} {T : TypeId} {α : Type} {enc : α → List Value} {v : Value} {o : List α} {w w' : World} (h : OR T n enc B v o w) (hf : Fr b w w') (hb : b < B) : OR T n enc B v o w' :=
 OR.keep h fun g hg => hf.block g (World.ownsRow.lt h g hg).2 (fun e => by injection e with e; have := (World.ownsRow.lt h g hg).1; omega)
theorem OwW.next {b : Nat} {w : World} {n i : Nat} {vE vA : Value} {gv : List Value} {rs : List (List Ed)} {acs : List Bool} {wr w' : World} (h : OwW b w n i vE vA gv rs acs wr) (hb : b < w.heap.size) (ht : TapeOK b w') (hf : Fr b wr w') : OwW b w n i vE vA gv rs acs w' := by
 have hs := h.fr.size
 have hr := (Array.getElem?_eq_some_iff.1 h.res).1
 refine ⟨h.mm.low (L := [b]) (L' := []) ⟨hf.os, hf.tape, hf.output, hf.size, fun k hk hn => hf.block k hk (fun e => hn (by injection e with e; simp [e])), fun k hk => by cases hk⟩ (fun k hk => by rw [List.mem_singleton] at hk; omega), h.rl, h.al, h.rok, ht, h.fr.trans hf, (hf.block _ hr (fun e => by injection e; omega)).trans h.res, fun i r hi => ?_, h.dst⟩
 obtain ⟨u, h1, h2⟩ := h.rws i r hi
 exact ⟨u, h1, or_fr h2 hf (by omega)⟩
theorem fr_low {b : Nat} {w2 w5 w6 : World} (h : Fr b w2 w5) (h' : Below w2.heap.size w5 w6) : Fr b w2 w6 :=
 ⟨h'.os.trans h.os, h'.tape.trans h.tape, h'.output.trans h.output, Nat.le_trans h.size h'.size, fun k hk hne => (h'.block k hk).trans (h.block k hk hne)⟩
theorem fr_low' {b : Nat} {w w5 w6 : World} (h : Fr b w w5) (h' : Below w.heap.size w5 w6) : Fr b w w6 := fr_low h h'
theorem OwW.step {b : Nat} {w : World} {n i : Nat} {vE vA x y rv : Value} {gv : List Value} {rs : List (List Ed)} {acs : List Bool} {p : List Ed} {q : Bool} {a : Nat} {wr w' : World} (h : OwW b w n i vE vA gv rs acs wr) (hb : b < w.heap.size)
  (hm : MkM (w.heap.size + 1) (w.heap.size + 1) [] x y (gv ++ [rv]) (rs ++ [p]) (acs ++ [q]) w') (hk : KeepF (b :: fpM (w.heap.size + 1) vE vA) [] wr w') (ht : TapeOK b w') (hp : p.length ≤ 3) (hI : OwI n p a) {B2 : Nat} (hB2 : ∀ k ∈ fpM (w.heap.size + 1) vE vA, k < B2) (hB3 : ∀ (i : Nat) (u : Value), gv[i]? = some u → ∀ g, u.ownBlock = some g → g < B2) (hBw : w.heap.size < B2) (hrow : OR 58 3 edC B2 rv p wr) : OwW b w n (i + 1) x y (gv ++ [rv]) (rs ++ [p]) (acs ++ [q]) w' := by
 have hs := h.fr.size
 have hr := (Array.getElem?_eq_some_iff.1 h.res).1
 have hlow : ∀ k, k < w.heap.size + 1 → k ≠ b → w'.heap[k]? = wr.heap[k]? := fun k hk1 hk2 => hk.blk k (by omega) fun hm => (List.mem_cons.1 hm).elim hk2 fun hm => by have := (h.mm.lt k hm).1; omega
 refine ⟨hm, by rw [List.length_append, h.rl]; rfl, by rw [List.length_append, h.al]; rfl, fun r hr => ?_, ht, ⟨hk.os.trans h.fr.os, hk.tape.trans h.fr.tape, hk.output.trans h.fr.output, Nat.le_trans hs hk.size, fun k hk1 hne => (hlow k (by omega) (fun e => hne (by rw [e]))).trans (h.fr.block k hk1 hne)⟩, (hlow _ (by omega) (by omega)).trans h.res, fun i' r hi => ?_, fun i' j' u v hij hu hv g hg => ?_⟩
 rotate_left
 ·have hgl : gv.length = rs.length := by have := h.mm.own.1; omega
  by_cases hlt : i' < rs.length
  ·rw [List.getElem?_append_left hlt] at hi
   obtain ⟨u, h1, h2⟩ := h.rws i' r hi
   obtain ⟨u', h1', -, h3', -⟩ := h.mm.gvs i' hlt
   have e : u = u' := by rw [h1] at h1'; exact Option.some.inj h1'
   subst e
   refine ⟨u, by rw [List.getElem?_append_left (by omega)]; exact h1, OR.keep h2 fun g hg => hk.blk g (World.ownsRow.lt h2 g hg).2 fun hm => ?_⟩
   rcases List.mem_cons.1 hm with e | hm
   ·have := (World.ownsRow.lt h2 g hg).1; omega
   ·exact h3' g hg hm
  ·have hie : i' = rs.length := by
    have := (List.getElem?_eq_some_iff.1 hi).1
    simp at this; omega
   subst hie
   rw [List.getElem?_append_right (Nat.le_refl _)] at hi
   simp at hi
   subst hi
   refine ⟨rv, by rw [List.getElem?_append_right (by omega), hgl]; simp, OR.mono (OR.keep hrow fun g hg => hk.blk g (World.ownsRow.lt hrow g hg).2 fun hm => ?_) (by omega)⟩
   have h5 := (World.ownsRow.lt hrow g hg).1
   rcases List.mem_cons.1 hm with e | hm
   ·omega
   ·have := hB2 g hm; omega
 ·have hgl : gv.length = rs.length := by have := h.mm.own.1; omega
  by_cases hlt : j' < gv.length
  ·rw [List.getElem?_append_left hlt] at hv
   rw [List.getElem?_append_left (by omega)] at hu
   exact h.dst i' j' u v hij hu hv g hg
  ·have hje : j' = gv.length := by
    have := (List.getElem?_eq_some_iff.1 hv).1
    simp at this; omega
   subst hje
   rw [List.getElem?_append_right (Nat.le_refl _)] at hv
   simp at hv
   subst hv
   rw [List.getElem?_append_left (by omega)] at hu
   intro hgr
   have h1 := hB3 i' u hu g hg
   have h2 := (World.ownsRow.lt hrow g hgr).1
   omega
 rcases List.mem_append.1 hr with h1 | h1
 ·exact h.rok r h1
 ·rw [List.mem_singleton] at h1; subst h1; exact ⟨hp, a, hI⟩
theorem own_monoO {w : World} {B B' k n : Nat} {e : TypeId} {v : Value} {xs : List Value} (h : w.ownsRow B e k v n xs) (hB : B' ≤ B) : w.ownsRow B' e k v n xs := by
 refine ⟨h.1, h.2.imp id ?_⟩
 rintro ⟨g, cap, cur, h1, h2, h3⟩
 exact ⟨g, cap, cur, h1, Nat.le_trans hB h2, h3⟩
def OwR (B : Nat) (w : World) (v : Value) (m : Mc) : Prop := ∃ vE vA gv, v = .agg #[vE, vA] ∧ w.ownsRow B 53 1 vE m.ed.length gv ∧ OR 4 1 bC B vA m.ac w ∧ (∀ (i : Nat) (r : List Ed), m.ed[i]? = some r → ∃ u, gv[i]? = some u ∧ OR 58 3 edC B u r w) ∧ (∀ (i j : Nat) (u v : Value), i < j → gv[i]? = some u → gv[j]? = some v → ∀ g, u.ownBlock = some g → v.ownBlock ≠ some g) ∧ ∀ (i : Nat), i < m.ed.length → ∃ r, m.ed[i]? = some r ∧ r.length ≤ 3
def OwPost2 (b : Nat) (w : World) (e : Ending) (w' : World) : Prop := ∃ rv m, e = .returned rv ∧ McUp w.heap.size w' rv m ∧ Vld m ∧ McSm m ∧ (1 ≤ m.ed.length ∧ m.ed.length ≤ 5) ∧ TapeOK b w' ∧ Fr b w w' ∧ OwR w.heap.size w' rv m
def OwPost (b : Nat) (w : World) (e : Ending) (w' : World) : Prop := ∃ rv m, e = .returned rv ∧ McUp w.heap.size w' rv m ∧ Vld m ∧ McSm m ∧ (1 ≤ m.ed.length ∧ m.ed.length ≤ 5) ∧ TapeOK b w' ∧ Fr b w w'
def factO15 (b B N i cE cA : Nat) (AE AK : Option Addr) (gv : List Value) (acs : List Bool) (rv : Value) (W : World) : Nat → Nat → Value → World → Prop
 | c, 0, x, w => x = .pointer (some ⟨N, 0, none⟩)
 | c, 1, x, w => x = .slice AE i cE
 | c, 2, x, w => x = rv
 | c, 3, x, w => c = 1 → ∃ g, x = .slice (some ⟨g, 0, none⟩) 1 1 ∧ g < w.heap.size ∧ w.cell? ⟨g, 0, none⟩ = some rv
 | c, 4, x, w => FEo B (i + 1) (.slice AE i cE) rv gv W c x w
 | c, 5, x, w => x = .pointer (some ⟨N, 1, none⟩)
 | c, 6, x, w => x = .slice AK i cA
 | c, 7, x, w => x = .pointer (some ⟨b, 0, none⟩)
 | c, 8, x, w => ∃ r, x = .int .i64 r
 | c, 9, x, w => ∃ q, x = .bool q
 | c, 10, x, w => c = 4 → ∃ g q, x = .slice (some ⟨g, 0, none⟩) 1 1 ∧ g < w.heap.size ∧ w.cell? ⟨g, 0, none⟩ = some (.bool q)
 | c, 11, x, w => FAo B (i + 1) (.slice AK i cA) acs W c x w
 | c, 12, x, w => x = .pointer (some ⟨N, 0, none⟩)
 | c, 13, x, w => FBo B N (i + 1) (.slice AE i cE) (.slice AK i cA) rv gv W c w
 | c, 14, x, w => x = .pointer (some ⟨N, 1, none⟩)
 | _, _, _, _ => True
set_option maxHeartbeats 4000000 in
theorem own2_any (b : Nat) (w : World) (ht : TapeOK b w) : Calls Tryz.prog 19 #[.pointer (some ⟨b, 0, none⟩)] w (OwPost2 b w) := by
 have hbl := ht.lt
 obtain ⟨ie, hie, hke0, hke1, hke2⟩ := info_parts info_ed
 obtain ⟨is, his, he0, he1, he2⟩ := info_parts info_es
 obtain ⟨ib, hib, hb0', hb1, hb2⟩ := info_parts info_bool
 have HT := Lib.hid ht
 clear ht
 go_enter Tryz.func19, Tryz.ntmps19
 go_wp2_with fail
 refine calls_named fun W0 hW0 => ?_
 have hb0 : Below w.heap.size w W0 := by rw [hW0]; exact ((Below.refl _ _).alloc (Nat.le_refl _) _).alloc (by simp) _
 have hr0 : W0.heap[w.heap.size]? = some (.cells #[.slice none 0 0, .slice none 0 0] 34 (0, 0)) := by rw [hW0, old_alloc _ _ _ (by simp)]; exact heap_alloc_new w _
 have hr1 : W0.heap[w.heap.size + 1]? = some (.cells #[.slice none 0 0, .slice none 0 0] 34 (0, 0)) := by rw [hW0]; simpa using heap_alloc_new (w.alloc (.cells #[.slice none 0 0, .slice none 0 0] 34)) (.cells #[.slice none 0 0, .slice none 0 0] 34)
 have hO0 : ∀ n, OwW b w n 0 (.slice none 0 0) (.slice none 0 0) [] [] [] W0 := fun n => ⟨⟨hr1, by omega, World.ownsRow_nil _ _ _ _, fun i hi => absurd hi (Nat.not_lt_zero _), OR.nil_ _ _ _, fun k hk h => (by cases h)⟩, rfl, rfl, fun r hr => (by cases hr), HT.out.below hb0, Fr.of_below hb0, hr0, fun i r hi => (by cases hi), fun i j u v _ hu => (by cases hu)⟩
 have HO0 := Lib.hid hO0
 clear hW0 hb0 hr0 hr1 hO0
 refine (between_any b 1 5 W0 (by decide) (by decide) (by decide) (HO0.out 0).tp).mono ?_
 rintro e w1 ⟨r, rfl, hr1, hr5, ht1, hf1⟩
 obtain ⟨n, rfl⟩ : ∃ n : Nat, r = (n : Int) := ⟨r.toNat, by omega⟩
 have HO1 := Lib.hid ((HO0.out n).next hbl ht1 hf1)
 have hn1 : 1 ≤ n := by omega
 have hn5 : n ≤ 5 := by omega
 clear ht1 hf1 HO0 hr1 hr5
 go_wp2_with fail
 go_loopw [5] (fun v wr => ∃ i : Nat, i ≤ n ∧ v = .int .i64 (i : Int) ∧ Hid (∃ vE vA gv rs acs, OwW b w n i vE vA gv rs acs wr)) (fun v _ => n - (intOf v).toNat)
 case atStart => exact ⟨0, by omega, rfl, _, _, _, _, _, HO1.out⟩
 case round =>
  obtain ⟨i, hi, rfl, HO⟩ := hrel
  by_cases hlt : i < n
  ·have hd : decide ((i : Int) < (n : Int)) = true := decide_eq_true (by omega)
   have hdn : decide (i < n) = true := decide_eq_true hlt
   obtain ⟨vE, vA, gv, rs, acs, hO⟩ := HO.out
   have HOW := Lib.hid hO
   clear hO
   go_wp2_with fail
   refine (next_any b 4 wr (by decide) (by decide) HOW.out.tp).mono ?_
   rintro e w2 ⟨r, rfl, hr1, hr2, ht2, hf2⟩
   obtain ⟨c, rfl⟩ : ∃ c : Nat, r = (c : Int) := ⟨r.toNat, by omega⟩
   have HO2 := Lib.hid (HOW.out.next hbl ht2 hf2)
   have hc3 : c ≤ 3 := by omega
   have hbl2 : b < w2.heap.size := ht2.lt
   clear ht2 hf2 hr1 hr2
   go_wp2_with fail
   go_loopg [6, 7, 8] c (fun q s6 s7 s8 wr => ∃ (a : Nat) (p : List Ed), s7 = .int .i64 (a : Int) ∧ s8 = .int .i64 (q : Int) ∧ p.length + q ≤ 3 ∧ a ≤ 256 ∧ Hid (OwI n p a) ∧ Hid (Fr b w2 wr ∧ TapeOK b wr ∧ OR 58 3 edC w2.heap.size s6 p wr))
   case atStart => exact ⟨0, [], rfl, rfl, by simp; omega, by omega, OwI.start n, Fr.refl _ _, HO2.out.tp, OR.nil_ _ _ _⟩
   case round =>
    obtain ⟨a, p, rfl, rfl, hpq, ha, HI, HW⟩ := hrel
    obtain ⟨A6, c6, rfl⟩ : ∃ A c, u6 = .slice A p.length c := by
     obtain ⟨A, c, e, -⟩ := own_form (show wr.ownsRow _ _ _ _ _ _ from HW.out.2.2)
     exact ⟨A, c, e⟩
    cases gk with
    | zero =>
     have hd0 : decide ((0 : Int) < 0) = false := by decide
     obtain ⟨np, hnp⟩ : ∃ k, p.length = k := ⟨_, rfl⟩
     rw [hnp] at hpq ⊢
     have HP := Lib.hid hnp
     have hOr := HO2.out.next hbl HW.out.2.1 HW.out.1
     obtain ⟨AE, cE, eE, -, -⟩ := own_form hOr.mm.own
     rw [hOr.rl] at eE
     obtain ⟨AK, cA, eA, -, -⟩ := own_form (show wr.ownsRow _ _ _ _ _ _ from hOr.mm.acc)
     rw [hOr.al] at eA
     subst eE eA
     have hN := hOr.mm.hN
     obtain ⟨xn0, xn1⟩ : wr.cell? ⟨w.heap.size + 1, 0, none⟩ = some (.slice AE i cE) ∧ wr.cell? ⟨w.heap.size + 1, 1, none⟩ = some (.slice AK i cA) := by constructor <;> (rw [cell_of_row _ _ _ _ _ _ hN]; rfl)
     have lN : w.heap.size + 1 < wr.heap.size := (Array.getElem?_eq_some_iff.1 hN).1
     have hbr : Below wr.heap.size wr wr.drew := (Below.refl _ _).drew
     have hS0 : StO b (w.heap.size + 1) (w.heap.size + 1) i (.slice AE i cE) (.slice AK i cA) gv rs acs wr 0 wr.drew :=
      StO.bel (c := 0) (w := wr) ⟨hOr.mm, by omega, kf_bel (Below.refl _ _), hOr.tp, fun _ => rfl, fun _ => by have := hOr.mm.own; rwa [hOr.rl] at this, fun _ => by have : wr.ownsRow _ _ _ _ _ _ := hOr.mm.acc; rwa [hOr.al] at this⟩ hbr (Nat.le_refl _)
     have HNR := Lib.hid hN
     have HOr := Lib.hid hOr
     have hn5' : i < 5 := by omega
     clear hN hOr hnp hbr
     go_wp2_with fail
     refine wp_region_chain 15 [3, 4, 8, 10, 11, 13] (factO15 b (w.heap.size + 1) (w.heap.size + 1) i cE cA AE AK gv acs (.slice A6 np c6) wr) (fun c w' => StO b (w.heap.size + 1) (w.heap.size + 1) i (.slice AE i cE) (.slice AK i cA) gv rs acs wr c w') (by kernel_rfl) (by kernel_rfl) (by kernel_rfl) (by kernel_rfl) (by kernel_rfl) (by kernel_rfl) (by decide) hS0 ?_ ?_
     ·simp only [pq4, pq5]
      refine HSteps.pure (by decide) ?_ (HSteps.pure (by decide) ?_ (HSteps.pure (by decide) ?_ (HSteps.eff 0 rfl ?_ (HSteps.eff 1 rfl ?_ (HSteps.pure (by decide) ?_ (HSteps.pure (by decide) ?_ (HSteps.pure (by decide) ?_ (HSteps.eff 2 rfl ?_ (HSteps.pure (by decide) ?_ (HSteps.eff 3 rfl ?_ (HSteps.eff 4 rfl ?_ (HSteps.pure (by decide) ?_ (HSteps.eff 5 rfl ?_ (HSteps.pure (by decide) ?_ (HSteps.nil)))))))))))))))
      ·intro v wz c hlo hS hE K hK
       simp only [putAll, Act.put, pq1, pq2, pq3, Nat.zero_add, Nat.reduceAdd, pq4, pq5] at hK ⊢
       have HX := Lib.hid hS
       clear hS hE hlo
       go_wp2_with fail
       exact hK.out _ rfl
      ·intro v wz c hlo hS hE K hK
       simp only [putAll, Act.put, pq1, pq2, pq3, Nat.zero_add, Nat.reduceAdd, pq4, pq5] at hK ⊢
       have e0 : v 0 = _ := hE.1 rfl
       rw [e0] at hK ⊢
       have hc1 := hlo 1 (by kernel_rfl)
       have c1 := (World.cell?_of_block (a := ⟨w.heap.size + 1, 0, none⟩) (hS.bx (by omega))).trans xn0
       have l1 : w.heap.size + 1 < wz.heap.size := by have := hS.kf.size; omega
       clear hc1
       have HX := Lib.hid hS
       clear hS hE hlo
       go_wp2_with fail
       exact hK.out _ rfl
      ·intro v wz c hlo hS hE K hK
       simp only [putAll, Act.put, pq1, pq2, pq3, Nat.zero_add, Nat.reduceAdd, pq4, pq5] at hK ⊢
       have HX := Lib.hid hS
       clear hS hE hlo
       go_wp2_with fail
       exact hK.out _ rfl
      ·intro v wz hS hE K hK
       simp only [putAll, Act.put, pq1, pq2, pq3, Nat.zero_add, Nat.reduceAdd, pq4, pq5] at hK ⊢
       have e2 : v 2 = _ := hE.1 rfl
       rw [e2] at hK ⊢
       have HX := Lib.hid hS
       clear hS hE
       go_wp2_with fail
       have hbz : Below wz.heap.size wz (wz.alloc (.cells #[.slice A6 np c6] 53)) := (Below.refl _ _).alloc (Nat.le_refl _) _
       refine hK.out _ _ (fun j z hj h => ?_) (HX.out.bel hbz (by decide)) (fun _ => ⟨wz.heap.size, rfl, by simp, by go_simp⟩)
       match j with
       | 0 | 1 | 2 | 5 | 6 | 7 | 8 | 9 | 12 | 14 => exact h
       | 4 => exact fun h1 => by omega
       | 10 => exact fun hc => by omega
       | 11 => exact fun h1 => by omega
       | 13 => exact fun hc => by omega
       | 3 => exact absurd rfl hj
       | _ + 15 => exact trivial
      ·intro v wz hS hE K hK
       simp only [putAll, Act.put, pq1, pq2, pq3, Nat.zero_add, Nat.reduceAdd, pq4, pq5] at hK ⊢
       have e1 : v 1 = _ := hE.1 rfl
       rw [e1] at hK ⊢
       have E3 := hE.2.1 rfl
       obtain ⟨g, e3, hgl, hg0⟩ := E3 rfl
       rw [e3] at hK ⊢
       have hown := hS.ve (by decide)
       have hcell : ∀ j u, ([.slice A6 np c6] : List Value)[j]? = some u → wz.cell? ((⟨g, 0, none⟩ : Addr).add j) = some u := fun j u hj => by
        match j, hj with
        | 0, hj => simp at hj; rw [← hj, Addr.add_lit]; exact hg0
       have hzz := hS.kf.size
       have HX := Lib.hid hS
       clear hS hE E3
       go_wp2_with (at_builtin; refine appI_at rfl _ _ 31 rfl (w.heap.size + 1) 53 is (.slice none 0 0) 1 24 Tryz.underlying31 his he0 he1 he2 rfl (by decide) _ i gv rfl hown ⟨g, 0, none⟩ 1 1 [.slice A6 np c6] rfl rfl hcell (by intro u hu; simp at hu; subst hu; rfl) (by unfold maxLen; omega) (by omega) (by omega) ?_)
       intro v' wx hown1 hg1 hfr
       obtain ⟨A', c', rfl, -, -⟩ := own_form hown1
       have hfr2 : Fresh (.slice A' (i + 1) c') (.slice AE i cE) wr.heap.size := hfr.imp id fun ⟨g, h1, h2⟩ => ⟨g, h1, Nat.le_trans hzz h2⟩
       refine hK.out _ _ (fun j z hj h => ?_) (HX.out.apE hg1) (fun _ _ => ⟨⟨A', c', rfl⟩, hown1, hfr2⟩)
       match j with
       | 0 | 1 | 2 | 5 | 6 | 7 | 8 | 9 | 12 | 14 => exact h
       | 3 => exact fun hc => by omega
       | 10 => exact fun hc => by omega
       | 11 => exact fun h1 => by omega
       | 13 => exact fun hc => by omega
       | 4 => exact absurd rfl hj
       | _ + 15 => exact trivial
      ·intro v wz c hlo hS hE K hK
       simp only [putAll, Act.put, pq1, pq2, pq3, Nat.zero_add, Nat.reduceAdd, pq4, pq5] at hK ⊢
       have HX := Lib.hid hS
       clear hS hE hlo
       go_wp2_with fail
       exact hK.out _ rfl
      ·intro v wz c hlo hS hE K hK
       simp only [putAll, Act.put, pq1, pq2, pq3, Nat.zero_add, Nat.reduceAdd, pq4, pq5] at hK ⊢
       have e5 : v 5 = _ := hE.1 rfl
       rw [e5] at hK ⊢
       have hc4 := hlo 4 (by kernel_rfl)
       have c1 := (World.cell?_of_block (a := ⟨w.heap.size + 1, 1, none⟩) (hS.bx (by omega))).trans xn1
       have l1 : w.heap.size + 1 < wz.heap.size := by have := hS.kf.size; omega
       clear hc4
       have HX := Lib.hid hS
       clear hS hE hlo
       go_wp2_with fail
       exact hK.out _ rfl
      ·intro v wz c hlo hS hE K hK
       simp only [putAll, Act.put, pq1, pq2, pq3, Nat.zero_add, Nat.reduceAdd, pq4, pq5] at hK ⊢
       have HX := Lib.hid hS
       clear hS hE hlo
       go_wp2_with fail
       exact hK.out _ rfl
      ·intro v wz hS hE K hK
       simp only [putAll, Act.put, pq1, pq2, pq3, Nat.zero_add, Nat.reduceAdd, pq4, pq5] at hK ⊢
       have e7 : v 7 = _ := hE.1 rfl
       rw [e7] at hK ⊢
       have HX := Lib.hid hS
       clear hS hE
       go_wp2_with fail
       refine (next_any b 3 wz (by decide) (by decide) HX.out.tp).mono ?_
       rintro e wy ⟨r, rfl, hr0, hr1, hty, hfy⟩
       have HY := Lib.hid (And.intro hty hfy)
       clear hty hfy hr0 hr1
       go_wp2_with fail
       refine hK.out _ _ (fun j z hj h => ?_) (HX.out.nxt HY.out.2 HY.out.1 (by decide)) ⟨r, rfl⟩
       match j with
       | 0 | 1 | 2 | 5 | 6 | 7 | 9 | 12 | 14 => exact h
       | 3 => exact fun hc => by omega
       | 4 => exact FEo.nxt h HY.out.2 HX.out.bB (by decide) (by decide)
       | 10 => exact fun hc => by omega
       | 11 => exact fun h1 => by omega
       | 13 => exact fun hc => by omega
       | 8 => exact absurd rfl hj
       | _ + 15 => exact trivial
      ·intro v wz c hlo hS hE K hK
       simp only [putAll, Act.put, pq1, pq2, pq3, Nat.zero_add, Nat.reduceAdd, pq4, pq5] at hK ⊢
       have E8 := hE.1 rfl
       obtain ⟨r, e8⟩ := E8
       rw [e8] at hK ⊢
       have HX := Lib.hid hS
       clear hS hE hlo
       go_wp2_with fail
       exact hK.out _ ⟨_, rfl⟩
      ·intro v wz hS hE K hK
       simp only [putAll, Act.put, pq1, pq2, pq3, Nat.zero_add, Nat.reduceAdd, pq4, pq5] at hK ⊢
       have E9 := hE.1 rfl
       obtain ⟨q, e9⟩ := E9
       rw [e9] at hK ⊢
       have HX := Lib.hid hS
       clear hS hE
       go_wp2_with fail
       have hbz : Below wz.heap.size wz (wz.alloc (.cells #[.bool q] 4)) := (Below.refl _ _).alloc (Nat.le_refl _) _
       refine hK.out _ _ (fun j z hj h => ?_) (HX.out.bel hbz (by decide)) (fun _ => ⟨wz.heap.size, q, rfl, by simp, by go_simp⟩)
       match j with
       | 0 | 1 | 2 | 5 | 6 | 7 | 8 | 9 | 12 | 14 => exact h
       | 3 => exact fun hc => by omega
       | 4 => exact FEo.bel h hbz (by decide) (by decide)
       | 11 => exact fun h1 => by omega
       | 13 => exact fun hc => by omega
       | 10 => exact absurd rfl hj
       | _ + 15 => exact trivial
      ·intro v wz hS hE K hK
       simp only [putAll, Act.put, pq1, pq2, pq3, Nat.zero_add, Nat.reduceAdd, pq4, pq5] at hK ⊢
       have e6 : v 6 = _ := hE.1 rfl
       rw [e6] at hK ⊢
       have E10 := hE.2.1 rfl
       obtain ⟨g, q, e10, hgl, hg0⟩ := E10 rfl
       rw [e10] at hK ⊢
       have hown := hS.va (by decide)
       have hcell : ∀ j u, ([.bool q] : List Value)[j]? = some u → wz.cell? ((⟨g, 0, none⟩ : Addr).add j) = some u := fun j u hj => by
        match j, hj with
        | 0, hj => simp at hj; rw [← hj, Addr.add_lit]; exact hg0
       have hzz := hS.kf.size
       have HX := Lib.hid hS
       have HOA := Lib.hid hown
       clear hS hE E10
       go_wp2_with (at_builtin; refine appI_at rfl _ _ 32 rfl (w.heap.size + 1) 4 ib (.bool false) 1 1 Tryz.underlying32 hib hb0' hb1 hb2 rfl (by decide) _ i (rowF bC acs) rfl hown ⟨g, 0, none⟩ 1 1 [.bool q] rfl rfl hcell (by intro u hu; simp at hu; subst hu; rfl) (by unfold maxLen; omega) (by omega) (by omega) ?_)
       intro v' wx hown1 hg1 hfr
       obtain ⟨A', c', rfl, -, -⟩ := own_form hown1
       have hfr2 : Fresh (.slice A' (i + 1) c') (.slice AK i cA) wr.heap.size := hfr.imp id fun ⟨g, h1, h2⟩ => ⟨g, h1, Nat.le_trans hzz h2⟩
       refine hK.out _ _ (fun j z hj h => ?_) (HX.out.apA hg1) (fun _ => ⟨⟨A', c', rfl⟩, ⟨q, hown1⟩, hfr2⟩)
       match j with
       | 0 | 1 | 2 | 5 | 6 | 7 | 8 | 9 | 12 | 14 => exact h
       | 3 => exact fun hc => by omega
       | 4 => exact FEo.apA h HOA.out hg1 (by decide) (by decide)
       | 10 => exact fun hc => by omega
       | 13 => exact fun hc => by omega
       | 11 => exact absurd rfl hj
       | _ + 15 => exact trivial
      ·intro v wz c hlo hS hE K hK
       simp only [putAll, Act.put, pq1, pq2, pq3, Nat.zero_add, Nat.reduceAdd, pq4, pq5] at hK ⊢
       have HX := Lib.hid hS
       clear hS hE hlo
       go_wp2_with fail
       exact hK.out _ rfl
      ·intro v wz hS hE K hK
       simp only [putAll, Act.put, pq1, pq2, pq3, Nat.zero_add, Nat.reduceAdd, pq4, pq5] at hK ⊢
       have e12 : v 12 = _ := hE.1 rfl
       rw [e12] at hK ⊢
       have E4 := hE.2.1 rfl
       obtain ⟨⟨A4, c4, e4⟩, o4, f4⟩ := id E4 (by decide) (by decide)
       rw [e4] at hK E4 ⊢
       have hrow := (hS.bx (by decide)).trans HNR.out
       have cz : wz.cell? ⟨w.heap.size + 1, 0, none⟩ = some (.slice AE i cE) := by rw [cell_of_row _ _ _ _ _ _ hrow]; rfl
       have fz : wz.frozen? ⟨w.heap.size + 1, 0, none⟩ = false := by simp [World.frozen?, hrow]
       have HX := Lib.hid hS
       have HO := Lib.hid (And.intro E4 hrow)
       clear hS hE o4 f4 hrow e4 E4
       go_wp2_with fail
       refine hK.out undef _ (fun j z hj h => ?_) HX.out.set (FBo.set HO.out.1 HO.out.2)
       match j with
       | 0 | 1 | 2 | 5 | 6 | 7 | 8 | 9 | 12 | 14 => exact h
       | 3 => exact fun hc => by omega
       | 4 => exact fun _ h1 => by omega
       | 10 => exact fun hc => by omega
       | 11 => exact FAo.set h HO.out.2
       | 13 => exact absurd rfl hj
       | _ + 15 => exact trivial
      ·intro v wz c hlo hS hE K hK
       simp only [putAll, Act.put, pq1, pq2, pq3, Nat.zero_add, Nat.reduceAdd, pq4, pq5] at hK ⊢
       have HX := Lib.hid hS
       clear hS hE hlo
       go_wp2_with fail
       exact hK.out _ rfl
     ·intro v wz hS hF
      have e0 : v 0 = _ := hF 0 (by decide)
      have e1 : v 1 = _ := hF 1 (by decide)
      have e2 : v 2 = _ := hF 2 (by decide)
      have e5 : v 5 = _ := hF 5 (by decide)
      have e6 : v 6 = _ := hF 6 (by decide)
      have e7 : v 7 = _ := hF 7 (by decide)
      have e12 : v 12 = _ := hF 12 (by decide)
      have e14 : v 14 = _ := hF 14 (by decide)
      have E3 := hF 3 (by decide)
      have E4 := hF 4 (by decide)
      have E8 := hF 8 (by decide)
      have E9 := hF 9 (by decide)
      have E10 := hF 10 (by decide)
      have E11 := hF 11 (by decide)
      have E13 := hF 13 (by decide)
      simp only [putAll, Act.put, pq1, pq2, pq3, Nat.zero_add, Nat.reduceAdd, pq4, pq5, List.drop_succ_cons, List.drop_zero, e0, e1, e2, e5, e6, e7, e12, e14]
      clear hF e0 e1 e2 e5 e6 e7 e12 e14
      have h13 := E13
      have h11 := E11
      obtain ⟨⟨A8, c8, e8⟩, -, -⟩ := id E11 (by decide)
      rw [e8] at h11 ⊢
      obtain ⟨x4, -, -, hbx⟩ := id E13 rfl
      have cz1 : wz.cell? ⟨w.heap.size + 1, 1, none⟩ = some (.slice AK i cA) := by rw [cell_of_row _ _ _ _ _ _ hbx]; rfl
      have fz1 : wz.frozen? ⟨w.heap.size + 1, 1, none⟩ = false := by simp [World.frozen?, hbx]
      have lNz : w.heap.size + 1 < wz.heap.size := (Array.getElem?_eq_some_iff.1 hbx).1
      have hrow : OR 58 3 edC w2.heap.size (.slice A6 np c6) p wr := by have := HW.out.2.2; rw [HP.out] at this; exact this
      obtain ⟨x5, q, hmm, hkk, htt⟩ := hS.done h13 h11 HOr.out.rl HOr.out.al (EdIn.of_OR hrow) (fun g hg hm => by have h1 := (World.ownsRow.lt hrow g hg).1; have h2 := (HO2.out.mm.lt g hm).2; omega) (fun g hg => by have h1 := World.ownsRow.lt hrow g hg; have := (Array.getElem?_eq_some_iff.1 HO2.out.mm.hN).1; omega)
      have HST := Lib.hid (HOr.out.step hbl hmm hkk htt (show p.length ≤ 3 by have := HP.out; omega) HI.out (B2 := w2.heap.size) (fun k hk => (HO2.out.mm.lt k hk).2) (fun i' u hu g hg => by obtain ⟨u', h1, -, -, -, h5⟩ := HO2.out.mm.gvs i' (by have := (List.getElem?_eq_some_iff.1 hu).1; have := HO2.out.mm.own.1; omega); rw [hu] at h1; obtain rfl := Option.some.inj h1; exact (h5 g hg).2) (by have := (Array.getElem?_eq_some_iff.1 HO2.out.mm.hN).1; omega) hrow)
      clear hS E3 E4 E8 E9 E10 E11 E13 h13 h11 e8 hbx hrow hmm hkk htt
      go_wp2_with fail
      go_roundw
      case measure => simp [intOf]; omega
      case rel => exact ⟨i + 1, by omega, by go_num, _, _, _, _, _, HST.out⟩
    | succ q =>
     have hd0 : decide ((0 : Int) < ((q + 1 : Nat) : Int)) = true := decide_eq_true (by omega)
     have hd0n : decide (0 < q + 1) = true := decide_eq_true (by omega)
     by_cases h250 : a < 250
     ·have hd1 : decide ((a : Int) < 250) = true := decide_eq_true (by omega)
      have hd1n : decide (a < 250) = true := decide_eq_true h250
      go_wp2_with fail
      refine (next_any b 60 wr (by decide) (by decide) HW.out.2.1).mono ?_
      rintro e w3 ⟨r, rfl, hr1, hr2, ht3, hf3⟩
      obtain ⟨x1, rfl⟩ : ∃ c : Nat, r = (c : Int) := ⟨r.toNat, by omega⟩
      have HW3 := Lib.hid (And.intro (HW.out.1.trans hf3) (And.intro ht3 (or_fr HW.out.2.2 hf3 hbl2)))
      have hx1 : x1 < 60 := by omega
      have hw1 : IntKind.i64.wrap ((a : Int) + (x1 : Int)) = ((a + x1 : Nat) : Int) := by rw [IntWalk.i64_in _ (by omega)]; omega
      clear ht3 hf3 hr1 hr2
      go_wp2_with fail
      refine (next_any b 60 w3 (by decide) (by decide) HW3.out.2.1).mono ?_
      rintro e w4 ⟨r, rfl, hr1, hr2, ht4, hf4⟩
      obtain ⟨x2, rfl⟩ : ∃ c : Nat, r = (c : Int) := ⟨r.toNat, by omega⟩
      have HW4 := Lib.hid (And.intro (HW3.out.1.trans hf4) (And.intro ht4 (or_fr HW3.out.2.2 hf4 hbl2)))
      have hx2 : x2 < 60 := by omega
      have hw2 : IntKind.i64.wrap (((a + x1 : Nat) : Int) + (x2 : Int)) = ((a + x1 + x2 : Nat) : Int) := by rw [IntWalk.i64_in _ (by omega)]; omega
      obtain ⟨lo, hlo⟩ : ∃ x, min 255 (a + x1) = x := ⟨_, rfl⟩
      obtain ⟨hi', hhi⟩ : ∃ x, min 255 (a + x1 + x2) = x := ⟨_, rfl⟩
      have hm1 : min (255 : Int) ((a : Int) + (x1 : Int)) = (lo : Int) := by omega
      have hm2 : min (255 : Int) ((a : Int) + (x1 : Int) + (x2 : Int)) = (hi' : Int) := by omega
      have HM := Lib.hid (And.intro hlo hhi)
      have hh256 : hi' < 256 := by omega
      clear ht4 hf4 hr1 hr2 hlo hhi
      go_wp2_with fail
      refine (next_any b (n : Int) w4 (by omega) (by omega) HW4.out.2.1).mono ?_
      rintro e w5 ⟨r, rfl, hr1, hr2, ht5, hf5⟩
      obtain ⟨t, rfl⟩ : ∃ c : Nat, r = (c : Int) := ⟨r.toNat, by omega⟩
      have HW5 := Lib.hid (And.intro (HW4.out.1.trans hf5) (And.intro ht5 (or_fr HW4.out.2.2 hf5 hbl2)))
      have hI2 := HI.out.step h250 hx1 hx2 (t := t) (by omega)
      rw [HM.out.1, HM.out.2] at hI2
      have HI2 := Lib.hid hI2
      have hown := HW5.out.2.2
      have hws : w2.heap.size ≤ w5.heap.size := HW5.out.1.size
      clear ht5 hf5 hr1 hr2 hI2
      go_wp2_with (at_builtin; refine app_one edC_E Tryz.underlying53 hie hke0 hke1 hke2 rfl (by decide) _ _ _ _ p ⟨lo, hi', t⟩ _ w2.heap.size rfl rfl rfl rfl rfl hown (by omega) hws ?_; intro v6 w6 hown6 hb6)
      have HW6 := Lib.hid (And.intro (fr_low HW5.out.1 hb6) (And.intro (HW5.out.2.1.below' hb6 hbl2) hown6))
      clear hown hown6 hb6
      go_wp2_with fail
      go_roundg q
      case measure => omega
      case rel => exact ⟨hi' + 1, p ++ [⟨lo, hi', t⟩], by go_num, by go_num, by simp; omega, by omega, HI2, HW6⟩
     ·have hd1 : decide ((a : Int) < 250) = false := decide_eq_false (by omega)
      have hd1n : decide (a < 250) = false := decide_eq_false h250
      obtain ⟨np, hnp⟩ : ∃ k, p.length = k := ⟨_, rfl⟩
      rw [hnp] at hpq ⊢
      have HP := Lib.hid hnp
      have hOr := HO2.out.next hbl HW.out.2.1 HW.out.1
      obtain ⟨AE, cE, eE, -, -⟩ := own_form hOr.mm.own
      rw [hOr.rl] at eE
      obtain ⟨AK, cA, eA, -, -⟩ := own_form (show wr.ownsRow _ _ _ _ _ _ from hOr.mm.acc)
      rw [hOr.al] at eA
      subst eE eA
      have hN := hOr.mm.hN
      obtain ⟨xn0, xn1⟩ : wr.cell? ⟨w.heap.size + 1, 0, none⟩ = some (.slice AE i cE) ∧ wr.cell? ⟨w.heap.size + 1, 1, none⟩ = some (.slice AK i cA) := by constructor <;> (rw [cell_of_row _ _ _ _ _ _ hN]; rfl)
      have lN : w.heap.size + 1 < wr.heap.size := (Array.getElem?_eq_some_iff.1 hN).1
      have hbr : Below wr.heap.size wr wr.drew := (Below.refl _ _).drew
      have hS0 : StO b (w.heap.size + 1) (w.heap.size + 1) i (.slice AE i cE) (.slice AK i cA) gv rs acs wr 0 wr.drew :=
       StO.bel (c := 0) (w := wr) ⟨hOr.mm, by omega, kf_bel (Below.refl _ _), hOr.tp, fun _ => rfl, fun _ => by have := hOr.mm.own; rwa [hOr.rl] at this, fun _ => by have : wr.ownsRow _ _ _ _ _ _ := hOr.mm.acc; rwa [hOr.al] at this⟩ hbr (Nat.le_refl _)
      have HNR := Lib.hid hN
      have HOr := Lib.hid hOr
      have hn5' : i < 5 := by omega
      clear hN hOr hnp hbr
      go_wp2_with fail
      refine wp_region_chain 15 [3, 4, 8, 10, 11, 13] (factO15 b (w.heap.size + 1) (w.heap.size + 1) i cE cA AE AK gv acs (.slice A6 np c6) wr) (fun c w' => StO b (w.heap.size + 1) (w.heap.size + 1) i (.slice AE i cE) (.slice AK i cA) gv rs acs wr c w') (by kernel_rfl) (by kernel_rfl) (by kernel_rfl) (by kernel_rfl) (by kernel_rfl) (by kernel_rfl) (by decide) hS0 ?_ ?_
      ·simp only [pq4, pq5]
       refine HSteps.pure (by decide) ?_ (HSteps.pure (by decide) ?_ (HSteps.pure (by decide) ?_ (HSteps.eff 0 rfl ?_ (HSteps.eff 1 rfl ?_ (HSteps.pure (by decide) ?_ (HSteps.pure (by decide) ?_ (HSteps.pure (by decide) ?_ (HSteps.eff 2 rfl ?_ (HSteps.pure (by decide) ?_ (HSteps.eff 3 rfl ?_ (HSteps.eff 4 rfl ?_ (HSteps.pure (by decide) ?_ (HSteps.eff 5 rfl ?_ (HSteps.pure (by decide) ?_ (HSteps.nil)))))))))))))))
       ·intro v wz c hlo hS hE K hK
        simp only [putAll, Act.put, pq1, pq2, pq3, Nat.zero_add, Nat.reduceAdd, pq4, pq5] at hK ⊢
        have HX := Lib.hid hS
        clear hS hE hlo
        go_wp2_with fail
        exact hK.out _ rfl
       ·intro v wz c hlo hS hE K hK
        simp only [putAll, Act.put, pq1, pq2, pq3, Nat.zero_add, Nat.reduceAdd, pq4, pq5] at hK ⊢
        have e0 : v 0 = _ := hE.1 rfl
        rw [e0] at hK ⊢
        have hc1 := hlo 1 (by kernel_rfl)
        have c1 := (World.cell?_of_block (a := ⟨w.heap.size + 1, 0, none⟩) (hS.bx (by omega))).trans xn0
        have l1 : w.heap.size + 1 < wz.heap.size := by have := hS.kf.size; omega
        clear hc1
        have HX := Lib.hid hS
        clear hS hE hlo
        go_wp2_with fail
        exact hK.out _ rfl
       ·intro v wz c hlo hS hE K hK
        simp only [putAll, Act.put, pq1, pq2, pq3, Nat.zero_add, Nat.reduceAdd, pq4, pq5] at hK ⊢
        have HX := Lib.hid hS
        clear hS hE hlo
        go_wp2_with fail
        exact hK.out _ rfl
       ·intro v wz hS hE K hK
        simp only [putAll, Act.put, pq1, pq2, pq3, Nat.zero_add, Nat.reduceAdd, pq4, pq5] at hK ⊢
        have e2 : v 2 = _ := hE.1 rfl
        rw [e2] at hK ⊢
        have HX := Lib.hid hS
        clear hS hE
        go_wp2_with fail
        have hbz : Below wz.heap.size wz (wz.alloc (.cells #[.slice A6 np c6] 53)) := (Below.refl _ _).alloc (Nat.le_refl _) _
        refine hK.out _ _ (fun j z hj h => ?_) (HX.out.bel hbz (by decide)) (fun _ => ⟨wz.heap.size, rfl, by simp, by go_simp⟩)
        match j with
        | 0 | 1 | 2 | 5 | 6 | 7 | 8 | 9 | 12 | 14 => exact h
        | 4 => exact fun h1 => by omega
        | 10 => exact fun hc => by omega
        | 11 => exact fun h1 => by omega
        | 13 => exact fun hc => by omega
        | 3 => exact absurd rfl hj
        | _ + 15 => exact trivial
       ·intro v wz hS hE K hK
        simp only [putAll, Act.put, pq1, pq2, pq3, Nat.zero_add, Nat.reduceAdd, pq4, pq5] at hK ⊢
        have e1 : v 1 = _ := hE.1 rfl
        rw [e1] at hK ⊢
        have E3 := hE.2.1 rfl
        obtain ⟨g, e3, hgl, hg0⟩ := E3 rfl
        rw [e3] at hK ⊢
        have hown := hS.ve (by decide)
        have hcell : ∀ j u, ([.slice A6 np c6] : List Value)[j]? = some u → wz.cell? ((⟨g, 0, none⟩ : Addr).add j) = some u := fun j u hj => by
         match j, hj with
         | 0, hj => simp at hj; rw [← hj, Addr.add_lit]; exact hg0
        have hzz := hS.kf.size
        have HX := Lib.hid hS
        clear hS hE E3
        go_wp2_with (at_builtin; refine appI_at rfl _ _ 31 rfl (w.heap.size + 1) 53 is (.slice none 0 0) 1 24 Tryz.underlying31 his he0 he1 he2 rfl (by decide) _ i gv rfl hown ⟨g, 0, none⟩ 1 1 [.slice A6 np c6] rfl rfl hcell (by intro u hu; simp at hu; subst hu; rfl) (by unfold maxLen; omega) (by omega) (by omega) ?_)
        intro v' wx hown1 hg1 hfr
        obtain ⟨A', c', rfl, -, -⟩ := own_form hown1
        have hfr2 : Fresh (.slice A' (i + 1) c') (.slice AE i cE) wr.heap.size := hfr.imp id fun ⟨g, h1, h2⟩ => ⟨g, h1, Nat.le_trans hzz h2⟩
        refine hK.out _ _ (fun j z hj h => ?_) (HX.out.apE hg1) (fun _ _ => ⟨⟨A', c', rfl⟩, hown1, hfr2⟩)
        match j with
        | 0 | 1 | 2 | 5 | 6 | 7 | 8 | 9 | 12 | 14 => exact h
        | 3 => exact fun hc => by omega
        | 10 => exact fun hc => by omega
        | 11 => exact fun h1 => by omega
        | 13 => exact fun hc => by omega
        | 4 => exact absurd rfl hj
        | _ + 15 => exact trivial
       ·intro v wz c hlo hS hE K hK
        simp only [putAll, Act.put, pq1, pq2, pq3, Nat.zero_add, Nat.reduceAdd, pq4, pq5] at hK ⊢
        have HX := Lib.hid hS
        clear hS hE hlo
        go_wp2_with fail
        exact hK.out _ rfl
       ·intro v wz c hlo hS hE K hK
        simp only [putAll, Act.put, pq1, pq2, pq3, Nat.zero_add, Nat.reduceAdd, pq4, pq5] at hK ⊢
        have e5 : v 5 = _ := hE.1 rfl
        rw [e5] at hK ⊢
        have hc4 := hlo 4 (by kernel_rfl)
        have c1 := (World.cell?_of_block (a := ⟨w.heap.size + 1, 1, none⟩) (hS.bx (by omega))).trans xn1
        have l1 : w.heap.size + 1 < wz.heap.size := by have := hS.kf.size; omega
        clear hc4
        have HX := Lib.hid hS
        clear hS hE hlo
        go_wp2_with fail
        exact hK.out _ rfl
       ·intro v wz c hlo hS hE K hK
        simp only [putAll, Act.put, pq1, pq2, pq3, Nat.zero_add, Nat.reduceAdd, pq4, pq5] at hK ⊢
        have HX := Lib.hid hS
        clear hS hE hlo
        go_wp2_with fail
        exact hK.out _ rfl
       ·intro v wz hS hE K hK
        simp only [putAll, Act.put, pq1, pq2, pq3, Nat.zero_add, Nat.reduceAdd, pq4, pq5] at hK ⊢
        have e7 : v 7 = _ := hE.1 rfl
        rw [e7] at hK ⊢
        have HX := Lib.hid hS
        clear hS hE
        go_wp2_with fail
        refine (next_any b 3 wz (by decide) (by decide) HX.out.tp).mono ?_
        rintro e wy ⟨r, rfl, hr0, hr1, hty, hfy⟩
        have HY := Lib.hid (And.intro hty hfy)
        clear hty hfy hr0 hr1
        go_wp2_with fail
        refine hK.out _ _ (fun j z hj h => ?_) (HX.out.nxt HY.out.2 HY.out.1 (by decide)) ⟨r, rfl⟩
        match j with
        | 0 | 1 | 2 | 5 | 6 | 7 | 9 | 12 | 14 => exact h
        | 3 => exact fun hc => by omega
        | 4 => exact FEo.nxt h HY.out.2 HX.out.bB (by decide) (by decide)
        | 10 => exact fun hc => by omega
        | 11 => exact fun h1 => by omega
        | 13 => exact fun hc => by omega
        | 8 => exact absurd rfl hj
        | _ + 15 => exact trivial
       ·intro v wz c hlo hS hE K hK
        simp only [putAll, Act.put, pq1, pq2, pq3, Nat.zero_add, Nat.reduceAdd, pq4, pq5] at hK ⊢
        have E8 := hE.1 rfl
        obtain ⟨r, e8⟩ := E8
        rw [e8] at hK ⊢
        have HX := Lib.hid hS
        clear hS hE hlo
        go_wp2_with fail
        exact hK.out _ ⟨_, rfl⟩
       ·intro v wz hS hE K hK
        simp only [putAll, Act.put, pq1, pq2, pq3, Nat.zero_add, Nat.reduceAdd, pq4, pq5] at hK ⊢
        have E9 := hE.1 rfl
        obtain ⟨q, e9⟩ := E9
        rw [e9] at hK ⊢
        have HX := Lib.hid hS
        clear hS hE
        go_wp2_with fail
        have hbz : Below wz.heap.size wz (wz.alloc (.cells #[.bool q] 4)) := (Below.refl _ _).alloc (Nat.le_refl _) _
        refine hK.out _ _ (fun j z hj h => ?_) (HX.out.bel hbz (by decide)) (fun _ => ⟨wz.heap.size, q, rfl, by simp, by go_simp⟩)
        match j with
        | 0 | 1 | 2 | 5 | 6 | 7 | 8 | 9 | 12 | 14 => exact h
        | 3 => exact fun hc => by omega
        | 4 => exact FEo.bel h hbz (by decide) (by decide)
        | 11 => exact fun h1 => by omega
        | 13 => exact fun hc => by omega
        | 10 => exact absurd rfl hj
        | _ + 15 => exact trivial
       ·intro v wz hS hE K hK
        simp only [putAll, Act.put, pq1, pq2, pq3, Nat.zero_add, Nat.reduceAdd, pq4, pq5] at hK ⊢
        have e6 : v 6 = _ := hE.1 rfl
        rw [e6] at hK ⊢
        have E10 := hE.2.1 rfl
        obtain ⟨g, q, e10, hgl, hg0⟩ := E10 rfl
        rw [e10] at hK ⊢
        have hown := hS.va (by decide)
        have hcell : ∀ j u, ([.bool q] : List Value)[j]? = some u → wz.cell? ((⟨g, 0, none⟩ : Addr).add j) = some u := fun j u hj => by
         match j, hj with
         | 0, hj => simp at hj; rw [← hj, Addr.add_lit]; exact hg0
        have hzz := hS.kf.size
        have HX := Lib.hid hS
        have HOA := Lib.hid hown
        clear hS hE E10
        go_wp2_with (at_builtin; refine appI_at rfl _ _ 32 rfl (w.heap.size + 1) 4 ib (.bool false) 1 1 Tryz.underlying32 hib hb0' hb1 hb2 rfl (by decide) _ i (rowF bC acs) rfl hown ⟨g, 0, none⟩ 1 1 [.bool q] rfl rfl hcell (by intro u hu; simp at hu; subst hu; rfl) (by unfold maxLen; omega) (by omega) (by omega) ?_)
        intro v' wx hown1 hg1 hfr
        obtain ⟨A', c', rfl, -, -⟩ := own_form hown1
        have hfr2 : Fresh (.slice A' (i + 1) c') (.slice AK i cA) wr.heap.size := hfr.imp id fun ⟨g, h1, h2⟩ => ⟨g, h1, Nat.le_trans hzz h2⟩
        refine hK.out _ _ (fun j z hj h => ?_) (HX.out.apA hg1) (fun _ => ⟨⟨A', c', rfl⟩, ⟨q, hown1⟩, hfr2⟩)
        match j with
        | 0 | 1 | 2 | 5 | 6 | 7 | 8 | 9 | 12 | 14 => exact h
        | 3 => exact fun hc => by omega
        | 4 => exact FEo.apA h HOA.out hg1 (by decide) (by decide)
        | 10 => exact fun hc => by omega
        | 13 => exact fun hc => by omega
        | 11 => exact absurd rfl hj
        | _ + 15 => exact trivial
       ·intro v wz c hlo hS hE K hK
        simp only [putAll, Act.put, pq1, pq2, pq3, Nat.zero_add, Nat.reduceAdd, pq4, pq5] at hK ⊢
        have HX := Lib.hid hS
        clear hS hE hlo
        go_wp2_with fail
        exact hK.out _ rfl
       ·intro v wz hS hE K hK
        simp only [putAll, Act.put, pq1, pq2, pq3, Nat.zero_add, Nat.reduceAdd, pq4, pq5] at hK ⊢
        have e12 : v 12 = _ := hE.1 rfl
        rw [e12] at hK ⊢
        have E4 := hE.2.1 rfl
        obtain ⟨⟨A4, c4, e4⟩, o4, f4⟩ := id E4 (by decide) (by decide)
        rw [e4] at hK E4 ⊢
        have hrow := (hS.bx (by decide)).trans HNR.out
        have cz : wz.cell? ⟨w.heap.size + 1, 0, none⟩ = some (.slice AE i cE) := by rw [cell_of_row _ _ _ _ _ _ hrow]; rfl
        have fz : wz.frozen? ⟨w.heap.size + 1, 0, none⟩ = false := by simp [World.frozen?, hrow]
        have HX := Lib.hid hS
        have HO := Lib.hid (And.intro E4 hrow)
        clear hS hE o4 f4 hrow e4 E4
        go_wp2_with fail
        refine hK.out undef _ (fun j z hj h => ?_) HX.out.set (FBo.set HO.out.1 HO.out.2)
        match j with
        | 0 | 1 | 2 | 5 | 6 | 7 | 8 | 9 | 12 | 14 => exact h
        | 3 => exact fun hc => by omega
        | 4 => exact fun _ h1 => by omega
        | 10 => exact fun hc => by omega
        | 11 => exact FAo.set h HO.out.2
        | 13 => exact absurd rfl hj
        | _ + 15 => exact trivial
       ·intro v wz c hlo hS hE K hK
        simp only [putAll, Act.put, pq1, pq2, pq3, Nat.zero_add, Nat.reduceAdd, pq4, pq5] at hK ⊢
        have HX := Lib.hid hS
        clear hS hE hlo
        go_wp2_with fail
        exact hK.out _ rfl
      ·intro v wz hS hF
       have e0 : v 0 = _ := hF 0 (by decide)
       have e1 : v 1 = _ := hF 1 (by decide)
       have e2 : v 2 = _ := hF 2 (by decide)
       have e5 : v 5 = _ := hF 5 (by decide)
       have e6 : v 6 = _ := hF 6 (by decide)
       have e7 : v 7 = _ := hF 7 (by decide)
       have e12 : v 12 = _ := hF 12 (by decide)
       have e14 : v 14 = _ := hF 14 (by decide)
       have E3 := hF 3 (by decide)
       have E4 := hF 4 (by decide)
       have E8 := hF 8 (by decide)
       have E9 := hF 9 (by decide)
       have E10 := hF 10 (by decide)
       have E11 := hF 11 (by decide)
       have E13 := hF 13 (by decide)
       simp only [putAll, Act.put, pq1, pq2, pq3, Nat.zero_add, Nat.reduceAdd, pq4, pq5, List.drop_succ_cons, List.drop_zero, e0, e1, e2, e5, e6, e7, e12, e14]
       clear hF e0 e1 e2 e5 e6 e7 e12 e14
       have h13 := E13
       have h11 := E11
       obtain ⟨⟨A8, c8, e8⟩, -, -⟩ := id E11 (by decide)
       rw [e8] at h11 ⊢
       obtain ⟨x4, -, -, hbx⟩ := id E13 rfl
       have cz1 : wz.cell? ⟨w.heap.size + 1, 1, none⟩ = some (.slice AK i cA) := by rw [cell_of_row _ _ _ _ _ _ hbx]; rfl
       have fz1 : wz.frozen? ⟨w.heap.size + 1, 1, none⟩ = false := by simp [World.frozen?, hbx]
       have lNz : w.heap.size + 1 < wz.heap.size := (Array.getElem?_eq_some_iff.1 hbx).1
       have hrow : OR 58 3 edC w2.heap.size (.slice A6 np c6) p wr := by have := HW.out.2.2; rw [HP.out] at this; exact this
       obtain ⟨x5, q, hmm, hkk, htt⟩ := hS.done h13 h11 HOr.out.rl HOr.out.al (EdIn.of_OR hrow) (fun g hg hm => by have h1 := (World.ownsRow.lt hrow g hg).1; have h2 := (HO2.out.mm.lt g hm).2; omega) (fun g hg => by have h1 := World.ownsRow.lt hrow g hg; have := (Array.getElem?_eq_some_iff.1 HO2.out.mm.hN).1; omega)
       have HST := Lib.hid (HOr.out.step hbl hmm hkk htt (show p.length ≤ 3 by have := HP.out; omega) HI.out (B2 := w2.heap.size) (fun k hk => (HO2.out.mm.lt k hk).2) (fun i' u hu g hg => by obtain ⟨u', h1, -, -, -, h5⟩ := HO2.out.mm.gvs i' (by have := (List.getElem?_eq_some_iff.1 hu).1; have := HO2.out.mm.own.1; omega); rw [hu] at h1; obtain rfl := Option.some.inj h1; exact (h5 g hg).2) (by have := (Array.getElem?_eq_some_iff.1 HO2.out.mm.hN).1; omega) hrow)
       clear hS E3 E4 E8 E9 E10 E11 E13 h13 h11 e8 hbx hrow hmm hkk htt
       go_wp2_with fail
       go_roundw
       case measure => simp [intOf]; omega
       case rel => exact ⟨i + 1, by omega, by go_num, _, _, _, _, _, HST.out⟩
  ·obtain rfl : i = n := by omega
   have hd : decide ((i : Int) < (i : Int)) = false := decide_eq_false (by omega)
   have hdn : decide (i < i) = false := decide_eq_false (by omega)
   obtain ⟨vE, vA, gv, rs, acs, hO⟩ := HO.out
   have HOW := Lib.hid hO
   clear hO
   obtain ⟨ve, va, ee, he, ha⟩ := HOW.out.mm.mcIn
   injection ee with ee
   simp only [Array.mk.injEq, List.cons.injEq, and_true] at ee
   obtain ⟨rfl, rfl⟩ := ee
   obtain ⟨A9, c9, e9, -⟩ := he.form
   obtain ⟨B9, d9, f9, -⟩ := ha.form
   generalize (⟨rs, acs⟩ : Mc).ed.length = n9 at *
   generalize (⟨rs, acs⟩ : Mc).ac.length = m9 at *
   subst e9 f9
   have hN := HOW.out.mm.hN
   have hR := HOW.out.res
   obtain ⟨b0, b1⟩ : wr.cell? ⟨w.heap.size + 1, 0, none⟩ = some (.slice A9 n9 c9) ∧ wr.cell? ⟨w.heap.size + 1, 1, none⟩ = some (.slice B9 m9 d9) := by constructor <;> (rw [cell_of_row _ _ _ _ _ _ hN]; rfl)
   obtain ⟨rz0, rz1⟩ : wr.cell? ⟨w.heap.size, 0, none⟩ = some (.slice none 0 0) ∧ wr.cell? ⟨w.heap.size, 1, none⟩ = some (.slice none 0 0) := by constructor <;> (rw [cell_of_row _ _ _ _ _ _ hR]; rfl)
   have gz0 : wr.frozen? ⟨w.heap.size, 0, none⟩ = false := by simp [World.frozen?, hR]
   have gz1 : wr.frozen? ⟨w.heap.size, 1, none⟩ = false := by simp [World.frozen?, hR]
   have lN : w.heap.size + 1 < wr.heap.size := (Array.getElem?_eq_some_iff.1 hN).1
   have lR : w.heap.size < wr.heap.size := by omega
   clear he ha hN hR HO
   go_wp2_with fail
   refine post_named fun Wf hWf => ?_
   refine bodyPost_ret (v := .agg #[.slice A9 n9 c9, .slice B9 m9 d9]) (by rw [hWf]; simp [results, Tryz.results19, go_sem, rz0, rz1, lR]; try rfl) rfl ?_
   have hkl : KeepF [w.heap.size] [] wr Wf := by
    rw [hWf]
    have hne : ∀ k, k ∉ [w.heap.size] → k ≠ w.heap.size := fun k hn e => hn (List.mem_singleton.2 e)
    exact ⟨rfl, rfl, rfl, by simp [World.setCell], fun k _ hn => (Below.heap_setCell (wr.setCell ⟨w.heap.size, 0, none⟩ _) ⟨w.heap.size, 1, none⟩ _ k (hne k hn)).trans (Below.heap_setCell wr ⟨w.heap.size, 0, none⟩ _ k (hne k hn)), fun k hk => by cases hk⟩
   have hup := (HOW.out.mm.low hkl (fun k hk => by rw [List.mem_singleton] at hk; omega)).up.mono (show w.heap.size ≤ w.heap.size + 1 by omega)
   have hbf : Below w.heap.size wr Wf := hkl.below (fun k hk => by rw [List.mem_singleton] at hk; omega) (by omega)
   obtain ⟨hv, hsm⟩ := own_vld HOW.out.rl HOW.out.al HOW.out.rok hn5
   have hl : rs.length = i := HOW.out.rl
   have hkeep : ∀ g, w.heap.size + 1 ≤ g → g < wr.heap.size → Wf.heap[g]? = wr.heap[g]? := fun g h1 h2 => hkl.blk g h2 (fun e => by rw [List.mem_singleton] at e; omega)
   have hR : OwR w.heap.size Wf (.agg #[.slice A9 n9 c9, .slice B9 m9 d9]) ⟨rs, acs⟩ := by
    have hE := own_same HOW.out.mm.own fun g hg => hkeep g (HOW.out.mm.own.lt g hg).1 (HOW.out.mm.own.lt g hg).2
    have hA : OR 4 1 bC (w.heap.size + 1) (.slice B9 m9 d9) acs Wf := OR.keep HOW.out.mm.acc fun g hg => hkeep g (World.ownsRow.lt HOW.out.mm.acc g hg).1 (World.ownsRow.lt HOW.out.mm.acc g hg).2
    refine ⟨_, _, gv, rfl, own_monoO hE (Nat.le_succ _), hA.mono (Nat.le_succ _), fun i' r hi => ?_, HOW.out.dst, fun i' hi => ⟨rs[i'], List.getElem?_eq_getElem hi, (HOW.out.rok _ (List.getElem_mem hi)).1⟩⟩
    obtain ⟨u, h1, h2⟩ := HOW.out.rws i' r hi
    exact ⟨u, h1, OR.mono (OR.keep h2 fun g hg => hkeep g (World.ownsRow.lt h2 g hg).1 (World.ownsRow.lt h2 g hg).2) (Nat.le_succ _)⟩
   exact ⟨_, ⟨rs, acs⟩, rfl, hup, hv, hsm, ⟨by show 1 ≤ rs.length; omega, by show rs.length ≤ 5; omega⟩, HOW.out.tp.below' hbf hbl, fr_low' HOW.out.fr hbf, hR⟩
theorem own_any (b : Nat) (w : World) (ht : TapeOK b w) : Calls Tryz.prog 19 #[.pointer (some ⟨b, 0, none⟩)] w (OwPost b w) :=
 (own2_any b w ht).mono fun e w' ⟨rv, m, h1, h2, h3, h4, h5, h6, h7, _⟩ => ⟨rv, m, h1, h2, h3, h4, h5, h6, h7⟩
end Go.Proofs.YtjhmipidmpmlmaaGreatDoor
namespace Go.Proofs.YtjhmipidmpmlmaaGreatDoor
set_option linter.unusedVariables false
set_option linter.unusedSimpArgs false
set_option maxRecDepth 100000
open Go.RowKit
open Go.Maps (Keyed)
theorem SetC.weak {w0 : World} {L L' : List Nat} {w : World} {v : Value} {sets : List (List (Nat × Nat))} (h : SetC w0 L w v sets) (hs : ∀ k ∈ L', k ∈ L) : SetC w0 L' w v sets := by
 obtain ⟨A, c, e, hc, h⟩ := h
 refine ⟨A, c, e, hc, h.imp id ?_⟩
 rintro ⟨g, rfl, hg, hn, hcell⟩
 exact ⟨g, rfl, hg, fun hm => hn (hs g hm), hcell⟩
theorem SbI.groups {B s mb : Nat} {v0 v1 v2 : Value} {gs : List (List Nat)} {fp : List Nat} {w : World} (h : SbI B s mb v0 v1 v2 gs fp w) : ∃ A c, w.cell? ⟨s, 4, none⟩ = some (.slice A gs.length c) ∧ (gs.length ≤ c ∧ c ≤ 9223372036854775807) ∧
  ∀ k (hk : k < gs.length), ∃ g v, A = some ⟨g, 0, none⟩ ∧ g < w.heap.size ∧ w.cell? ⟨g, k, none⟩ = some v ∧ IL w v gs[k] ∧ outOf fp v := by
 obtain ⟨vg, gv, F, rfl, h⟩ := h
 obtain ⟨A, c, rfl, hc⟩ := own_form h.own
 refine ⟨A, c, by rw [cell_of_row _ _ _ _ _ _ h.cs]; rfl, hc, fun k hk => ?_⟩
 obtain ⟨g, rfl, -, hg, hcell⟩ := own_at1 h.own (by omega)
 obtain ⟨v, h1, h2, h3, -⟩ := h.gvs k hk
 exact ⟨g, v, rfl, hg, by rw [hcell k hk, h1], h2, h3⟩
def EdF (w0 : World) (s mb : Nat) (v0 v1 v2 : Value) (b : Pb) (gs : List (List Nat)) (fp L : List Nat) (W : World) (x : Value) (w : World) : Prop :=
 ∃ r row gs' fp', SortedF L r ∧ (EdIn w x row ∧ outOf fp' x ∧ ∀ g, x.ownBlock = some g → W.heap.size ≤ g ∧ g < w.heap.size) ∧ SbI w0.heap.size s mb v0 v1 v2 gs' fp' w ∧ KeepF fp fp' W w ∧ RowI b r gs' row 256 ∧ GrowG b r gs gs' ∧ gs'.length ≤ gs.length + 257
theorem EdF.later {w0 : World} {s mb : Nat} {v0 v1 v2 : Value} {b : Pb} {gs : List (List Nat)} {fp L : List Nat} {W : World} {x : Value} {w w' : World} (h : EdF w0 s mb v0 v1 v2 b gs fp L W x w) (hb : Below w.heap.size w w') : EdF w0 s mb v0 v1 v2 b gs fp L W x w' := by
 obtain ⟨r, row, gs', fp', h1, ⟨h2, h3, h4⟩, h5, h6, h7, h8, h9⟩ := h
 exact ⟨r, row, gs', fp', h1, ⟨h2.later hb, h3, fun g hg => ⟨(h4 g hg).1, Nat.lt_of_lt_of_le (h4 g hg).2 hb.size⟩⟩, h5.later hb, h6.trans (KeepF.of_below hb), h7, h8, h9⟩
structure CpL (w0 : World) (s mb : Nat) (v0 v1 v2 : Value) (b : Pb) (x : Prt) (P : Nat) (vx vy : Value) (N i : Nat) (gs : List (List Nat)) (fp : List Nat) (rs : List (List Ed)) (acs : List Bool) (vE vA : Value) (gv : List Value) (wr : World) : Prop where
 sb : SbI w0.heap.size s mb v0 v1 v2 gs fp wr
 ma : MkM w0.heap.size N fp vE vA gv rs acs wr
 cp : CpS w0 (fp ++ fpM N vE vA) v0 v1 v2 b x P vx vy wr
 ci : CmI b x gs rs acs i
 bl : Below w0.heap.size w0 wr
theorem cp_next {w0 W w6 w7 : World} {s mb P N i : Nat} {v0 v1 v2 vx vy vE vA vE' rv : Value} {b : Pb} {x : Prt} {gs : List (List Nat)} {fp L : List Nat} {rs : List (List Ed)} {acs0 acs : List Bool} {gv : List Value}
  (hma : MkM w0.heap.size N fp vE vA gv rs acs W) (hcp : CpS w0 (fp ++ fpM N vE vA) v0 v1 v2 b x P vx vy W) (hci : CmI b x gs rs acs0 i) (hac : if i = 0 then acs = acs0 else ∃ a, acs = acs0 ++ [a] ∧ (a = true ↔ ∃ p ∈ (gs[i]?).getD [], p ∈ x.last))
  (hi : i < gs.length) (hbl : Below w0.heap.size w0 W) (hL : ∀ p, p ∈ L ↔ grpF b x gs i p) (hLb : ∀ p ∈ L, p < b.sets.length)
  (hE : EdF w0 s mb v0 v1 v2 b gs fp L W rv w6) (hg : w6.grownBy w7 vE.ownBlock) (ho : w7.ownsRow w0.heap.size 53 1 vE' (rs.length + 1) (gv ++ [rv])) (hf : Fresh vE' vE w6.heap.size) (hfp : ∀ k ∈ fp, w0.heap.size ≤ k) :
  ∃ row gs' fp', CpL w0 s mb v0 v1 v2 b x P vx vy N (i + 1) gs' fp' (rs ++ [row]) acs vE' vA (gv ++ [rv]) (w7.setCell ⟨N, 0, none⟩ vE') ∧ gs'.length ≤ gs.length + 257 := by
 obtain ⟨r, row, gs', fp', h1, ⟨h2, h3, h4⟩, h5, h6, h7, h8, h9⟩ := hE
 have hlt := hma.lt
 have hma6 := hma.keep h6
 have hlt6 := h5.lt
 have hw0 := hbl.size
 obtain ⟨q1, q2⟩ := hma6.addE (fun k hk => (hlt6 k hk).2) h2 (fun g hg hm => by have := (h4 g hg).1; have := (hlt g hm).2; omega) h3 (fun g hg => ⟨by have := (h4 g hg).1; omega, (h4 g hg).2⟩) ho hg hf
 refine ⟨row, gs', fp', ⟨h5.apart q2 (fun k hk => hma6.out k hk) hma6.types, q1, (hcp.keep (h6.appL _)).keep (q2.appR _), hci.step hi (fun p => (h1.2 p).trans (hL p)) h1.1 (fun p hp => hLb p ((h1.2 p).1 hp)) h8 h7 hac, ?_⟩, h9⟩
 exact (hbl.trans (h6.below hfp hw0)).trans (q2.below (fun k hk => (hlt k hk).1) (by have := h6.size; omega))
theorem WrP.later {w0 : World} {s : Nat} {x2 x3 x4 : Value} {b : Pb} {fp : List Nat} {Lg : List Nat → Prop} {n K : Nat} {w : World} {e : Ending} {w' w'' : World} (h : WrP w0 s x2 x3 x4 b fp Lg n K w e w') (hb : Below w'.heap.size w' w'') : WrP w0 s x2 x3 x4 b fp Lg n K w e w'' := by
 obtain ⟨b', x, fp', v1, v2, h1, h2, h3, ⟨h4, h5⟩, ⟨h6, h7⟩, h8⟩ := h
 have hk := KeepF.of_below (fp := fp') hb
 exact ⟨b', x, fp', v1, v2, h1, h2.later hb, h3.trans hk, h4.keep h5 hk, h6.keep h7 hk, h8⟩
theorem BuI.ne_part {w0 : World} {s : Nat} {x2 x3 x4 : Value} {b : Pb} {fp : List Nat} {w : World} (h : BuI w0 s x2 x3 x4 b fp w) {g : Nat} {cs : Array Value} {m : Nat × Nat} (hg : w.heap[g]? = some (.cells cs 72 m)) : g ∉ fp := by
 obtain ⟨vs, vf, rows, sv, rfl, h⟩ := h
 intro hm
 unfold fpS at hm
 have key : ∀ {cs' : Array Value} {e : TypeId} {m' : Nat × Nat}, w.heap[g]? = some (.cells cs' e m') → e ≠ 72 → False := fun {cs' e m'} h1 hne => by
  rw [hg] at h1
  injection h1 with h1
  injection h1 with _ h2 _
  exact hne h2.symm
 rcases List.mem_cons.1 hm with rfl | hm
 ·exact key h.cs (by decide)
 ·rcases List.mem_append.1 hm with hm | hm
  ·obtain ⟨cs', m', h1⟩ := own_type h.sets g (mem_blk.1 hm); exact key h1 (by decide)
  ·rcases List.mem_append.1 hm with hm | hm
   ·obtain ⟨cs', m', h1⟩ := own_type h.fol g (mem_blk.1 hm); exact key h1 (by decide)
   ·obtain ⟨v, hv, hgv⟩ := List.mem_flatMap.1 hm
    obtain ⟨i, hi, he⟩ := List.getElem_of_mem hv
    have hrl : rows.length = b.fol.length := by have := h.fol.1; omega
    obtain ⟨v', h1, h2⟩ := h.folv i (by omega)
    rw [List.getElem?_eq_getElem hi, he] at h1
    obtain rfl := Option.some.inj h1
    obtain ⟨cs', m', h3⟩ := own_type h2 g (mem_blk.1 hgv)
    exact key h3 (by decide)
theorem own_mono {w : World} {B B' k n : Nat} {e : TypeId} {v : Value} {xs : List Value} (h : w.ownsRow B e k v n xs) (hB : B' ≤ B) : w.ownsRow B' e k v n xs :=
 ⟨h.1, h.2.imp id fun ⟨g, cap, cur, h1, h2, h3⟩ => ⟨g, cap, cur, h1, Nat.le_trans hB h2, h3⟩⟩
def endsL (last : List Nat) (n k : Nat) : List Bool := (List.range n).map fun p => decide (p ∈ last.take k)
theorem endsL_zero (last : List Nat) (n : Nat) : endsL last n 0 = List.replicate n false := by
 unfold endsL
 rw [List.eq_replicate_iff]
 refine ⟨by simp, fun x hx => ?_⟩
 obtain ⟨p, -, rfl⟩ := List.mem_map.1 hx
 simp
theorem endsL_len (last : List Nat) (n k : Nat) : (endsL last n k).length = n := by simp [endsL]
theorem endsL_get (last : List Nat) {n p : Nat} (k : Nat) (h : p < n) : (endsL last n k)[p]? = some (decide (p ∈ last.take k)) := by
 unfold endsL
 rw [List.getElem?_map, List.getElem?_range h]; rfl
theorem endsL_succ {last : List Nat} {n k : Nat} (hk : k < last.length) : (endsL last n k).set last[k] true = endsL last n (k + 1) := by
 apply List.ext_getElem?
 intro p
 by_cases hp : p < n
 ·rw [endsL_get last (k + 1) hp, List.getElem?_set, List.take_succ_eq_append_getElem hk]
  by_cases e : last[k] = p
  ·rw [if_pos e, if_pos (by rw [endsL_len, e]; exact hp)]
   simp [e]
  ·rw [if_neg e, endsL_get last k hp]
   congr 1
   rw [decide_eq_decide, List.mem_append, List.mem_singleton]
   exact ⟨.inl, fun h => h.resolve_right fun e2 => e e2.symm⟩
 ·rw [List.getElem?_eq_none (by rw [List.length_set, endsL_len]; omega), List.getElem?_eq_none (by rw [endsL_len]; omega)]
theorem bools_new (w : World) (n : Nat) (hn : n ≤ 1000000) : OR 4 1 bC w.heap.size (.slice (some ⟨w.heap.size, 0, none⟩) n n) (List.replicate n false) (w.alloc (.cells (Array.replicate n (.bool false)) 4)) := by
 have hrow : rowF bC (List.replicate n false) = List.replicate n (.bool false) := by
  unfold rowF
  induction n with
  | zero => rfl
  | succ n ih => rw [List.replicate_succ, List.map_cons, List.flatten_cons, ih (by omega), List.replicate_succ]; rfl
 refine ⟨by rw [hrow]; simp, .inr ⟨w.heap.size, n, Array.replicate n (.bool false), by simp, Nat.le_refl _, heap_alloc_new w _, by simp, by unfold maxLen; omega, by simp, ?_⟩⟩
 rw [hrow, List.length_replicate]
 simp
def folG (b : Pb) (g : List Nat) : List Nat := g.flatMap fun p => folP b p
theorem folG_snoc (b : Pb) (g : List Nat) (p : Nat) : folG b (g ++ [p]) = folG b g ++ folP b p := by unfold folG; simp
theorem folG_mem {b : Pb} {g : List Nat} {p : Nat} : p ∈ folG b g ↔ ∃ q ∈ g, p ∈ folP b q := by unfold folG; exact List.mem_flatMap
theorem folG_len {b : Pb} {K : Nat} (hK : ∀ l ∈ b.fol, l.length ≤ K) : ∀ g : List Nat, (folG b g).length ≤ g.length * K
 | [] => by simp [folG]
 | p :: r => by
  have ih := folG_len hK r
  have h1 : (folP b p).length ≤ K := by
   unfold folP
   cases h : b.fol[p]? with
   | none => simp
   | some l => exact hK l (List.mem_of_getElem? h)
  unfold folG at ih ⊢
  rw [List.flatMap_cons, List.length_append, List.length_cons, Nat.succ_mul]
  omega
end Go.Proofs.YtjhmipidmpmlmaaGreatDoor
namespace Go.Proofs.YtjhmipidmpmlmaaGreatDoor
set_option linter.unusedVariables false
set_option linter.unusedSimpArgs false
set_option maxRecDepth 100000
open Go.RowKit
theorem sign_at (c : Nat) (t : ByteArray) (w : World) (h1 : 33 ≤ c) (h2 : c ≤ 126) (hib : Lib.indexByte [92, 91, 93, 40, 41, 123, 125, 124, 45] c.toUInt8 = -1) (hcv : ∀ w, (convert 21 9 (.int .i32 (c : Int))).run Tryz.prog w = .ok (.string t) w) :
  Calls Tryz.prog 158 #[.int .u8 (c : Int)] w fun e w' => e = .returned (.string t) ∧ w' = w := by
 have HI := Lib.hid (Tryz.strings_IndexByte ⟨#[92, 91, 93, 40, 41, 123, 125, 124, 45]⟩ (c : Int) w)
 have d1 : decide ((c : Int) < 33) = false := decide_eq_false (by omega)
 have d2 : decide ((126 : Int) < (c : Int)) = false := decide_eq_false (by omega)
 have d1' : decide (c < 33) = false := decide_eq_false (by omega)
 have d2' : decide (126 < c) = false := decide_eq_false (by omega)
 go_enter Tryz.func158, Tryz.ntmps158
 go_wp2_with fail
 refine HI.out.mono ?_
 rintro e w2 ⟨rfl, hw2⟩
 subst hw2
 have hib' : Lib.indexByte [92, 91, 93, 40, 41, 123, 125, 124, 45] ((c : Int).toNat.toUInt8) = -1 := hib
 rw [show Lib.indexByte (⟨#[92, 91, 93, 40, 41, 123, 125, 124, 45]⟩ : ByteArray).data.toList ((c : Int).toNat.toUInt8) = -1 from hib']
 have hd : decide ((0 : Int) ≤ -1) = false := by decide
 go_wp2_with fail
 go_ret
 exact ⟨rfl, rfl⟩
theorem bufKeep {b : Nat} {l' : List UInt8} {fp fp' : List Nat} {w w' : World} (h : BuK b l' fp' w') (hk : KeepF fp fp' w w') {k : Nat} (hn : k ∉ fp) (hl : k < w.heap.size) : k ∉ fp' ∧ w'.heap[k]? = w.heap[k]? :=
 ⟨fun hm => (hk.new k hm).elim hn (fun h => by omega), hk.blk k hl hn⟩
set_option maxHeartbeats 4000000 in
theorem wset_ab (b : Nat) (l : List UInt8) (fp : List Nat) (q c : Nat) (w : World) (h : BuK b l fp w) (hl : l.length ≤ 1000000) (hq : w.cell? ⟨q, 0, none⟩ = some (.int .u8 97) ∧ w.cell? ⟨q, 1, none⟩ = some (.int .u8 98)) (hqn : q ∉ fp) (hqs : q < w.heap.size) :
  Calls Tryz.prog 145 #[.pointer (some ⟨b, 0, none⟩), .slice (some ⟨q, 0, none⟩) 1 c] w fun e w' => e = .returned (.tuple #[]) ∧ ∃ fp', BuK b (l ++ [91, 97, 45, 98, 93]) fp' w' ∧ KeepF fp fp' w w' := by
 have S97 := Lib.hid (fun w => sign_at 97 ⟨#[97]⟩ w (by decide) (by decide) rfl (fun _ => by kernel_rfl))
 have S98 := Lib.hid (fun w => sign_at 98 ⟨#[98]⟩ w (by decide) (by decide) rfl (fun _ => by kernel_rfl))
 obtain ⟨q0, q1⟩ := hq
 have HB := Lib.hid h
 have HQ := Lib.hid (And.intro q0 (And.intro q1 (And.intro hqn hqs)))
 have H1 := Lib.hid (byte_K b l fp 91 91 rfl w h (by omega))
 clear h hqn
 go_enter Tryz.func145, Tryz.ntmps145
 go_wp2_with fail
 go_quiet (fail)
 go_wp2_with fail
 refine calls_named fun W0 hW0 => ?_
 have hb0 : Below w.heap.size w W0 := by rw [hW0]; exact below_drewN (Below.refl _ _) _
 have H1 := Lib.hid (byte_K b l fp 91 91 rfl W0 (HB.out.below hb0) (by omega))
 have HB0 := Lib.hid hb0
 clear hW0 hb0 q0 q1 hqs
 refine H1.out.mono ?_
 rintro e w1 ⟨rfl, fp1, hk1, kf1⟩
 have hqs0 : q < W0.heap.size := by have := HB0.out.size; have := HQ.out.2.2.2; omega
 obtain ⟨n1, e1⟩ := bufKeep hk1 kf1 HQ.out.2.2.1 hqs0
 have q0 := (World.cell?_of_block (a := ⟨q, 0, none⟩) e1).trans ((HB0.out.cell (p := ⟨q, 0, none⟩) HQ.out.2.2.2).trans HQ.out.1)
 have q1 := (World.cell?_of_block (a := ⟨q, 1, none⟩) e1).trans ((HB0.out.cell (p := ⟨q, 1, none⟩) HQ.out.2.2.2).trans HQ.out.2.1)
 have hz1 := kf1.size
 have ql : q < w1.heap.size := by omega
 have H2 := Lib.hid (And.intro hk1 kf1)
 clear hk1 kf1 n1 e1
 go_wp2_with fail
 refine wp_loop_rounds 2 ?_
 rw [rounds_succ]
 go_wp2_with fail
 refine calls_named fun W1 hW1 => ?_
 have hbW : Below w1.heap.size w1 W1 := by rw [hW1]; exact (Below.refl _ _).alloc (Nat.le_refl _) _
 have hX1 : W1.heap[w1.heap.size]? = some (.cells #[.int .u8 97, .int .u8 98] 56 (0, 0)) := by rw [hW1]; exact heap_alloc_new w1 _
 have hzW : W1.heap.size = w1.heap.size + 1 := by rw [hW1]; simp
 clear hW1 q0 q1
 refine (S97.out W1).mono ?_
 rintro e w2 ⟨rfl, hw2⟩
 rw [hw2]
 clear hw2
 have hbk1 := H2.out.1.below hbW
 have H3 := Lib.hid (str_K b (l ++ [91]) fp1 ⟨#[97]⟩ W1 hbk1 (by rw [List.length_append, List.length_singleton]; omega) (by decide))
 have hnx : w1.heap.size ∉ fp1 := fun hm => by have := H2.out.1.lt _ hm; omega
 have HW := Lib.hid (And.intro hbW (And.intro hX1 hnx))
 obtain ⟨x0, x1⟩ : W1.cell? ⟨w1.heap.size, 0, none⟩ = some (.int .u8 97) ∧ W1.cell? ⟨w1.heap.size, 1, none⟩ = some (.int .u8 98) := by constructor <;> (rw [cell_of_row _ _ _ _ _ _ hX1]; rfl)
 clear hbW hX1 hbk1 hnx
 go_wp2_with fail
 refine H3.out.mono ?_
 rintro e w3 ⟨rfl, fp3, hk3, kf3⟩
 obtain ⟨n3, e3⟩ := bufKeep hk3 kf3 HW.out.2.2 (by omega)
 have hX3 := e3.trans HW.out.2.1
 have hz3 := kf3.size
 clear x0 x1
 obtain ⟨x0, x1⟩ : w3.cell? ⟨w1.heap.size, 0, none⟩ = some (.int .u8 97) ∧ w3.cell? ⟨w1.heap.size, 1, none⟩ = some (.int .u8 98) := by constructor <;> (rw [cell_of_row _ _ _ _ _ _ hX3]; rfl)
 have xl : w1.heap.size < w3.heap.size := by omega
 have H4 := Lib.hid (And.intro hk3 ((H2.out.2.trans (KeepF.of_below HW.out.1)).trans kf3))
 clear hk3 kf3 n3 e3 hX3
 go_wp2_with fail
 refine (S98.out w3).mono ?_
 rintro e w4 ⟨rfl, hw4⟩
 rw [hw4]
 clear hw4
 go_wp2_with fail
 have H5 := Lib.hid (str_K b (l ++ [91] ++ bl ⟨#[97]⟩) fp3 (({ data := #[45] } : ByteArray) ++ { data := #[98] }) w3 H4.out.1 (by rw [List.length_append, List.length_append, List.length_singleton, show (bl ⟨#[97]⟩).length = 1 from rfl]; omega) (by decide))
 refine H5.out.mono ?_
 rintro e w5 ⟨rfl, fp5, hk5, kf5⟩
 have hz5 := kf5.size
 have H6 := Lib.hid (And.intro hk5 (H4.out.2.trans kf5))
 clear hk5 kf5 x0 x1
 go_wp2_with fail
 rw [rounds_succ]
 go_wp2_with fail
 have H7 := Lib.hid (byte_K b _ fp5 93 93 rfl w5 H6.out.1 (by rw [List.length_append, List.length_append, List.length_append, List.length_singleton, show (bl ⟨#[97]⟩).length = 1 from rfl, show (bl (({ data := #[45] } : ByteArray) ++ { data := #[98] })).length = 2 from rfl]; omega))
 refine H7.out.mono ?_
 rintro e w7 ⟨rfl, fp7, hk7, kf7⟩
 have H8 := Lib.hid (And.intro hk7 (H6.out.2.trans kf7))
 clear hk7 kf7
 go_wp2_with fail
 go_end0
 refine ⟨rfl, fp7, ?_, (KeepF.of_below HB0.out).trans H8.out.2⟩
 have := H8.out.1
 rw [show l ++ [91] ++ bl ⟨#[97]⟩ ++ bl (({ data := #[45] } : ByteArray) ++ { data := #[98] }) ++ [93] = l ++ [91, 97, 45, 98, 93] by
  rw [List.append_assoc, List.append_assoc, List.append_assoc]; rfl] at this
 exact this
def factW2 (b N g1 q cp : Nat) : Nat → Nat → Value → World → Prop
 | c, 0, x, w => x = .pointer (some ⟨b, 0, none⟩)
 | c, 1, x, w => x = .pointer (some ⟨N, 2, none⟩)
 | c, 2, x, w => x = .slice (some ⟨g1, 0, none⟩) 1 1
 | c, 3, x, w => x = .pointer (some ⟨g1, 0, none⟩)
 | c, 4, x, w => x = .agg #[.int .i64 1, .slice (some ⟨q, 0, none⟩) 1 cp, .slice none 0 0, .int .i64 0, .int .i64 0]
 | c, 5, x, w => x = .pointer (some ⟨N, 2, none⟩)
 | c, 6, x, w => x = .slice (some ⟨g1, 0, none⟩) 1 1
 | c, 7, x, w => x = .pointer (some ⟨g1, 0, none⟩)
 | c, 8, x, w => x = .pointer (some ⟨g1, 0, none⟩)
 | c, 9, x, w => x = .int .i64 1
 | c, 10, x, w => x = .bool false
 | _, _, _, _ => True
def setV (q c : Nat) : Value := .agg #[.int .i64 1, .slice (some ⟨q, 0, none⟩) 1 c, .slice none 0 0, .int .i64 0, .int .i64 0]
set_option maxHeartbeats 4000000 in
theorem write_set_ab (b : Nat) (l : List UInt8) (fp : List Nat) (q c : Nat) (w : World) (h : BuK b l fp w) (hl : l.length ≤ 1000000) (hq : w.cell? ⟨q, 0, none⟩ = some (.int .u8 97) ∧ w.cell? ⟨q, 1, none⟩ = some (.int .u8 98)) (hqn : q ∉ fp) (hqs : q < w.heap.size) :
  Calls Tryz.prog 129 #[.pointer (some ⟨b, 0, none⟩), .agg #[.int .i64 1, .slice (some ⟨q, 0, none⟩) 1 c, .slice none 0 0, .int .i64 0, .int .i64 0]] w fun e w' => e = .returned (.tuple #[]) ∧ ∃ fp', BuK b (l ++ [91, 97, 45, 98, 93]) fp' w' ∧ KeepF fp fp' w w' := by
 have HB := Lib.hid h
 have HQ := Lib.hid (And.intro hq (And.intro hqn hqs))
 clear h hq hqn hqs
 go_enter Tryz.func129, Tryz.ntmps129
 go_wp2_with fail
 refine calls_named fun W0 hW0 => ?_
 have hb0 : Below w.heap.size w W0 := by rw [hW0]; exact (Below.refl _ _).alloc (Nat.le_refl _) _
 have H1 := Lib.hid (wset_ab b l fp q c W0 (HB.out.below hb0) hl ⟨(hb0.cell (p := ⟨q, 0, none⟩) HQ.out.2.2).trans HQ.out.1.1, (hb0.cell (p := ⟨q, 1, none⟩) HQ.out.2.2).trans HQ.out.1.2⟩ HQ.out.2.1 (Nat.lt_of_lt_of_le HQ.out.2.2 hb0.size))
 have HB0 := Lib.hid hb0
 clear hW0 hb0
 refine H1.out.mono ?_
 rintro e w1 ⟨rfl, fp1, hk1, kf1⟩
 have H2 := Lib.hid (And.intro hk1 kf1)
 clear hk1 kf1
 go_wp2_with fail
 go_end0
 exact ⟨rfl, fp1, H2.out.1, (KeepF.of_below HB0.out).trans H2.out.2⟩
set_option maxHeartbeats 4000000 in
theorem kid_ab (b : Nat) (l : List UInt8) (fp : List Nat) (q c : Nat) (w : World) (h : BuK b l fp w) (hl : l.length ≤ 1000000) (hq : w.cell? ⟨q, 0, none⟩ = some (.int .u8 97) ∧ w.cell? ⟨q, 1, none⟩ = some (.int .u8 98)) (hqn : q ∉ fp) (hqs : q < w.heap.size) :
  Calls Tryz.prog 146 #[.pointer (some ⟨b, 0, none⟩), .agg #[.int .i64 1, .slice (some ⟨q, 0, none⟩) 1 c, .slice none 0 0, .int .i64 0, .int .i64 0], .bool false] w fun e w' => e = .returned (.tuple #[]) ∧ ∃ fp', BuK b (l ++ [91, 97, 45, 98, 93]) fp' w' ∧ KeepF fp fp' w w' := by
 have HB := Lib.hid h
 have HQ := Lib.hid (And.intro hq (And.intro hqn hqs))
 clear h hq hqn hqs
 go_enter Tryz.func146, Tryz.ntmps146
 go_wp2_with fail
 refine calls_named fun W0 hW0 => ?_
 have hb0 : Below w.heap.size w W0 := by rw [hW0]; exact (Below.refl _ _).alloc (Nat.le_refl _) _
 have H1 := Lib.hid (write_set_ab b l fp q c W0 (HB.out.below hb0) hl ⟨(hb0.cell (p := ⟨q, 0, none⟩) HQ.out.2.2).trans HQ.out.1.1, (hb0.cell (p := ⟨q, 1, none⟩) HQ.out.2.2).trans HQ.out.1.2⟩ HQ.out.2.1 (Nat.lt_of_lt_of_le HQ.out.2.2 hb0.size))
 have HB0 := Lib.hid hb0
 clear hW0 hb0
 refine H1.out.mono ?_
 rintro e w1 ⟨rfl, fp1, hk1, kf1⟩
 have H2 := Lib.hid (And.intro hk1 kf1)
 clear hk1 kf1
 go_wp2_with fail
 go_end0
 exact ⟨rfl, fp1, H2.out.1, (KeepF.of_below HB0.out).trans H2.out.2⟩
set_option maxHeartbeats 4000000 in
theorem write_rep_ab (b : Nat) (l : List UInt8) (fp : List Nat) (g1 q cp : Nat) (w : World) (h : BuK b l fp w) (hl : l.length ≤ 100000) (hq : w.cell? ⟨q, 0, none⟩ = some (.int .u8 97) ∧ w.cell? ⟨q, 1, none⟩ = some (.int .u8 98)) (hqn : q ∉ fp) (hqs : q < w.heap.size)
  (hg : w.heap[g1]? = some (.cells #[.int .i64 1, .slice (some ⟨q, 0, none⟩) 1 cp, .slice none 0 0, .int .i64 0, .int .i64 0] 29 (0, 0))) (hgn : g1 ∉ fp) (hvr : VrOK w) (hlo : ∀ k ∈ fp, nG ≤ k) :
  Calls Tryz.prog 129 #[.pointer (some ⟨b, 0, none⟩), .agg #[.int .i64 4, .slice none 0 0, .slice (some ⟨g1, 0, none⟩) 1 1, .int .i64 2, .int .i64 2]] w fun e w' => e = .returned (.tuple #[]) ∧ ∃ fp', BuK b (l ++ [91, 97, 45, 98, 93, 123, 50, 125]) fp' w' ∧ KeepF fp fp' w w' := by
 have lgw : g1 < w.heap.size := (Array.getElem?_eq_some_iff.1 hg).1
 have HB := Lib.hid h
 have HQ := Lib.hid (And.intro hq (And.intro hqn hqs))
 have HG := Lib.hid (And.intro hg hgn)
 have HV := Lib.hid (And.intro hvr hlo)
 clear h hq hqn hqs hg hgn hvr hlo
 go_enter Tryz.func129, Tryz.ntmps129
 go_wp2_with fail
 refine wp_named fun W hW => ?_
 have hbW : Below w.heap.size w W := by rw [hW]; exact (Below.refl _ _).alloc (Nat.le_refl _) _
 have hN : W.heap[w.heap.size]? = some (.cells #[.int .i64 4, .slice none 0 0, .slice (some ⟨g1, 0, none⟩) 1 1, .int .i64 2, .int .i64 2] 29 (0, 0)) := by rw [hW]; exact heap_alloc_new w _
 have hgW := (hbW.block g1 lgw).trans HG.out.1
 obtain ⟨b0, b1, b2, b3, b4⟩ := cells5 hN
 obtain ⟨k0, k1, k2, k3, k4⟩ := cells5 hgW
 have hzW := hbW.size
 have lb : w.heap.size < W.heap.size := (Array.getElem?_eq_some_iff.1 hN).1
 have lg : g1 < W.heap.size := by omega
 have hS0 : Below W.heap.size W W.drew := (Below.refl _ _).drew
 have HW := Lib.hid (And.intro hbW hN)
 clear hW hbW hN hgW
 refine wp_region_chain 11 [] (factW2 b w.heap.size g1 q cp) (fun _ w' => Below W.heap.size W w') (by kernel_rfl) (by kernel_rfl) (by kernel_rfl) (by kernel_rfl) (by kernel_rfl) (by kernel_rfl) (by decide) hS0 ?_ ?_
 ·simp only [pq4, pq5]
  refine HSteps.pure (by decide) ?_ (HSteps.pure (by decide) ?_ (HSteps.pure (by decide) ?_ (HSteps.pure (by decide) ?_ (HSteps.pure (by decide) ?_ (HSteps.pure (by decide) ?_ (HSteps.pure (by decide) ?_ (HSteps.pure (by decide) ?_ (HSteps.pure (by decide) ?_ (HSteps.pure (by decide) ?_ (HSteps.pure (by decide) ?_ (HSteps.nil)))))))))))
  ·intro v wz c hlo hS hE K hK
   simp only [putAll, Act.put, pq1, pq2, pq3, Nat.zero_add, Nat.reduceAdd, pq4, pq5] at hK ⊢
   have HX := Lib.hid hS
   clear hS hE hlo
   go_wp2_with fail
   exact hK.out _ rfl
  ·intro v wz c hlo hS hE K hK
   simp only [putAll, Act.put, pq1, pq2, pq3, Nat.zero_add, Nat.reduceAdd, pq4, pq5] at hK ⊢
   have HX := Lib.hid hS
   clear hS hE hlo
   go_wp2_with fail
   exact hK.out _ rfl
  ·intro v wz c hlo hS hE K hK
   simp only [putAll, Act.put, pq1, pq2, pq3, Nat.zero_add, Nat.reduceAdd, pq4, pq5] at hK ⊢
   have e1 : v 1 = _ := hE.1 rfl
   rw [e1] at hK ⊢
   have b2z := (hS.cell (p := ⟨w.heap.size, 2, none⟩) lb).trans b2
   have lbz : w.heap.size < wz.heap.size := by have := hS.size; omega
   have HX := Lib.hid hS
   clear hS hE hlo
   go_wp2_with fail
   exact hK.out _ rfl
  ·intro v wz c hlo hS hE K hK
   simp only [putAll, Act.put, pq1, pq2, pq3, Nat.zero_add, Nat.reduceAdd, pq4, pq5] at hK ⊢
   have e2 : v 2 = _ := hE.1 rfl
   rw [e2] at hK ⊢
   have HX := Lib.hid hS
   clear hS hE hlo
   go_wp2_with fail
   exact hK.out _ rfl
  ·intro v wz c hlo hS hE K hK
   simp only [putAll, Act.put, pq1, pq2, pq3, Nat.zero_add, Nat.reduceAdd, pq4, pq5] at hK ⊢
   have e3 : v 3 = _ := hE.1 rfl
   rw [e3] at hK ⊢
   have y0 := (hS.cell (p := ⟨g1, 0, none⟩) lg).trans k0
   have y1 := (hS.cell (p := ⟨g1, 1, none⟩) lg).trans k1
   have y2 := (hS.cell (p := ⟨g1, 2, none⟩) lg).trans k2
   have y3 := (hS.cell (p := ⟨g1, 3, none⟩) lg).trans k3
   have y4 := (hS.cell (p := ⟨g1, 4, none⟩) lg).trans k4
   have lgz : g1 < wz.heap.size := by have := hS.size; omega
   have HX := Lib.hid hS
   clear hS hE hlo
   go_wp2_with fail
   exact hK.out _ rfl
  ·intro v wz c hlo hS hE K hK
   simp only [putAll, Act.put, pq1, pq2, pq3, Nat.zero_add, Nat.reduceAdd, pq4, pq5] at hK ⊢
   have HX := Lib.hid hS
   clear hS hE hlo
   go_wp2_with fail
   exact hK.out _ rfl
  ·intro v wz c hlo hS hE K hK
   simp only [putAll, Act.put, pq1, pq2, pq3, Nat.zero_add, Nat.reduceAdd, pq4, pq5] at hK ⊢
   have e5 : v 5 = _ := hE.1 rfl
   rw [e5] at hK ⊢
   have b2z := (hS.cell (p := ⟨w.heap.size, 2, none⟩) lb).trans b2
   have lbz : w.heap.size < wz.heap.size := by have := hS.size; omega
   have HX := Lib.hid hS
   clear hS hE hlo
   go_wp2_with fail
   exact hK.out _ rfl
  ·intro v wz c hlo hS hE K hK
   simp only [putAll, Act.put, pq1, pq2, pq3, Nat.zero_add, Nat.reduceAdd, pq4, pq5] at hK ⊢
   have e6 : v 6 = _ := hE.1 rfl
   rw [e6] at hK ⊢
   have HX := Lib.hid hS
   clear hS hE hlo
   go_wp2_with fail
   exact hK.out _ rfl
  ·intro v wz c hlo hS hE K hK
   simp only [putAll, Act.put, pq1, pq2, pq3, Nat.zero_add, Nat.reduceAdd, pq4, pq5] at hK ⊢
   have e7 : v 7 = _ := hE.1 rfl
   rw [e7] at hK ⊢
   have HX := Lib.hid hS
   clear hS hE hlo
   go_wp2_with fail
   exact hK.out _ rfl
  ·intro v wz c hlo hS hE K hK
   simp only [putAll, Act.put, pq1, pq2, pq3, Nat.zero_add, Nat.reduceAdd, pq4, pq5] at hK ⊢
   have e8 : v 8 = _ := hE.1 rfl
   rw [e8] at hK ⊢
   have y0 := (hS.cell (p := ⟨g1, 0, none⟩) lg).trans k0
   have lgz : g1 < wz.heap.size := by have := hS.size; omega
   have HX := Lib.hid hS
   clear hS hE hlo
   go_wp2_with fail
   exact hK.out _ rfl
  ·intro v wz c hlo hS hE K hK
   simp only [putAll, Act.put, pq1, pq2, pq3, Nat.zero_add, Nat.reduceAdd, pq4, pq5] at hK ⊢
   have e9 : v 9 = _ := hE.1 rfl
   rw [e9] at hK ⊢
   have HX := Lib.hid hS
   clear hS hE hlo
   go_wp2_with fail
   exact hK.out _ rfl
 ·intro v wz hS hF
  have e0 : v 0 = _ := hF 0 (by decide)
  have e1 : v 1 = _ := hF 1 (by decide)
  have e2 : v 2 = _ := hF 2 (by decide)
  have e3 : v 3 = _ := hF 3 (by decide)
  have e4 : v 4 = _ := hF 4 (by decide)
  have e5 : v 5 = _ := hF 5 (by decide)
  have e6 : v 6 = _ := hF 6 (by decide)
  have e7 : v 7 = _ := hF 7 (by decide)
  have e8 : v 8 = _ := hF 8 (by decide)
  have e9 : v 9 = _ := hF 9 (by decide)
  have e10 : v 10 = _ := hF 10 (by decide)
  simp only [putAll, Act.put, pq1, pq2, pq3, Nat.zero_add, Nat.reduceAdd, pq4, pq5, List.drop_succ_cons, List.drop_zero, e0, e1, e2, e3, e4, e5, e6, e7, e8, e9, e10]
  clear hF e0 e1 e2 e3 e4 e5 e6 e7 e8 e9 e10
  have hS2 := HW.out.1.trans (hS.mono hzW)
  have H1 := Lib.hid (kid_ab b l fp q cp wz (HB.out.below hS2) (by omega) ⟨(hS2.cell (p := ⟨q, 0, none⟩) HQ.out.2.2).trans HQ.out.1.1, (hS2.cell (p := ⟨q, 1, none⟩) HQ.out.2.2).trans HQ.out.1.2⟩ HQ.out.2.1 (Nat.lt_of_lt_of_le HQ.out.2.2 hS2.size))
  have HS2 := Lib.hid (And.intro hS2 hS)
  clear hS hS2
  go_wp2_with fail
  refine H1.out.mono ?_
  rintro e w1 ⟨rfl, fp1, hk1, kf1⟩
  have hnN : w.heap.size ∉ fp := fun hm => by have := HB.out.lt _ hm; omega
  have hzz := HS2.out.2.size
  obtain ⟨n1, e1⟩ := bufKeep hk1 kf1 hnN (show w.heap.size < wz.heap.size by omega)
  have hN1 := e1.trans ((HS2.out.2.block w.heap.size lb).trans HW.out.2)
  clear b0 b1 b2 b3 b4
  obtain ⟨b0, b1, b2, b3, b4⟩ := cells5 hN1
  have hz1 := kf1.size
  have lb1 : w.heap.size < w1.heap.size := by omega
  have H2 := Lib.hid (And.intro hk1 (And.intro ((KeepF.of_below HS2.out.1).trans kf1) (And.intro n1 hN1)))
  clear hk1 kf1 n1 e1 hN1 k0 k1 k2 k3 k4
  have hv1 : VrOK w1 := HV.out.1.of_low (by omega) fun k hk => H2.out.2.1.blk k (by have := HV.out.1.low; omega) fun hm => by have := HV.out.2 k hm; omega
  have HI := Lib.hid (itoa_any 2 (by decide) w1 hv1)
  clear hv1
  go_wp2_with fail
  refine HI.out.mono ?_
  rintro e w2 ⟨rfl, hb2⟩
  have hbk2 := H2.out.1.below hb2
  have hnd : bs (Lib.decDigits 2) = ⟨#[50]⟩ := by rw [Lib.decDigits]; rfl
  rw [hnd]
  have H3 := Lib.hid (str_K b (l ++ [91, 97, 45, 98, 93]) fp1 (({ data := #[123] } : ByteArray) ++ { data := #[50] }) w2 hbk2 (by rw [List.length_append]; simp; omega) (by decide))
  have hN2 := (hb2.block w.heap.size lb1).trans H2.out.2.2.2
  have hz2 := hb2.size
  have HB2 := Lib.hid hb2
  clear hbk2 hb2 b0 b1 b2 b3 b4
  go_wp2_with fail
  refine H3.out.mono ?_
  rintro e w3 ⟨rfl, fp3, hk3, kf3⟩
  obtain ⟨n3, e3⟩ := bufKeep hk3 kf3 H2.out.2.2.1 (show w.heap.size < w2.heap.size by omega)
  have hN3 := e3.trans hN2
  obtain ⟨b0, b1, b2, b3, b4⟩ := cells5 hN3
  have hz3 := kf3.size
  have lb3 : w.heap.size < w3.heap.size := by omega
  have H4 := Lib.hid (And.intro hk3 ((H2.out.2.1.trans (KeepF.of_below HB2.out)).trans kf3))
  clear hk3 kf3 n3 e3 hN3 hN2
  go_wp2_with fail
  have H5 := Lib.hid (byte_K b _ fp3 125 125 rfl w3 H4.out.1 (by rw [List.length_append, List.length_append, show (bl (({ data := #[123] } : ByteArray) ++ { data := #[50] })).length = 2 from rfl]; simp; omega))
  refine H5.out.mono ?_
  rintro e w5 ⟨rfl, fp5, hk5, kf5⟩
  have H6 := Lib.hid (And.intro hk5 (H4.out.2.trans kf5))
  clear hk5 kf5
  go_wp2_with fail
  go_end0
  refine ⟨rfl, fp5, ?_, H6.out.2⟩
  have := H6.out.1
  rw [show l ++ [91, 97, 45, 98, 93] ++ bl (({ data := #[123] } : ByteArray) ++ { data := #[50] }) ++ [125] = l ++ [91, 97, 45, 98, 93, 123, 50, 125] by
   rw [List.append_assoc, List.append_assoc]; rfl] at this
  exact this
def ndAB : Nd := .mk 4 [] [.mk 1 [(97, 98)] [] 0 0] 2 2
theorem valid_AB : validF ndAB = 0 := by decide
theorem ItP.lie {B : Nat} {x : Value} {w : World} (h : ItP B x w) : ∃ g q c, x = .agg #[.int .i64 4, .slice none 0 0, .slice (some ⟨g, 0, none⟩) 1 1, .int .i64 2, .int .i64 2] ∧ (B ≤ g ∧ B ≤ q) ∧ (g < w.heap.size ∧ q < w.heap.size) ∧
  w.heap[g]? = some (.cells #[.int .i64 1, .slice (some ⟨q, 0, none⟩) 1 c, .slice none 0 0, .int .i64 0, .int .i64 0] 29 (0, 0)) ∧ (w.cell? ⟨q, 0, none⟩ = some (.int .u8 97) ∧ w.cell? ⟨q, 1, none⟩ = some (.int .u8 98)) ∧ (1 ≤ c ∧ c ≤ 9223372036854775807) := by
 obtain ⟨g, v, h1, h2, h3, h4⟩ := h
 obtain ⟨A, c, e, hc, hor⟩ := h4.cells rgC_E
 obtain ⟨q, hA, hq, hql, hcell⟩ := hor.resolve_left (by simp)
 have hcm : c ≤ 9223372036854775807 := by
  obtain ⟨A', c', e', -, h'⟩ := own_form (show w.ownsRow _ _ _ _ _ _ from h4)
  rw [e] at e'; injection e' with _ _ e3; rw [e3]; exact h'
 subst hA
 subst e
 have q0 := (hcell 0 (by decide) 0 (by decide)).1
 have q1 := (hcell 0 (by decide) 1 (by decide)).1
 exact ⟨g, q, c, h1, ⟨h2, hq⟩, ⟨(Array.getElem?_eq_some_iff.1 h3).1, hql⟩, h3, ⟨q0, q1⟩, ⟨hc, hcm⟩⟩
theorem ItP.nd {B : Nat} {x : Value} {w : World} (h : ItP B x w) : ∃ vs : List Value, x = .agg vs.toArray ∧ NdIn w ndAB vs := by
 obtain ⟨g, q, c, rfl, -, ⟨hg, hq⟩, hrow, ⟨q0, q1⟩, hc1, hc2⟩ := h.lie
 refine ⟨[.int .i64 4, .slice none 0 0, .slice (some ⟨g, 0, none⟩) 1 1, .int .i64 2, .int .i64 2], rfl, ?_⟩
 unfold ndAB
 have h1 : RgIn w (.slice none 0 0) [] := ⟨none, 0, rfl, ⟨by simp, by simp⟩, .inl rfl⟩
 have h2 : RgIn w (.slice (some ⟨q, 0, none⟩) 1 c) [(97, 98)] := ⟨some ⟨q, 0, none⟩, c, rfl, ⟨hc1, hc2⟩, .inr ⟨q, 0, rfl, hq, fun i hi => by
  have : i = 0 := by simp at hi; omega
  subst this
  exact ⟨⟨q0, q1⟩, (by show 97 < 256; decide), (by show 98 < 256; decide)⟩⟩⟩
 have hk : NdIn w (.mk 1 [(97, 98)] [] 0 0) [.int .i64 1, .slice (some ⟨q, 0, none⟩) 1 c, .slice none 0 0, .int .i64 0, .int .i64 0] := ⟨_, _, rfl, h2, none, 0, rfl, ⟨by simp, by simp⟩, .inl rfl⟩
 refine ⟨_, _, rfl, h1, _, 1, rfl, ⟨by simp, by simp⟩, .inr ⟨g, 0, rfl, hg, ⟨_, fun j hj => ?_, hk⟩, trivial⟩⟩
 obtain ⟨k0, k1, k2, k3, k4⟩ := cells5 hrow
 match j, hj with
 | 0, _ => exact k0
 | 1, _ => exact k1
 | 2, _ => exact k2
 | 3, _ => exact k3
 | 4, _ => exact k4
theorem string_K (B b : Nat) (l : List UInt8) (fp : List Nat) (w : World) (h : BuK b l fp w) (hB : ∀ k ∈ fp, B ≤ k) (hBw : B ≤ w.heap.size) : Calls Tryz.prog 63 #[.pointer (some ⟨b, 0, none⟩)] w fun e w' => e = .returned (.string (bs l)) ∧ Below B w w' := by
 obtain ⟨p, v, hp, rfl, hn, hb, ho⟩ := h
 have ho' : w.ownsRow B 5 1 v (Lib.byteCells l).length (Lib.byteCells l) := by
  rw [Lib.byteCells_length]
  refine ⟨ho.1, ?_⟩
  rcases ho.2 with h3 | ⟨g, cap, cur, h3, h4, rest⟩
  ·exact .inl h3
  ·exact .inr ⟨g, cap, cur, h3, hB g (by simp [h3, blk, Value.ownBlock]), rest⟩
 refine builder_string B b l w ?_ hBw
 rcases hp with rfl | rfl
 ·exact .inl ⟨hB b (by simp), v, hb, ho', hn⟩
 ·exact .inr ⟨hB b (by simp), v, hb, ho', hn⟩
set_option maxHeartbeats 4000000 in
theorem text_AB (B : Nat) (x : Value) (w : World) (hit : ItP B x w) (hvr : VrOK w) : Calls Tryz.prog 97 #[x] w fun e w' => e = .returned (.tuple #[.string ⟨#[91, 97, 45, 98, 93, 123, 50, 125]⟩, .int .i64 0]) ∧ Below w.heap.size w w' := by
 obtain ⟨vs, hx, hnd⟩ := hit.nd
 have HV := Lib.hid (fun W (hb : Below w.heap.size w W) => valid_any ndAB vs W (hnd.later hb))
 obtain ⟨g, q, c, hx2, -, ⟨hg, hq⟩, hrow, hqc, hc⟩ := hit.lie
 have hvs : Value.agg vs.toArray = .agg #[.int .i64 4, .slice none 0 0, .slice (some ⟨g, 0, none⟩) 1 1, .int .i64 2, .int .i64 2] := hx.symm.trans hx2
 rw [hvs] at HV
 subst hx2
 have H0 := Lib.hid (And.intro hrow (And.intro hqc (And.intro hg hq)))
 have HVR := Lib.hid hvr
 clear hx hvs hnd hrow hqc hit hvr
 rw [valid_AB] at HV
 go_enter Tryz.func97, Tryz.ntmps97
 go_wp2_with fail
 refine calls_named fun W0 hW0 => ?_
 have hb0 : Below w.heap.size w W0 := by rw [hW0]; exact (Below.refl _ _).alloc (Nat.le_refl _) _
 have hN : W0.heap[w.heap.size]? = some (.cells #[.int .i64 4, .slice none 0 0, .slice (some ⟨g, 0, none⟩) 1 1, .int .i64 2, .int .i64 2] 29 (0, 0)) := by rw [hW0]; exact heap_alloc_new w _
 have hz0 : W0.heap.size = w.heap.size + 1 := by rw [hW0]; simp
 refine (HV.out W0 hb0).mono ?_
 rintro e w1 ⟨rfl, hb1⟩
 have hN1 := (hb1.block w.heap.size (by omega)).trans hN
 obtain ⟨b0, b1, b2, b3, b4⟩ := cells5 hN1
 have hz1 := hb1.size
 have lb1 : w.heap.size < w1.heap.size := by omega
 have lb2 : w.heap.size < w1.heap.size + 1 := by omega
 have H1 := Lib.hid (And.intro (hb0.trans (hb1.mono hb0.size)) hN1)
 clear hW0 hb0 hN hb1 hN1
 go_wp2_with fail
 refine calls_named fun W2 hW2 => ?_
 have hb2 : Below w1.heap.size w1 W2 := by rw [hW2]; exact (Below.refl _ _).alloc (Nat.le_refl _) _
 have hB2 : W2.heap[w1.heap.size]? = some (.cells #[.pointer none, .slice none 0 0] 98 (0, 0)) := by rw [hW2]; exact heap_alloc_new w1 _
 have hw2 : Below w.heap.size w W2 := H1.out.1.trans (hb2.mono H1.out.1.size)
 have H2 := Lib.hid (write_rep_ab w1.heap.size [] [w1.heap.size] g q c W2 (BuK.fresh hB2) (by simp) ⟨(hw2.cell (p := ⟨q, 0, none⟩) H0.out.2.2.2).trans H0.out.2.1.1, (hw2.cell (p := ⟨q, 1, none⟩) H0.out.2.2.2).trans H0.out.2.1.2⟩ (fun hm => by have := List.mem_singleton.1 hm; omega) (Nat.lt_of_lt_of_le hq hw2.size) ((hw2.block g hg).trans H0.out.1) (fun hm => by have := List.mem_singleton.1 hm; omega) (HVR.out.later hw2) (fun k hk => by have := List.mem_singleton.1 hk; have := HVR.out.low; omega))
 have HW2 := Lib.hid hw2
 clear hW2 hb2 hB2 hw2 b0 b1 b2 b3 b4
 refine H2.out.mono ?_
 rintro e w3 ⟨rfl, fp3, hk3, kf3⟩
 have hw2s := HW2.out.size
 have HS := Lib.hid (string_K w.heap.size _ _ fp3 w3 hk3 (fun k hk => by
  rcases kf3.new k hk with h | h
  ·have := List.mem_singleton.1 h; omega
  ·omega) (Nat.le_trans hw2s kf3.size))
 have hbw3 : Below w.heap.size w w3 := HW2.out.trans (kf3.below (fun k hk => by have := List.mem_singleton.1 hk; omega) HW2.out.size)
 have HB3 := Lib.hid hbw3
 clear hk3 kf3 hbw3
 go_wp2_with fail
 refine HS.out.mono ?_
 rintro e w4 ⟨rfl, hb4⟩
 have HB4 := Lib.hid (HB3.out.trans hb4)
 clear hb4
 go_wp2_with fail
 refine post_named fun Wf hWf => ?_
 subst hWf
 refine bodyPost_ret (v := .tuple #[.string (bs ([] ++ [91, 97, 45, 98, 93, 123, 50, 125])), .int .i64 0]) (by simp [results, Tryz.results97, go_sem]; try rfl) rfl ?_
 exact ⟨rfl, HB4.out⟩
def RdP (w : World) (e : Ending) (w' : World) : Prop := ∃ x, e = .returned (.tuple #[x, .int .i64 0]) ∧ ItP w.heap.size x w' ∧ Below w.heap.size w w'
set_option maxHeartbeats 4000000 in
theorem read_AB (w : World) (hvr : VrOK w) : Calls Tryz.prog 71 #[.string ⟨#[91, 97, 45, 98, 93, 123, 50, 125]⟩] w (RdP w) := by
 have HVR := Lib.hid hvr
 clear hvr
 go_enter Tryz.func71, Tryz.ntmps71
 go_wp2_with fail
 refine calls_named fun W0 hW0 => ?_
 have hb0 : Below w.heap.size w W0 := by rw [hW0]; exact ((Below.refl _ _).alloc (Nat.le_refl _) _).alloc (by simp) _
 have hY : W0.heap[w.heap.size]? = some (.cells #[.int .i64 0, .slice none 0 0, .slice none 0 0, .int .i64 0, .int .i64 0] 29 (0, 0)) := by rw [hW0, old_alloc _ _ _ (by simp)]; exact heap_alloc_new w _
 have hR : RdW (w.heap.size + 1) ⟨#[91, 97, 45, 98, 93, 123, 50, 125]⟩ false 0 W0 := by rw [hW0]; simpa [RdW] using heap_alloc_new (w.alloc (.cells #[.int .i64 0, .slice none 0 0, .slice none 0 0, .int .i64 0, .int .i64 0] 29)) (.cells #[.string ⟨#[91, 97, 45, 98, 93, 123, 50, 125]⟩, .bool false, .int .i64 0] 133)
 have hz0 : W0.heap.size = w.heap.size + 2 := by rw [hW0]; simp
 have H1 := Lib.hid (choice_ab (w.heap.size + 1) W0 hR)
 have H0 := Lib.hid (And.intro hb0 hY)
 clear hW0 hb0 hY hR
 refine H1.out.mono ?_
 rintro e w1 ⟨x, rfl, hit, hr1, hk1⟩
 obtain ⟨g1, v1, rfl, hg1, hg2, hg3⟩ := id hit
 have hz1 := hk1.size
 have hbA : Below w1.heap.size w1 (w1.alloc (.cells #[.int .i64 4, .slice none 0 0, .slice (some ⟨g1, 0, none⟩) 1 1, .int .i64 2, .int .i64 2] 29)) := (Below.refl _ _).alloc (Nat.le_refl _) _
 have hbw1 : Below w.heap.size w w1 := H0.out.1.trans (hk1.below (fun k hk => by rw [List.mem_singleton] at hk; omega) H0.out.1.size)
 have hbwA := hbw1.trans (hbA.mono hbw1.size)
 have H2 := Lib.hid (text_AB _ _ _ (hit.keep (KeepF.of_below (fp := []) hbA) (fun k hk => by cases hk)) (HVR.out.later hbwA))
 have hYA := (hbA.block w.heap.size (by omega)).trans ((hk1.blk w.heap.size (by omega) (by simp)).trans H0.out.2)
 have hNA := heap_alloc_new w1 (.cells #[.int .i64 4, .slice none 0 0, .slice (some ⟨g1, 0, none⟩) 1 1, .int .i64 2, .int .i64 2] 29)
 have hrA := hr1.later hbA
 have hitA := hit.keep (KeepF.of_below (fp := []) hbA) (fun k hk => by cases hk)
 have HA := Lib.hid (And.intro hbwA (And.intro hYA (And.intro hNA (And.intro hrA hitA))))
 clear hit hr1 hk1 hbA hbw1 hbwA hYA hNA hrA hitA hg1 hg2 hg3
 go_wp2_with fail
 refine H2.out.mono ?_
 rintro e w2 ⟨rfl, hb2⟩
 have hsA : (w1.alloc (.cells #[.int .i64 4, .slice none 0 0, .slice (some ⟨g1, 0, none⟩) 1 1, .int .i64 2, .int .i64 2] 29)).heap.size = w1.heap.size + 1 := by simp
 have hz2 := hb2.size
 rw [hsA] at hz2
 have hY2 := (hb2.block w.heap.size (by rw [hsA]; omega)).trans HA.out.2.1
 have hN2 := (hb2.block w1.heap.size (by rw [hsA]; omega)).trans HA.out.2.2.1
 have hr2 := HA.out.2.2.2.1.later hb2
 have hit2 := HA.out.2.2.2.2.keep (KeepF.of_below (fp := []) hb2) (fun k hk => by cases hk)
 have hbw2 := HA.out.1.trans (hb2.mono (by rw [hsA]; omega))
 obtain ⟨⟨c0, c1, c2⟩, -, lr2⟩ := hr2.cells
 obtain ⟨k0, k1, k2, k3, k4⟩ := cells5 hN2
 obtain ⟨y0, y1, y2, y3, y4⟩ := cells5 hY2
 have fy : ∀ j, j < 5 → w2.frozen? ⟨w.heap.size, j, none⟩ = false := fun j _ => by simp [World.frozen?, hY2]
 have fy0 := fy 0 (by decide)
 have fy1 := fy 1 (by decide)
 have fy2 := fy 2 (by decide)
 have fy3 := fy 3 (by decide)
 have fy4 := fy 4 (by decide)
 have m1 : w1.heap.size < w2.heap.size := by omega
 have m3 : w.heap.size < w2.heap.size := by omega
 have H3 := Lib.hid (And.intro hit2 hbw2)
 clear hY2 hN2 hr2 hit2 hbw2 hb2 hsA fy
 go_wp2_with fail
 refine post_named fun Wf hWf => ?_
 obtain ⟨u1, u2, u3, -⟩ := set5 hWf
 refine bodyPost_ret (v := .tuple #[.agg #[.int .i64 4, .slice none 0 0, .slice (some ⟨g1, 0, none⟩) 1 1, .int .i64 2, .int .i64 2], .int .i64 0]) (by rw [hWf]; simp [results, Tryz.results71, go_sem, y0, y1, y2, y3, y4, m3]; try rfl) rfl ?_
 have hkf : KeepF [w.heap.size] [] w2 Wf := ⟨u3.1, u3.2.1, u3.2.2, by omega, fun k _ hn => u1 k (fun e => hn (by simp [e])), fun k hk => by cases hk⟩
 exact ⟨_, rfl, (H3.out.1.keep hkf (fun k hk => by simp at hk; omega)).mono (show w.heap.size ≤ W0.heap.size by omega), H3.out.2.trans (hkf.below (fun k hk => by simp at hk; omega) H3.out.2.size)⟩
set_option maxHeartbeats 4000000 in
theorem parse_AB (w : World) (hvr : VrOK w) : Calls Tryz.prog 40 #[.string ⟨#[91, 97, 45, 98, 93, 123, 50, 125]⟩] w (RdP w) := by
 have HVR := Lib.hid hvr
 clear hvr
 go_enter Tryz.func40, Tryz.ntmps40
 go_wp2_with fail
 refine calls_named fun W0 hW0 => ?_
 have hb0 : Below w.heap.size w W0 := by rw [hW0]; exact (Below.refl _ _).alloc (Nat.le_refl _) _
 have hY : W0.heap[w.heap.size]? = some (.cells #[.int .i64 0, .slice none 0 0, .slice none 0 0, .int .i64 0, .int .i64 0] 29 (0, 0)) := by rw [hW0]; exact heap_alloc_new w _
 have hz0 : W0.heap.size = w.heap.size + 1 := by rw [hW0]; simp
 have H1 := Lib.hid (read_AB W0 (HVR.out.later hb0))
 have H0 := Lib.hid (And.intro hb0 hY)
 clear hW0 hb0 hY
 refine H1.out.mono ?_
 rintro e w2 ⟨x, rfl, hit, hb2⟩
 obtain ⟨g1, v1, rfl, hg1, hg2, hg3⟩ := id hit
 have hz2 := hb2.size
 have hY2 := (hb2.block w.heap.size (by omega)).trans H0.out.2
 have hbw2 := H0.out.1.trans (hb2.mono (by omega))
 obtain ⟨y0, y1, y2, y3, y4⟩ := cells5 hY2
 have fy : ∀ j, j < 5 → w2.frozen? ⟨w.heap.size, j, none⟩ = false := fun j _ => by simp [World.frozen?, hY2]
 have fy0 := fy 0 (by decide)
 have fy1 := fy 1 (by decide)
 have fy2 := fy 2 (by decide)
 have fy3 := fy 3 (by decide)
 have fy4 := fy 4 (by decide)
 have m3 : w.heap.size < w2.heap.size := by omega
 have H3 := Lib.hid (And.intro hit hbw2)
 clear hY2 hit hbw2 hb2 fy hg1 hg2 hg3
 go_wp2_with fail
 refine post_named fun Wf hWf => ?_
 obtain ⟨u1, u2, u3, -⟩ := set5 hWf
 refine bodyPost_ret (v := .tuple #[.agg #[.int .i64 4, .slice none 0 0, .slice (some ⟨g1, 0, none⟩) 1 1, .int .i64 2, .int .i64 2], .int .i64 0]) (by rw [hWf]; simp [results, Tryz.results40, go_sem, y0, y1, y2, y3, y4, m3]; try rfl) rfl ?_
 have hkf : KeepF [w.heap.size] [] w2 Wf := ⟨u3.1, u3.2.1, u3.2.2, by omega, fun k _ hn => u1 k (fun e => hn (by simp [e])), fun k hk => by cases hk⟩
 exact ⟨_, rfl, (H3.out.1.keep hkf (fun k hk => by simp at hk; omega)).mono (show w.heap.size ≤ W0.heap.size by omega), H3.out.2.trans (hkf.below (fun k hk => by simp at hk; omega) H3.out.2.size)⟩
set_option maxHeartbeats 2000000 in
theorem sleqb_any (v1 v2 : Value) (l1 l2 : List Bool) (w : World) (h1 : BlIn w v1 l1) (h2 : BlIn w v2 l2) (hl : l1.length ≤ 1000000) :
  Calls Tryz.prog 47 #[v1, v2] w fun e w' => e = .returned (.bool (decide (l1 = l2))) ∧ Below w.heap.size w w' := by
 have H1 := Lib.hid h1
 have H2 := Lib.hid h2
 obtain ⟨A1, c1, rfl, hc1, hcs1⟩ := h1
 obtain ⟨A2, c2, rfl, hc2, hcs2⟩ := h2
 obtain ⟨n1, hn1⟩ : ∃ n, l1.length = n := ⟨_, rfl⟩
 obtain ⟨n2, hn2⟩ : ∃ n, l2.length = n := ⟨_, rfl⟩
 obtain ⟨q, hq⟩ : ∃ q, decide (l1 = l2) = q := ⟨_, rfl⟩
 have HN := Lib.hid (And.intro hn1 (And.intro hn2 hq))
 have HC := Lib.hid (And.intro hcs1 hcs2)
 rw [hn1] at hc1 hl
 rw [hn2] at hc2
 rw [hn1, hn2, hq]
 clear hn1 hn2 hq hcs1 hcs2 H1 H2
 by_cases hnn : n1 = n2
 ·subst hnn
  go_enter Tryz.func47, Tryz.ntmps47
  go_wp2_with fail
  go_loopw [13] (fun v wr => ∃ k : Nat, k ≤ n1 ∧ v = .int .i64 (k : Int) ∧ Hid (Below w.heap.size w wr ∧ ∀ i, i < k → l1[i]? = l2[i]?)) (fun v _ => n1 - (intOf v).toNat)
  case atStart => exact ⟨0, by omega, rfl, Below.refl _ _, fun i hi => absurd hi (Nat.not_lt_zero _)⟩
  case round =>
   obtain ⟨k, hk, rfl, HB⟩ := hrel
   by_cases hlt : k < n1
   ·have hd : decide ((k : Int) < (n1 : Int)) = true := decide_eq_true (by omega)
    have hdn : decide (k < n1) = true := decide_eq_true hlt
    have hk1 : k < l1.length := by rw [HN.out.1]; exact hlt
    have hk2 : k < l2.length := by rw [HN.out.2.1]; exact hlt
    obtain ⟨g1, f1, rfl, hg1, hq1⟩ := HC.out.1.resolve_left (by intro e; rw [e] at hk1; simp at hk1)
    obtain ⟨g2, f2, rfl, hg2, hq2⟩ := HC.out.2.resolve_left (by intro e; rw [e] at hk2; simp at hk2)
    have hc1' := hq1 k hk1
    have hc2' := hq2 k hk2
    obtain ⟨x1, hx1⟩ : ∃ x, l1[k] = x := ⟨_, rfl⟩
    obtain ⟨x2, hx2⟩ : ∃ x, l2[k] = x := ⟨_, rfl⟩
    rw [hx1] at hc1'
    rw [hx2] at hc2'
    have HX : Hid (l1[k]? = some x1 ∧ l2[k]? = some x2) := ⟨by rw [List.getElem?_eq_getElem hk1, hx1], by rw [List.getElem?_eq_getElem hk2, hx2]⟩
    have d4 : ∀ d : BelT wr.heap.size wr, d.val.cell? ⟨g1, f1 + k, none⟩ = some (.bool x1) := fun d => ((HB.out.1.trans (d.property.mono HB.out.1.size)).cell (p := ⟨g1, f1 + k, none⟩) hg1).trans hc1'
    have d5 : ∀ d : BelT wr.heap.size wr, d.val.cell? ⟨g2, f2 + k, none⟩ = some (.bool x2) := fun d => ((HB.out.1.trans (d.property.mono HB.out.1.size)).cell (p := ⟨g2, f2 + k, none⟩) hg2).trans hc2'
    have d6 : ∀ d : BelT wr.heap.size wr, g1 < d.val.heap.size := fun d => by have := d.property.size; have := HB.out.1.size; omega
    have d7 : ∀ d : BelT wr.heap.size wr, g2 < d.val.heap.size := fun d => by have := d.property.size; have := HB.out.1.size; omega
    clear hx1 hx2 hc1' hc2' hq1 hq2
    go_wp2_with fail
    refine wp_region_below (Below.refl wr.heap.size wr) (by kernel_rfl) (by kernel_rfl) ?_
    repeat (go_big_quiet_step (fail))
    refine wpQuiet_nil ?_
    intro w2 hw'
    have hw2 : Below wr.heap.size wr w2 := by obtain ⟨d9, rfl⟩ := hw'; exact d9.property
    have HB3 := Lib.hid (HB.out.1.trans (hw2.mono HB.out.1.size))
    clear hw' d4 d5 d6 d7 hw2
    by_cases hxx : x1 = x2
    ·subst hxx
     have HI := Lib.hid (fun i (hi : i < k + 1) => (show l1[i]? = l2[i]? from if h : i < k then HB.out.2 i h else (show i = k by omega) ▸ (HX.out.1.trans HX.out.2.symm)))
     cases x1
     all_goals
      go_wp2_with fail
      go_roundw
      case rel => exact ⟨k + 1, by omega, by go_num, HB3.out, HI.out⟩
      case measure => simp [intOf]; omega
    ·have HF : Hid (false = q) := by
      rw [← HN.out.2.2]
      refine (decide_eq_false fun e => hxx ?_).symm
      have h1 := HX.out.1
      rw [e, HX.out.2] at h1
      exact (Option.some.inj h1).symm
     cases x1 <;> cases x2
     all_goals first
      | exact absurd rfl hxx
      | (clear hxx
         go_wp2_with fail
         go_ret
         exact ⟨ret_bool HF.out, HB3.out⟩)
   ·obtain rfl : k = n1 := by omega
    have hd : decide ((k : Int) < (k : Int)) = false := decide_eq_false (by omega)
    have hdn : decide (k < k) = false := decide_eq_false (by omega)
    have HF : Hid (true = q) := by
     rw [← HN.out.2.2]
     refine (decide_eq_true (List.ext_getElem? fun i => ?_)).symm
     by_cases hi : i < k
     ·exact HB.out.2 i hi
     ·rw [List.getElem?_eq_none (by rw [HN.out.1]; omega), List.getElem?_eq_none (by rw [HN.out.2.1]; omega)]
    go_wp2_with fail
    go_ret
    exact ⟨ret_bool HF.out, HB.out.1⟩
 ·have HF : Hid (false = q) := by
   rw [← HN.out.2.2]
   refine (decide_eq_false fun e => hnn ?_).symm
   rw [← HN.out.1, ← HN.out.2.1, e]
  have hni : ¬ ((n1 : Int) = (n2 : Int)) := by omega
  go_enter Tryz.func47, Tryz.ntmps47
  go_wp2_with fail
  go_ret
  exact ⟨ret_bool HF.out, Below.refl _ _⟩
set_option maxHeartbeats 4000000 in
theorem sleqe_any (v1 v2 : Value) (l1 l2 : List Ed) (w : World) (h1 : EdIn w v1 l1) (h2 : EdIn w v2 l2) (hl : l1.length ≤ 1000000) :
  Calls Tryz.prog 50 #[v1, v2] w fun e w' => e = .returned (.bool (decide (l1 = l2))) ∧ Below w.heap.size w w' := by
 obtain ⟨A1, c1, rfl, hc1, hcs1⟩ := h1
 obtain ⟨A2, c2, rfl, hc2, hcs2⟩ := h2
 obtain ⟨n1, hn1⟩ : ∃ n, l1.length = n := ⟨_, rfl⟩
 obtain ⟨n2, hn2⟩ : ∃ n, l2.length = n := ⟨_, rfl⟩
 obtain ⟨q, hq⟩ : ∃ q, decide (l1 = l2) = q := ⟨_, rfl⟩
 have HN := Lib.hid (And.intro hn1 (And.intro hn2 hq))
 have HC := Lib.hid (And.intro hcs1 hcs2)
 rw [hn1] at hc1 hl
 rw [hn2] at hc2
 rw [hn1, hn2, hq]
 clear hn1 hn2 hq hcs1 hcs2
 by_cases hnn : n1 = n2
 ·subst hnn
  go_enter Tryz.func50, Tryz.ntmps50
  go_wp2_with fail
  go_loopw [13] (fun v wr => ∃ k : Nat, k ≤ n1 ∧ v = .int .i64 (k : Int) ∧ Hid (Below w.heap.size w wr ∧ ∀ i, i < k → l1[i]? = l2[i]?)) (fun v _ => n1 - (intOf v).toNat)
  case atStart => exact ⟨0, by omega, rfl, Below.refl _ _, fun i hi => absurd hi (Nat.not_lt_zero _)⟩
  case round =>
   obtain ⟨j, hj, rfl, HB⟩ := hrel
   by_cases hlt : j < n1
   ·have hd : decide ((j : Int) < (n1 : Int)) = true := decide_eq_true (by omega)
    have hdn : decide (j < n1) = true := decide_eq_true hlt
    have hj1 : j < l1.length := by rw [HN.out.1]; exact hlt
    have hj2 : j < l2.length := by rw [HN.out.2.1]; exact hlt
    obtain ⟨p1, o1, rfl, hp1, hq1⟩ := HC.out.1.resolve_left (by intro e; rw [e] at hj1; simp at hj1)
    obtain ⟨p2, o2, rfl, hp2, hq2⟩ := HC.out.2.resolve_left (by intro e; rw [e] at hj2; simp at hj2)
    obtain ⟨a0, a1, a2⟩ := hq1 j hj1
    obtain ⟨z0, z1, z2⟩ := hq2 j hj2
    have HX2 : Hid (l1[j]? = some l1[j] ∧ l2[j]? = some l2[j]) := ⟨List.getElem?_eq_getElem hj1, List.getElem?_eq_getElem hj2⟩
    obtain ⟨⟨lo1, hi1, t1⟩, hx1⟩ : ∃ x, l1[j] = x := ⟨_, rfl⟩
    obtain ⟨⟨lo2, hi2, t2⟩, hx2⟩ : ∃ x, l2[j] = x := ⟨_, rfl⟩
    rw [hx1, hx2] at HX2
    rw [hx1] at a0 a1 a2
    rw [hx2] at z0 z1 z2
    simp only at a0 a1 a2 z0 z1 z2
    have hbd := fun d : BelT wr.heap.size wr => HB.out.1.trans (d.property.mono HB.out.1.size)
    have y0 : ∀ d : BelT wr.heap.size wr, d.val.cell? ⟨p1, o1 + j * 3, none⟩ = some (.int .u8 (lo1 : Int)) := fun d => ((hbd d).cell (p := ⟨p1, o1 + j * 3, none⟩) hp1).trans a0
    have y1 : ∀ d : BelT wr.heap.size wr, d.val.cell? ⟨p1, o1 + j * 3 + 1, none⟩ = some (.int .u8 (hi1 : Int)) := fun d => ((hbd d).cell (p := ⟨p1, o1 + j * 3 + 1, none⟩) hp1).trans a1
    have y2 : ∀ d : BelT wr.heap.size wr, d.val.cell? ⟨p1, o1 + j * 3 + 2, none⟩ = some (.int .i64 (t1 : Int)) := fun d => ((hbd d).cell (p := ⟨p1, o1 + j * 3 + 2, none⟩) hp1).trans a2
    have y3 : ∀ d : BelT wr.heap.size wr, d.val.cell? ⟨p2, o2 + j * 3, none⟩ = some (.int .u8 (lo2 : Int)) := fun d => ((hbd d).cell (p := ⟨p2, o2 + j * 3, none⟩) hp2).trans z0
    have y4 : ∀ d : BelT wr.heap.size wr, d.val.cell? ⟨p2, o2 + j * 3 + 1, none⟩ = some (.int .u8 (hi2 : Int)) := fun d => ((hbd d).cell (p := ⟨p2, o2 + j * 3 + 1, none⟩) hp2).trans z1
    have y5 : ∀ d : BelT wr.heap.size wr, d.val.cell? ⟨p2, o2 + j * 3 + 2, none⟩ = some (.int .i64 (t2 : Int)) := fun d => ((hbd d).cell (p := ⟨p2, o2 + j * 3 + 2, none⟩) hp2).trans z2
    have y6 : ∀ d : BelT wr.heap.size wr, p1 < d.val.heap.size := fun d => by have := (hbd d).size; omega
    have y7 : ∀ d : BelT wr.heap.size wr, p2 < d.val.heap.size := fun d => by have := (hbd d).size; omega
    clear a0 a1 a2 z0 z1 z2 hx1 hx2 hq1 hq2 hbd
    by_cases hz : lo1 = lo2 ∧ hi1 = hi2 ∧ t1 = t2
    ·obtain ⟨rfl, rfl, rfl⟩ := hz
     have HI := Lib.hid (fun i (hi : i < j + 1) => (show l1[i]? = l2[i]? from if h : i < j then HB.out.2 i h else (show i = j by omega) ▸ (HX2.out.1.trans HX2.out.2.symm)))
     go_wp2_with fail
     refine wp_region_below (Below.refl wr.heap.size wr) (by kernel_rfl) (by kernel_rfl) ?_
     repeat (go_big_quiet_step (fail))
     refine wpQuiet_nil ?_
     intro w2 hw'
     have hw2 : Below wr.heap.size wr w2 := by obtain ⟨d9, rfl⟩ := hw'; exact d9.property
     have HB6 := Lib.hid (HB.out.1.trans (hw2.mono HB.out.1.size))
     clear hw' y0 y1 y2 y3 y4 y5 y6 y7 hw2
     go_wp2_with fail
     go_roundw
     case rel => exact ⟨j + 1, by omega, by go_num, HB6.out, HI.out⟩
     case measure => simp [intOf]; omega
    ·have HF : Hid (false = q) := by
      rw [← HN.out.2.2]
      refine (decide_eq_false fun e => hz ?_).symm
      have h4 := HX2.out.1
      rw [e, HX2.out.2] at h4
      have h5 := Option.some.inj h4
      injection h5 with e1 e2 e3
      exact ⟨e1.symm, e2.symm, e3.symm⟩
     have hcase : (¬ lo1 = lo2 ∧ ¬ ((lo1 : Int) = (lo2 : Int))) ∨ (lo1 = lo2 ∧ ¬ hi1 = hi2 ∧ ¬ ((hi1 : Int) = (hi2 : Int))) ∨ (lo1 = lo2 ∧ hi1 = hi2 ∧ ¬ t1 = t2 ∧ ¬ ((t1 : Int) = (t2 : Int))) := by omega
     clear hz
     rcases hcase with ⟨z1, z2⟩ | ⟨rfl, z1, z2⟩ | ⟨rfl, rfl, z1, z2⟩
     all_goals
      go_wp2_with fail
      refine wp_region_below (Below.refl wr.heap.size wr) (by kernel_rfl) (by kernel_rfl) ?_
      repeat (go_big_quiet_step (fail))
      refine wpQuiet_nil ?_
      intro w2 hw'
      have hw2 : Below wr.heap.size wr w2 := by obtain ⟨d9, rfl⟩ := hw'; exact d9.property
      have HB6 := Lib.hid (HB.out.1.trans (hw2.mono HB.out.1.size))
      clear hw' y0 y1 y2 y3 y4 y5 y6 y7 hw2
      go_wp2_with fail
      go_ret
      exact ⟨ret_bool HF.out, HB6.out⟩
   ·obtain rfl : j = n1 := by omega
    have hd : decide ((j : Int) < (j : Int)) = false := decide_eq_false (by omega)
    have hdn : decide (j < j) = false := decide_eq_false (by omega)
    have HF : Hid (true = q) := by
     rw [← HN.out.2.2]
     refine (decide_eq_true (List.ext_getElem? fun i => ?_)).symm
     by_cases hi : i < j
     ·exact HB.out.2 i hi
     ·rw [List.getElem?_eq_none (by rw [HN.out.1]; omega), List.getElem?_eq_none (by rw [HN.out.2.1]; omega)]
    go_wp2_with fail
    go_ret
    exact ⟨ret_bool HF.out, HB.out.1⟩
 ·have HF : Hid (false = q) := by
   rw [← HN.out.2.2]
   refine (decide_eq_false fun e => hnn ?_).symm
   rw [← HN.out.1, ← HN.out.2.1, e]
  have hni : ¬ ((n1 : Int) = (n2 : Int)) := by omega
  go_enter Tryz.func50, Tryz.ntmps50
  go_wp2_with fail
  go_ret
  exact ⟨ret_bool HF.out, Below.refl _ _⟩
end Go.Proofs.YtjhmipidmpmlmaaGreatDoor
