/- The sort of messages by their numbers; SortedFunc over the values of a map. · Walks: what stands at a time, by the code. -/
import Derived.Shelf.SlSortCmp.NoneTotal
import Derived.Test.YtklnakjmiljmhaaGreatDoorY30
import Derived.Test.YtklnakjmiljmhaaGreatDoorY32
import Derived.Test.YtklnakjmiljmhaaGreatDoorY21
import Derived.Test.YtklnakjmiljmhaaGreatDoorY01
namespace Go.Proofs.YtklnakjmiljmhaaGreatDoor
set_option linter.unusedVariables false
set_option linter.unusedSimpArgs false
set_option maxRecDepth 100000
open Go.RowKit
instance : Inhabited Ms := ⟨⟨0, 0, [], 0, []⟩⟩
def cfM (x y : Ms) : Int := cmpI x.id y.id
theorem byid_any (x y : Ms) (W : World) : Calls Tryz.prog 41 #[.agg (encM x).toArray, .agg (encM y).toArray] W fun e w' => e = .returned (.int .i64 (cfM x y)) ∧ ∃ q os', w' = Sort.grow (W.drewN q) os' := by
  obtain ⟨k1, i1, w1, t1, x1⟩ := x
  obtain ⟨k2, i2, w2, t2, x2⟩ := y
  have C := fun w => cmp_any i1 i2 w
  unfold cfM
  dsimp only
  generalize cmpI i1 i2 = r at *
  unfold encM
  dsimp only
  go_enter Tryz.func41, Tryz.ntmps41
  go_wp2_with (go_at_call 42; refine (C _).mono ?_; rintro e wq ⟨rfl, rfl⟩)
  go_ret
  refine ⟨rfl, 0, #[.cells #[.int .i64 k1, .int .i64 i1, .string (bs w1), .int .i64 t1, .string (bs x1)] 43, .cells #[.int .i64 k2, .int .i64 i2, .string (bs w2), .int .i64 t2, .string (bs x2)] 43], ?_⟩
  show (W.alloc _).alloc _ = _
  rw [Sort.alloc_eq_grow, Sort.alloc_eq_grow, Sort.grow_grow]
  rfl
theorem cmpLaysM (blk off size : Nat) (w : World) : CmpLays Tryz.prog 41 #[] encM 5 cfM blk off size w := fun _ _ _ _ x y => byid_any x y _
def ltM (x y : Ms) : Bool := decide (x.id < y.id)
theorem ltOf_cfM (x y : Ms) : ltOf cfM x y = ltM x y := by
  unfold ltOf cfM ltM cmpI
  rw [Bool.eq_iff_iff]
  simp only [decide_eq_true_eq]
  split <;> (try split) <;> omega
theorem swoM : Sort.SWO (ltOf cfM) where
  irrefl x := by rw [ltOf_cfM]; simp [ltM]
  trans x y z h1 h2 := by rw [ltOf_cfM] at *; simp [ltM] at *; omega
  ntrans x y z h1 h2 := by rw [ltOf_cfM] at *; simp [ltM] at *; omega
theorem sortM_raw (blk cap : Nat) (d : Array Ms) (w : World) (hH : Sort.HoldsK encM 5 w blk 0 d) (hblk : blk < w.heap.size) (hsz : d.size < 4611686018427387904) :
    Calls Tryz.prog 74 #[.slice (some ⟨blk, 0, none⟩) d.size cap, .func (.func 41) #[] #[]] w fun e w' =>
      e = .returned (.tuple #[]) ∧ ∃ d' n os, Sort.PermIn 0 d.size d d' ∧ Sort.SortedIn (ltOf cfM) 0 d.size d' ∧ w' = sortWorldK encM 5 w blk 0 n d' os :=
  AnyQ.slices_SortFunc Tryz.sortRun 5 Tryz.isAgg43 Tryz.sizeOf43 encM (fun _ => rfl) (fun x v hv => encM_E.one x v hv) cfM swoM 41 #[] blk 0 cap d w (enters_of Tryz.func41 (by kernel_rfl) rfl) (cmpLaysM blk 0 d.size w) hH hblk (by omega)
theorem grown_sortM (w : World) (blk n : Nat) (d : Array Ms) (os : Array Obj) (hblk : blk < w.heap.size) : w.grownBy (sortWorldK encM 5 w blk 0 n d os) (some blk) := by
  refine ⟨rfl, rfl, rfl, ?_, fun k hk hne => ?_⟩
  · show w.heap.size ≤ (w.heap.modify blk _ ++ os).size
    simp
  · show (w.heap.modify blk _ ++ os)[k]? = w.heap[k]?
    rw [Array.getElem?_append_left (by simpa using hk), Array.getElem?_modify, if_neg (by intro e; exact hne (by rw [e]))]
theorem holdsM_of_own {B : Nat} {g cap : Nat} {o : List Ms} {w : World} (h : OM B (.slice (some ⟨g, 0, none⟩) o.length cap) o w) (h0 : o ≠ []) : Sort.HoldsK encM 5 w g 0 o.toArray := by
  obtain ⟨A, c, hv, hc, hcell⟩ := OR.cells encM_E h
  injection hv with e1 e2 e3
  obtain ⟨g', hA, -, -, hcell⟩ := hcell.resolve_left h0
  rw [hA] at e1
  injection e1 with e1
  injection e1 with e1
  subst e1
  intro j hj
  rw [Sort.size_flatK] at hj
  have hj' : j < o.length * 5 := by simpa using hj
  have hd : j / 5 < o.length := by omega
  obtain ⟨h1, h2⟩ := hcell (j / 5) hd (j % 5) (by omega)
  rw [show j / 5 * 5 + j % 5 = j by omega] at h1 h2
  rw [Nat.zero_add]
  refine ⟨?_, h2⟩
  rw [h1, Sort.get_flatK _ _ _ _ hj]
  have e2 : o.toArray[j / 5]! = o[j / 5] := by simp [hd]
  rw [e2]
  have hl : (encM o[j / 5]).length = 5 := rfl
  simp only [id]
  rw [List.getElem?_eq_getElem (by rw [hl]; omega)]
  simp [hl, show j % 5 < 5 by omega]
theorem sortM_any (o : List Ms) (v : Value) (B : Nat) (W : World) (hown : OM B v o W) (ho : o.length ≤ 1000000) :
    Calls Tryz.prog 74 #[v, .func (.func 41) #[] #[]] W fun e w' => e = .returned (.tuple #[]) ∧ ∃ o' : List Ms, o'.Perm o ∧ o'.Pairwise (fun a b => ltM b a = false) ∧ MC v o' w' ∧ W.grownBy w' v.ownBlock := by
  have h' := hown
  rcases hown.2 with ⟨h1, h0⟩ | ⟨g, cap, cur, rfl, hB, hg, hle, -⟩
  · obtain rfl : o = [] := List.length_eq_zero_iff.1 h0
    subst h1
    refine (AnyF.slices_SortFunc_none Tryz.sortRun none 0 _ W).mono ?_
    rintro e w' ⟨rfl, rfl⟩
    exact ⟨rfl, [], List.Perm.refl _, List.Pairwise.nil, ⟨none, 0, rfl, Nat.le_refl _, .inl rfl⟩, World.grownBy.refl _ _⟩
  · by_cases h0 : o = []
    · subst h0
      refine (AnyF.slices_SortFunc_none Tryz.sortRun _ _ _ W).mono ?_
      rintro e w' ⟨rfl, rfl⟩
      exact ⟨rfl, [], List.Perm.refl _, List.Pairwise.nil, ⟨_, _, rfl, Nat.zero_le _, .inl rfl⟩, World.grownBy.refl _ _⟩
    have hblk := (Array.getElem?_eq_some_iff.1 hg).1
    have hH := holdsM_of_own h' h0
    have S := sortM_raw g cap o.toArray W hH hblk (by simp; omega)
    rw [show o.toArray.size = o.length from by simp] at S
    refine S.mono ?_
    rintro e w' ⟨rfl, d', n, os, hp, hs, rfl⟩
    obtain ⟨hsz, -, hperm⟩ := hp
    have hsz' : d'.size = o.length := by simpa using hsz
    have hx : (d'.extract 0 o.length).toList = d'.toList := by rw [← hsz']; simp
    have hx2 : (o.toArray.extract 0 o.length).toList = o := by simp
    rw [hx, hx2] at hperm
    have hl : d'.toList.length = o.length := by simpa using hsz'
    refine ⟨rfl, d'.toList, hperm, ?_, ?_, grown_sortM W g n d' os hblk⟩
    · rw [List.pairwise_iff_getElem]
      intro i j hi hj hij
      have h := hs i j (Nat.zero_le _) hij (by omega)
      rw [ltOf_cfM] at h
      have hi' : i < d'.size := by simpa using hi
      have hj' : j < d'.size := by simpa using hj
      rw [getElem!_pos d' i hi', getElem!_pos d' j hj'] at h
      simpa using h
    · have hH2 := holdsK_sortWorldK_c (enc := encM) (k := 5) (w := W) (blk := g) (off := 0) o.toArray d' n os hH hblk hsz
      refine ⟨_, _, by rw [hl], by rw [hl]; exact hle, .inr ⟨g, 0, rfl, Nat.lt_of_lt_of_le hblk (grown_sortM W g n d' os hblk).size, fun i hi => ?_⟩⟩
      have hi' : i < d'.size := by simpa using hi
      have e : d'[i]! = d'.toList[i] := by rw [getElem!_pos d' i hi']; simp
      have q := fun c (hc : c < 5) => (Sort.HoldsK.cell hH2 (i := i) (c := c) hi' hc).1
      refine ⟨?_, ?_, ?_, ?_, ?_⟩
      · have := q 0 (by omega); rw [e] at this; exact this
      · have := q 1 (by omega); rw [e, Nat.zero_add] at this; rw [Nat.zero_add]; exact this
      · have := q 2 (by omega); rw [e, Nat.zero_add] at this; rw [Nat.zero_add]; exact this
      · have := q 3 (by omega); rw [e, Nat.zero_add] at this; rw [Nat.zero_add]; exact this
      · have := q 4 (by omega); rw [e, Nat.zero_add] at this; rw [Nat.zero_add]; exact this
theorem collect_any (Bm b nn : Nat) (hnn : nn ≤ 100000) (f : Int → Option Ms) (Fm : Lit → Option Value) (hS : SaysM Fm f) (hk : ∀ k m, f k = some m → m.id = k) (w : World) (hB : Bm < w.heap.size) (hm : w.cell? ⟨Bm, 0, none⟩ = some (.map (some b))) (hmv : MV Tryz.prog 3 b nn Fm w) :
    Calls Tryz.prog 73 #[.func (.func 75) #[] #[.pointer (some ⟨Bm, 0, none⟩)]] w fun e w' => ∃ v xs, e = .returned v ∧ (ValsOf f xs ∧ xs.length ≤ nn) ∧ OM w.heap.size v xs w' ∧ Below w.heap.size w w' := by
  have A := Lib.hid (appendseq_any Bm b nn hnn f Fm hS hk w hB hm hmv)
  clear hm hmv
  go_enter Tryz.func73, Tryz.ntmps73
  go_wp2_with fail
  refine A.out.mono ?_
  rintro e w1 ⟨v, xs, rfl, h1, h2, h3⟩
  go_wp2_with fail
  go_ret
  exact ⟨v, xs, rfl, h1, h2, h3⟩
end Go.Proofs.YtklnakjmiljmhaaGreatDoor
namespace Go.Proofs.YtklnakjmiljmhaaGreatDoor
set_option linter.unusedVariables false
set_option linter.unusedSimpArgs false
set_option maxRecDepth 100000
open Go.RowKit
open Go.Maps (Keyed)
theorem asc_of_sorted {xs o : List Ms} {f : Int → Option Ms} (hv : ValsOf f xs) (hp : o.Perm xs) (hs : o.Pairwise (fun a b => ltM b a = false)) : AscM o ∧ ∀ m, m ∈ o ↔ f m.id = some m := by
  have hnd : (o.map (·.id)).Nodup := (hp.map _).nodup_iff.2 hv.1
  refine ⟨?_, fun m => (hp.mem_iff).trans (hv.2 m)⟩
  unfold AscM
  have h2 : o.Pairwise (fun a b => a.id ≠ b.id) := by
    rw [List.Nodup, List.pairwise_map] at hnd; exact hnd
  refine (hs.and h2).imp ?_
  rintro a b ⟨h1, h3⟩
  unfold ltM at h1
  simp at h1; omega
theorem sorted_vals (Bm b nn : Nat) (hnn : nn ≤ 100000) (f : Int → Option Ms) (Fm : Lit → Option Value) (hS : SaysM Fm f) (hk : ∀ k m, f k = some m → m.id = k) (w : World) (hB : Bm < w.heap.size) (hm : w.cell? ⟨Bm, 0, none⟩ = some (.map (some b))) (hmv : MV Tryz.prog 3 b nn Fm w) :
    Calls Tryz.prog 39 #[.func (.func 75) #[] #[.pointer (some ⟨Bm, 0, none⟩)], .func (.func 41) #[] #[]] w fun e w' => ∃ v o, e = .returned v ∧ AscM o ∧ (∀ m, m ∈ o ↔ f m.id = some m) ∧ MC v o w' ∧ Below w.heap.size w w' := by
  have A := Lib.hid (collect_any Bm b nn hnn f Fm hS hk w hB hm hmv)
  clear hm hmv
  go_enter Tryz.func39, Tryz.ntmps39
  go_wp2_with fail
  refine A.out.mono ?_
  rintro e w1 ⟨v, xs, rfl, ⟨h1, hl'⟩, h2, h3⟩
  have H1 := Lib.hid h1
  have hl : xs.length ≤ 1000000 := by omega
  clear h1
  have H2 := Lib.hid h2
  have H3 := Lib.hid h3
  clear h3 h2
  go_wp2_with fail
  refine (sortM_any xs v _ w1 H2.out hl).mono ?_
  rintro e w2 ⟨rfl, o, hp, hs, hmc, hg⟩
  have H4 := Lib.hid (And.intro hp (And.intro hs (And.intro hmc hg)))
  clear hp hs hmc hg
  go_wp2_with fail
  go_ret
  obtain ⟨hp, hs, hmc, hg⟩ := H4.out
  obtain ⟨q1, q2⟩ := asc_of_sorted H1.out hp hs
  exact ⟨v, o, rfl, q1, q2, hmc, H3.out.grown hg H3.out.size (fun k hk => (World.ownsRow.lt H2.out k hk).1)⟩
set_option maxHeartbeats 2000000 in
theorem at_any (v : Value) (l : List Ms) (t : Int) (w : World) (h : MC v l w) (hs : Small l) : Calls Tryz.prog 16 #[v, .int .i64 t] w fun e w' => ∃ u, e = .returned u ∧ MC u (atM l t) w' ∧ Below w.heap.size w w' := by
  have K : Keyed Tryz.prog 3 := Maps.int_keyed Tryz.underlying3
  have V := Lib.hid (valid_any v l w h hs)
  have hl := hs.1
  by_cases h0 : errM l = 0
  · rw [h0] at V
    have p3 := Lib.hid (errM_ok.1 h0).2.2.1
    have hl3 := (errM_ok.1 h0).1
    have HA := Lib.hid (show atM l t = atF t l [] by unfold atM; rw [if_pos h0])
    have H := Lib.hid h
    clear hs h0
    obtain ⟨A, c, rfl, hc, -⟩ := h
    have hmm := @run_makeMap Tryz.prog
    go_enter Tryz.func16, Tryz.ntmps16
    go_wp2_with fail
    refine V.out.mono ?_
    rintro e w1 ⟨rfl, hb1⟩
    have H1 := Lib.hid (H.out.later hb1 (Nat.le_refl _))
    have HB1 := Lib.hid hb1
    clear hb1
    go_wp2_with fail
    have hM := MV.made Tryz.prog 3 w1
    have hb0 : Below w1.heap.size w1 (w1.alloc (.map #[] 0)) := (Below.refl _ w1).alloc (Nat.le_refl _) _
    have hz0 : (w1.alloc (.map #[] 0)).heap.size = w1.heap.size + 1 := by simp
    have HMC := Lib.hid (H1.out.later hb0 (Nat.le_refl _))
    generalize w1.alloc (.map #[] 0) = W0 at *
    have HZ0 := Lib.hid hz0; clear hz0 hmm
    go_loopw [14] (fun v wr => ∃ (k n : Nat) (f : Int → Option Ms) (Fm : Lit → Option Value), k ≤ l.length ∧ v = .int .i64 (k : Int) ∧ MV Tryz.prog 3 w1.heap.size n Fm wr ∧ n ≤ k ∧ SaysM Fm f ∧ (∀ k m, f k = some m → m.id = k) ∧ Below w1.heap.size w1 wr ∧ Hid (lastF t (l.drop k) f = lastF t l (fun _ => none))) (fun v _ => l.length - (intOf v).toNat)
    case atStart => exact ⟨0, 0, fun _ => none, _, by omega, rfl, hM, by omega, fun _ => rfl, fun k m h => (by cases h), hb0, rfl⟩
    case round =>
      obtain ⟨k, n, f, Fm, hk, rfl, hmv, hn, hsay, hkey, hbel, HR⟩ := hrel
      have HSAY := Lib.hid hsay; have HKEY := Lib.hid hkey; clear hsay hkey
      by_cases hlt : k < l.length
      · have hd : decide ((k : Int) < (l.length : Int)) = true := decide_eq_true (by omega)
        have hdn : decide (k < l.length) = true := decide_eq_true hlt
        obtain ⟨A', c', hv, -, hcell⟩ := H1.out.later hbel (Nat.le_refl _)
        injection hv with hv1 hv2 hv3
        rw [← hv1] at hcell
        obtain ⟨g, ff, rfl, hg, hcs⟩ := hcell.resolve_left (by intro e; rw [e] at hlt; simp at hlt)
        obtain ⟨a0, a1, a2, a3, a4⟩ := hcs k hlt
        have hii := p3.out l[k] (List.getElem_mem hlt)
        have HDR := Lib.hid (show lastF t (l[k] :: l.drop (k + 1)) f = lastF t l (fun _ => none) by rw [← List.drop_eq_getElem_cons hlt]; exact HR.out)
        clear hcs hv1 hv3
        obtain ⟨m, hm⟩ : ∃ m, l[k] = m := ⟨_, rfl⟩
        rw [hm] at a0 a1 a2 a3 a4 hii HDR
        clear hm
        obtain ⟨kd, id, who, tm, tx⟩ := m
        obtain ⟨-, -, i1, i2, -⟩ := wrongM_no hii
        dsimp only at a0 a1 a2 a3 a4 i1 i2
        have hmv1 : MV Tryz.prog 3 w1.heap.size n Fm (wr.alloc (Obj.cells #[.int .i64 kd, .int .i64 id, .string (bs who), .int .i64 tm, .string (bs tx)] 43)) := hmv.kept (Below.heap_alloc _ _ _ hmv.lt)
        have hbel1 : Below w1.heap.size w1 (wr.alloc (Obj.cells #[.int .i64 kd, .int .i64 id, .string (bs who), .int .i64 tm, .string (bs tx)] 43)) := hbel.alloc hbel.size _
        have hkl := key_int (P := Tryz.prog) Tryz.underlying3 id (by omega) (by omega)
        have hnm : n < maxLen := by unfold maxLen; omega
        clear hii HR hmv
        by_cases ht : t < tm
        · have dt : decide (t < tm) = true := decide_eq_true ht
          have HE := Lib.hid (show lastF t (l.drop (k + 1)) f = lastF t l (fun _ => none) by have h := HDR.out; rw [lastF, if_neg (by show ¬ tm ≤ t; omega)] at h; exact h)
          clear ht
          go_wp2_with fail
          go_roundw
          case rel => exact ⟨k + 1, n, f, Fm, by omega, by go_num, hmv1, by omega, HSAY.out, HKEY.out, hbel1, HE⟩
          case measure => simp [intOf]; omega
        · have dt : decide (t < tm) = false := decide_eq_false ht
          have HE := Lib.hid (show lastF t (l.drop (k + 1)) (fun x => if x = id then (if kd = 3 then none else some ⟨kd, id, who, tm, tx⟩) else f x) = lastF t l (fun _ => none) by have h := HDR.out; rw [lastF, if_pos (by show tm ≤ t; omega)] at h; exact h)
          clear ht
          by_cases h3 : kd = 3
          · have d3 : (kd == 3) = true := by simp [h3]
            rw [if_pos h3] at HE
            clear h3
            go_wp2_with (at_delete; refine wpList_drop_MV _ rfl _ _ 74 3 rfl 43 K Tryz.underlying74 w1.heap.size n Fm rfl hmv1 _ _ rfl hkl trivial ?_; intro w2 hmv2 hgr2)
            have hbel2 := hbel1.grown hgr2 hbel1.size (by intro r hr; cases hr; exact Nat.le_refl _)
            go_roundw
            case rel => exact ⟨k + 1, n, _, _, by omega, by go_num, hmv2, by omega, HSAY.out.put id none, fun k m h => (by
              split at h
              · cases h
              · exact HKEY.out k m h), hbel2, HE⟩
            case measure => simp [intOf]; omega
          · have d3 : (kd == 3) = false := by simpa using h3
            rw [if_neg h3] at HE
            clear h3
            go_wp2_with (at_mapUpdate; refine wpList_put_MV _ rfl _ _ _ 74 rfl 3 43 K Tryz.underlying74 w1.heap.size n Fm rfl hmv1 hnm _ _ _ rfl rfl hkl trivial ?_; intro w2 hmv2 hgr2)
            have hbel2 := hbel1.grown hgr2 hbel1.size (by intro r hr; cases hr; exact Nat.le_refl _)
            go_roundw
            case rel => exact ⟨k + 1, n + 1, _, _, by omega, by go_num, hmv2, by omega, HSAY.out.put id (some ⟨kd, id, who, tm, tx⟩), fun k m h => (by
              split at h
              · next e => cases h; exact e.symm
              · exact HKEY.out k m h), hbel2, HE⟩
            case measure => simp [intOf]; omega
      · obtain rfl : k = l.length := by omega
        have hd : decide ((l.length : Int) < (l.length : Int)) = false := decide_eq_false (by omega)
        have hdn : decide (l.length < l.length) = false := decide_eq_false (by omega)
        have HE := Lib.hid (show f = lastF t l (fun _ => none) by rw [← HR.out, List.drop_length]; rfl)
        have hbw := HB1.out.trans (hbel.mono HB1.out.size)
        have VI := Lib.hid (fun w => (callsIn_wide (n := 1)).1 (values_in Fence.wide 1 trivial rfl (some w1.heap.size) w))
        have hszr := hmv.lt
        have HMV := Lib.hid hmv
        have HBW := Lib.hid hbw
        clear hmv hbw hbel
        go_wp2_with fail
        refine (VI.out _).mono ?_
        rintro e w3 ⟨rfl, rfl⟩
        have hmv3 := HMV.out.kept (Below.heap_alloc wr (.cells #[.map (some w1.heap.size)] 74) _ hszr)
        have S := Lib.hid (sorted_vals wr.heap.size w1.heap.size n (by omega) f Fm HSAY.out HKEY.out (wr.alloc (.cells #[.map (some w1.heap.size)] 74)) (by simp) (by rw [World.cell?_alloc_mark]; rfl) hmv3)
        clear hmv3
        go_wp2_with fail
        refine S.out.mono ?_
        rintro e w4 ⟨u, o, rfl, h1, h2, h3, h4⟩
        have HF := Lib.hid (And.intro h1 (And.intro h2 (And.intro h3 h4)))
        clear h1 h2 h3 h4
        go_wp2_with fail
        go_ret
        obtain ⟨h1, h2, h3, h4⟩ := HF.out
        have ho : o = atM l t := by
          rw [HA.out]
          exact at_of_map h1 (fun x => by rw [← HE.out]; exact h2 x)
        exact ⟨u, rfl, ho ▸ h3, HBW.out.trans (((Below.refl _ wr).alloc (Nat.le_refl _) (.cells #[.map (some w1.heap.size)] 74)).trans (h4.mono (by simp)) |>.mono HBW.out.size)⟩
  · have hne : (errM l != 0) = true := by simpa using h0
    have HT := Lib.hid (show atM l t = [] by unfold atM; rw [if_neg h0])
    clear h0 hs h
    generalize errM l = x at *
    go_enter Tryz.func16, Tryz.ntmps16
    go_wp2_with fail
    refine V.out.mono ?_
    rintro e w0 ⟨rfl, hb0⟩
    go_wp2_with fail
    go_ret
    exact ⟨_, rfl, by rw [HT.out]; exact ⟨none, 0, rfl, Nat.le_refl _, .inl rfl⟩, hb0⟩
end Go.Proofs.YtklnakjmiljmhaaGreatDoor
