/- Arrays of 257 numbers as keys of a map, and the load of such an array. · The reference's classes: rounds, keys, the array of a key in memory. · Walk: ref06.classes. · ref06.Small: rows by the byte; what is under way in memory. · Plain: the classes of ref06.Small as classes of what is alive; what is done is least. · ref06.Small: an edge is appended to the row, or its last one ends later; what region 28 leaves. -/
import Derived.WideKeyArr2
import Derived.Test.YtjhmipidmpmlmaaGreatDoorY20
import Derived.Test.YtjhmipidmpmlmaaGreatDoorY02
import Derived.ChangeKeys
import Derived.Test.YtjhmipidmpmlmaaGreatDoorY23
import Derived.Test.YtjhmipidmpmlmaaGreatDoorY15
import Derived.Test.YtjhmipidmpmlmaaGreatDoorY19
import Derived.Test.YtjhmipidmpmlmaaGreatDoorY03
namespace Go.Proofs.YtjhmipidmpmlmaaGreatDoor
set_option linter.unusedVariables false
set_option linter.unusedSimpArgs false
set_option maxRecDepth 100000
open Go.RowKit
open Go.Maps (Keyed)
theorem arr257 : WideMaps.ArrKey Tryz.prog 140 3 257 := ⟨by kernel_rfl, by kernel_rfl, by kernel_rfl, by kernel_rfl⟩
theorem keyed257 : Keyed Tryz.prog 140 := Keyed.of_law arr257.law
def vK (f : Nat → Int) : Value := .agg ((Array.range 257).map fun i => .int .i64 (f i))
def litK (f : Nat → Int) : Lit := .string (keyBytes ((List.range 257).map fun i => Lit.int .i64 (f i)))
theorem mapM_someK {α β : Type} {g : α → Option β} {h : α → β} : ∀ (L : List α), (∀ i ∈ L, g i = some (h i)) → L.mapM g = some (L.map h)
 | [], _ => rfl
 | a :: r, hh => by
  rw [List.mapM_cons, hh a (by simp), mapM_someK r fun i hi => hh i (by simp [hi])]
  rfl
theorem keyOf_K (f : Nat → Int) (hf : ∀ i, i < 257 → -9223372036854775808 ≤ f i ∧ f i < 9223372036854775808) : keyOf Tryz.prog 140 (vK f) = some (litK f) := by
 have hwf : ∀ i, i < 257 → (Lit.int .i64 (f i)).wf = true := fun i hi => by
  have h1 : IntKind.i64.min = -9223372036854775808 := by decide
  have h2 : IntKind.i64.max = 9223372036854775807 := by decide
  obtain ⟨q1, q2⟩ := hf i hi;simp [Lit.wf];omega
 have hkt := arr257.keyType ⟨Tryz.prog.types.size - 1, by kernel_rfl⟩
 have hsz : Tryz.prog.types.size = (Tryz.prog.types.size - 1) + 1 := by kernel_rfl
 have hn : ((Array.range 257).map fun i => Value.int .i64 (f i)).size = 257 := by simp
 unfold keyOf vK;simp only [arr257.hu];rw [if_pos (by simp [hkt, Value.formed, arr257.hu, arr257.size, hn])]
 rw [hsz];unfold Program.keyLits;simp only [arr257.hu, Value.cells];rw [if_pos (by rw [arr257.size]; simp)]
 rw [arr257.one];rw [mapM_someK (h := fun i => [Lit.int .i64 (f i)]) (List.range 257) (fun i hi => by
  have hi' : i < 257 := by simpa using hi
  have hd : ((((Array.range 257).map fun i => Value.int .i64 (f i)).toList.drop (i * 1)).take 1) = [Value.int .i64 (f i)] := by
   rw [Nat.mul_one];have hl : i < (((Array.range 257).map fun i => Value.int .i64 (f i)).toList).length := by simpa using hi'
   rw [List.drop_eq_getElem_cons hl];simp
  rw [hd];have h0 : ∃ d, Tryz.prog.types.size - 1 = d + 1 := ⟨Tryz.prog.types.size - 2, by kernel_rfl⟩
  obtain ⟨d, hd0⟩ := h0;rw [hd0];unfold Program.keyLits;simp only [Tryz.underlying3];rw [if_pos ⟨trivial, hwf i hi'⟩])]
 have hfl : ∀ L : List Nat, (L.map fun i => [Lit.int .i64 (f i)]).flatten = L.map fun i => Lit.int .i64 (f i) := fun L => by induction L with | nil => rfl | cons a r ih => simp [ih]
 simp only [Option.map_some, hfl]
 rfl
end Go.Proofs.YtjhmipidmpmlmaaGreatDoor
namespace Go.Proofs.YtjhmipidmpmlmaaGreatDoor
set_option linter.unusedVariables false
set_option linter.unusedSimpArgs false
set_option maxRecDepth 100000
open Go.RowKit
def cF (cs : List Nat) (s : Nat) : Nat := (cs[s]?).getD 0
def kS (F : Nat → Nat → Int) (cs : List Nat) (s i : Nat) : Int := if i = 256 then (cF cs s : Int) else if 0 ≤ F s i then (cF cs (F s i).toNat : Int) else -1
def sgL (F : Nat → Nat → Int) (cs : List Nat) (s : Nat) : List Int := (List.range 257).map (kS F cs s)
def litL (l : List Int) : Lit := .string (keyBytes (l.map (Lit.int .i64)))
theorem litK_eq (f : Nat → Int) : litK f = litL ((List.range 257).map f) := by
 unfold litK litL; rw [List.map_map]; rfl
def WfL (l : List Int) : Prop := l.length = 257 ∧ ∀ x ∈ l, -9223372036854775808 ≤ x ∧ x < 9223372036854775808
theorem alike_ints : ∀ {l l' : List Int}, l.length = l'.length → Alike (l.map (Lit.int .i64)) (l'.map (Lit.int .i64))
 | [], [], _ => trivial
 | a :: l, [], h => by simp at h
 | [], b :: l', h => by simp at h
 | a :: l, b :: l', h => ⟨rfl, alike_ints (by simpa using h)⟩
theorem wf_ints {l : List Int} (h : WfL l) : ∀ a ∈ l.map (Lit.int .i64), a.keyWf := by
 intro a ha;obtain ⟨x, hx, rfl⟩ := List.mem_map.1 ha;have h1 : IntKind.i64.min = -9223372036854775808 := by decide
 have h2 : IntKind.i64.max = 9223372036854775807 := by decide
 obtain ⟨q1, q2⟩ := h.2 x hx;show (Lit.int .i64 x).wf = true;simp [Lit.wf];omega
theorem map_int_inj : ∀ {l l' : List Int}, l.map (Lit.int .i64) = l'.map (Lit.int .i64) → l = l'
 | [], [], _ => rfl
 | a :: l, [], h => by simp at h
 | [], b :: l', h => by simp at h
 | a :: l, b :: l', h => by
  simp only [List.map_cons, List.cons.injEq, Lit.int.injEq, true_and] at h;rw [h.1, map_int_inj h.2]
theorem litL_inj {l l' : List Int} (h : WfL l) (h' : WfL l') (e : litL l = litL l') : l = l' := by
 unfold litL at e;injection e with e;exact map_int_inj (keyBytes_inj (alike_ints (by rw [h.1, h'.1])) (wf_ints h) (wf_ints h') e)
theorem sgL_wf {F : Nat → Nat → Int} {cs : List Nat} {s : Nat} (hc : ∀ t, cF cs t < 1000000) : WfL (sgL F cs s) := by
 refine ⟨by simp [sgL], fun x hx => ?_⟩
 obtain ⟨i, -, rfl⟩ := List.mem_map.1 hx;unfold kS;have h1 := hc s;have h2 := hc (F s i).toNat
 split
 ·omega
 ·split <;> omega
theorem sgL_eq {F : Nat → Nat → Int} {cs : List Nat} {s t : Nat} : sgL F cs s = sgL F cs t ↔ cF cs s = cF cs t ∧ ∀ b, b < 256 → sigR F (cF cs) s b = sigR F (cF cs) t b := by
 unfold sgL;rw [List.map_inj_left];constructor
 ·intro h;refine ⟨?_, fun b hb => ?_⟩
  ·have := h 256 (by simp)
   unfold kS at this;rw [if_pos rfl, if_pos rfl] at this;omega
  ·have := h b (by simp; omega)
   have hb' : ¬ b = 256 := by omega
   unfold kS at this;rw [if_neg hb', if_neg hb'] at this;unfold sigR;by_cases h1 : 0 ≤ F s b
   ·rw [if_pos h1] at this ⊢;by_cases h2 : 0 ≤ F t b
    ·rw [if_pos h2] at this ⊢
     congr 1; omega
    ·rw [if_neg h2] at this; omega
   ·rw [if_neg h1] at this ⊢;by_cases h2 : 0 ≤ F t b
    ·rw [if_pos h2] at this; omega
    ·rw [if_neg h2]
 ·rintro ⟨h1, h2⟩ i hi;have hi' : i < 257 := by simpa using hi
  unfold kS;by_cases he : i = 256
  ·rw [if_pos he, if_pos he, h1]
  ·rw [if_neg he, if_neg he];have hi2 : i < 256 := by omega
   have := h2 i hi2;unfold sigR at this;by_cases h3 : 0 ≤ F s i
   ·rw [if_pos h3] at this ⊢;by_cases h4 : 0 ≤ F t i
    ·rw [if_pos h4] at this ⊢;injection this with this; omega
    ·rw [if_neg h4] at this; cases this
   ·rw [if_neg h3] at this ⊢;by_cases h4 : 0 ≤ F t i
    ·rw [if_pos h4] at this; cases this
    ·rw [if_neg h4]
structure RnR (sg : Nat → List Int) (ds : List Nat) (seen : List (List Int)) (n k : Nat) : Prop where
 len : ds.length = n
 nd : seen.Nodup
 at_ : ∀ s, s < k → sg s ∈ seen ∧ cF ds s = seen.idxOf (sg s)
 of_ : ∀ x ∈ seen, ∃ s, s < k ∧ sg s = x
theorem RnR.start (sg : Nat → List Int) (ds : List Nat) : RnR sg ds [] ds.length 0 := ⟨rfl, List.nodup_nil, fun s hs => absurd hs (Nat.not_lt_zero _), fun x hx => by cases hx⟩
theorem cF_set {ds : List Nat} {k x : Nat} (hk : k < ds.length) (s : Nat) : cF (ds.set k x) s = if s = k then x else cF ds s := by
 unfold cF;rw [List.getElem?_set];by_cases h : s = k
 ·subst h; rw [if_pos rfl, if_pos rfl, if_pos hk]; rfl
 ·rw [if_neg (Ne.symm h), if_neg h]
section
variable {sg : Nat → List Int} {ds : List Nat} {seen : List (List Int)} {n k : Nat}
theorem RnR.old (h : RnR sg ds seen n k) (hk : k < n) (hin : sg k ∈ seen) : RnR sg (ds.set k (seen.idxOf (sg k))) seen n (k + 1) := by
 have hl : k < ds.length := by rw [h.len]; exact hk
 refine ⟨by rw [List.length_set]; exact h.len, h.nd, fun s hs => ?_, fun x hx => ?_⟩
 ·rw [cF_set hl];by_cases e : s = k
  ·subst e; rw [if_pos rfl]; exact ⟨hin, rfl⟩
  ·rw [if_neg e]; exact h.at_ s (by omega)
 ·obtain ⟨s, h1, h2⟩ := h.of_ x hx;exact ⟨s, by omega, h2⟩
theorem RnR.new (h : RnR sg ds seen n k) (hk : k < n) (hin : sg k ∉ seen) : RnR sg (ds.set k seen.length) (seen ++ [sg k]) n (k + 1) := by
 have hl : k < ds.length := by rw [h.len]; exact hk
 refine ⟨by rw [List.length_set]; exact h.len, ?_, fun s hs => ?_, fun x hx => ?_⟩
 ·rw [List.nodup_append];exact ⟨h.nd, by simp, fun x hx y hy => by rw [List.mem_singleton] at hy; subst hy; rintro rfl; exact hin hx⟩
 ·rw [cF_set hl];by_cases e : s = k
  ·subst e; rw [if_pos rfl, List.idxOf_append, if_neg hin]; simp
  ·rw [if_neg e];obtain ⟨h1, h2⟩ := h.at_ s (by omega)
   exact ⟨List.mem_append_left _ h1, by rw [h2, List.idxOf_append, if_pos h1]⟩
 ·rcases List.mem_append.1 hx with hx | hx
  ·obtain ⟨s, h1, h2⟩ := h.of_ x hx;exact ⟨s, by omega, h2⟩
  ·rw [List.mem_singleton] at hx;exact ⟨k, by omega, hx.symm⟩
theorem RnR.len_le (h : RnR sg ds seen n k) : seen.length ≤ k := by
 have := nodup_le (l := seen) (r := (List.range k).map sg) h.nd (fun x hx => by
  obtain ⟨s, h1, h3⟩ := h.of_ x hx;exact List.mem_map.2 ⟨s, List.mem_range.2 h1, h3⟩)
 simpa using this
theorem RnR.eq (h : RnR sg ds seen n n) {s t : Nat} (hs : s < n) (ht : t < n) : cF ds s = cF ds t ↔ sg s = sg t := by
 obtain ⟨a1, a2⟩ := h.at_ s hs;obtain ⟨b1, b2⟩ := h.at_ t ht;rw [a2, b2];constructor
 ·intro he;have e1 := (getElem?_idxOfD a1).2;have e2 := (getElem?_idxOfD b1).2;rw [he, e2] at e1;exact (Option.some.inj e1).symm
 ·intro he; rw [he]
theorem RnR.vals (h : RnR sg ds seen n n) (y : Nat) : y < seen.length ↔ ∃ s, s < n ∧ cF ds s = y := by
 constructor
 ·intro hy;obtain ⟨s, h1, h3⟩ := h.of_ seen[y] (List.getElem_mem hy);refine ⟨s, h1, ?_⟩;rw [(h.at_ s h1).2, h3, h.nd.idxOf_getElem y hy]
 ·rintro ⟨s, hs, hd⟩;obtain ⟨h1, h2⟩ := h.at_ s hs;rw [h2] at hd;rw [← hd];exact (getElem?_idxOfD h1).1
theorem RnR.lt_ (h : RnR sg ds seen n n) (hn : 0 < n) (s : Nat) : cF ds s < n := by
 by_cases hs : s < n
 ·have := (h.vals (cF ds s)).2 ⟨s, hs, rfl⟩;have := h.len_le;omega
 ·unfold cF;rw [List.getElem?_eq_none (by rw [h.len]; omega)]
  exact hn
end
structure HeadR (m : Mc) (cs : List Nat) (kn : Nat) : Prop where
 len : cs.length = m.ed.length
 cl : ClrI m (cF cs)
 kn : kn = 0 ∨ (∀ c, c < kn ↔ ∃ s, s < m.ed.length ∧ cF cs s = c)
 lt : ∀ s, cF cs s < 2002
section
variable {m : Mc} {F : Nat → Nat → Int} {cs ds : List Nat} {seen : List (List Int)} {kn : Nat}
theorem RnR.nextR (h : RnR (sgL F cs) ds seen m.ed.length m.ed.length) : NextR m F (cF cs) (cF ds) := fun s t hs ht => (h.eq hs ht).trans sgL_eq
theorem HeadR.count (hh : HeadR m cs kn) (h1 : 1 ≤ m.ed.length) (h : RnR (sgL F cs) ds seen m.ed.length m.ed.length) : kn ≤ seen.length ∧ (kn = seen.length → ∀ s t, s < m.ed.length → t < m.ed.length → cF cs s = cF cs t → cF ds s = cF ds t) := by
 rcases hh.kn with h0 | hp
 ·subst h0;refine ⟨Nat.zero_le _, fun he s t hs ht _ => ?_⟩;have := (h.at_ 0 (by omega)).1
  rw [List.length_eq_zero_iff.1 he.symm] at this
  cases this
 ·have hrc := refine_count (S := List.range m.ed.length) (f := cF cs) (g := cF ds) (F := List.range kn) (G := List.range seen.length) List.nodup_range
   (fun x => by
    rw [List.mem_range, hp x];constructor
    ·rintro ⟨s, h1, h2⟩; exact ⟨s, List.mem_range.2 h1, h2⟩
    ·rintro ⟨s, h1, h2⟩; exact ⟨s, List.mem_range.1 h1, h2⟩)
   (fun y => by
    rw [List.mem_range, h.vals y];constructor
    ·rintro ⟨s, h1, h2⟩; exact ⟨s, List.mem_range.2 h1, h2⟩
    ·rintro ⟨s, h1, h2⟩; exact ⟨s, List.mem_range.1 h1, h2⟩)
   (fun s hs t ht he => ((h.nextR s t (List.mem_range.1 hs) (List.mem_range.1 ht)).1 he).1)
  simp only [List.length_range] at hrc;exact ⟨hrc.1, fun he s t hs ht hc => hrc.2 he s (List.mem_range.2 hs) t (List.mem_range.2 ht) hc⟩
theorem HeadR.next {al : List Bool} (hv : Vld m) (ha : LiveL m al) (hh : HeadR m cs kn) (h1 : 1 ≤ m.ed.length) (h2 : m.ed.length ≤ 2000) (h : RnR (sgL (tbF m al) cs) ds seen m.ed.length m.ed.length) (he : seen.length ≠ kn) : HeadR m ds seen.length ∧ kn < seen.length ∧ seen.length ≤ m.ed.length := by
 have := (hh.count h1 h).1;exact ⟨⟨h.len, hh.cl.next hv ha h.nextR, .inr h.vals, fun s => by have := h.lt_ (by omega) s; omega⟩, by omega, h.len_le⟩
theorem HeadR.done {al : List Bool} (hv : Vld m) (hsm : McSm m) (ha : LiveL m al) (hh : HeadR m cs kn) (h1 : 1 ≤ m.ed.length) (h : RnR (sgL (tbF m al) cs) ds seen m.ed.length m.ed.length) (he : seen.length = kn) : ∀ s t, s < m.ed.length → t < m.ed.length → (cF ds s = cF ds t ↔ SameL m s t) :=
 hh.cl.done hv hsm ha h.nextR ((hh.count h1 h).2 he.symm)
end
def firR (ac : List Bool) (k n : Nat) : List Nat := (List.range n).map fun s => if s < k ∧ ac[s]? = some true then 1 else 0
theorem firR_zero (ac : List Bool) (n : Nat) : firR ac 0 n = List.replicate n 0 := by
 unfold firR;rw [List.eq_replicate_iff];refine ⟨by simp, fun x hx => ?_⟩
 obtain ⟨s, -, rfl⟩ := List.mem_map.1 hx;rw [if_neg (by omega)]
theorem firR_len (ac : List Bool) (k n : Nat) : (firR ac k n).length = n := by simp [firR]
theorem firR_get (ac : List Bool) (k n s : Nat) (h : s < n) : (firR ac k n)[s]? = some (if s < k ∧ ac[s]? = some true then 1 else 0) := by
 unfold firR;rw [List.getElem?_map, List.getElem?_range h]; rfl
theorem firR_false {ac : List Bool} {k n : Nat} (h : ac[k]? = some false) : firR ac (k + 1) n = firR ac k n := by
 unfold firR;refine List.map_congr_left fun s _ => ?_;by_cases e : s = k
 ·subst e; rw [h]; simp
 ·congr 1
  simp only [eq_iff_iff];constructor <;> (rintro ⟨h1, h2⟩; exact ⟨by omega, h2⟩)
theorem firR_true {ac : List Bool} {k n : Nat} (h : ac[k]? = some true) : firR ac (k + 1) n = (firR ac k n).set k 1 := by
 apply List.ext_getElem?;intro s;by_cases hs : s < n
 ·rw [firR_get ac (k + 1) n s hs, List.getElem?_set];by_cases e : k = s
  ·subst e; rw [if_pos ⟨by omega, h⟩, if_pos rfl, if_pos (by rw [firR_len]; exact hs)]
  ·rw [if_neg e, firR_get ac k n s hs];by_cases hx : s < k ∧ ac[s]? = some true
   ·rw [if_pos hx, if_pos ⟨by omega, hx.2⟩]
   ·rw [if_neg hx, if_neg (fun h => hx ⟨by omega, h.2⟩)]
 ·rw [List.getElem?_eq_none (by rw [firR_len]; omega), List.getElem?_eq_none (by rw [List.length_set, firR_len]; omega)]
theorem HeadR.first {m : Mc} (hl : m.ac.length = m.ed.length) : HeadR m (firR m.ac m.ed.length m.ed.length) 0 := by
 refine ⟨firR_len _ _ _, ClrI.start m _ fun s hs => ?_, .inl rfl, fun s => ?_⟩
 ·unfold cF;rw [firR_get _ _ _ _ hs, List.getElem?_eq_getElem (by omega)]
  cases m.ac[s] <;> simp [hs]
 ·unfold cF;by_cases hs : s < m.ed.length
  ·rw [firR_get _ _ _ _ hs]; simp only [Option.getD_some]; split <;> omega
  ·rw [List.getElem?_eq_none (by rw [firR_len]; omega)]; simp
def idxR (seen : List (List Int)) (x : List Int) : Option Value := if x ∈ seen then some (.int .i64 ((seen.idxOf x : Nat) : Int)) else none
def SaysR (F : Lit → Option Value) (seen : List (List Int)) : Prop := ∀ x, WfL x → F (litL x) = idxR seen x
theorem SaysR.nil : SaysR (fun _ => none) [] := fun x _ => rfl
theorem SaysR.put {F : Lit → Option Value} {seen : List (List Int)} (h : SaysR F seen) (x : List Int) (hw : WfL x) (hx : x ∉ seen) (n : Int) (hn : n = (seen.length : Int)) : SaysR (updV F (litL x) (some (.int .i64 n))) (seen ++ [x]) := by
 intro y hy;subst hn;unfold updV;by_cases e : y = x
 ·subst e;rw [if_pos (by simp [litL, Lit.sameKey])]
  unfold idxR;rw [if_pos (by simp), List.idxOf_append, if_neg hx]
  simp
 ·rw [if_neg (by
   simp only [litL, Lit.sameKey, beq_iff_eq];intro he;exact e (litL_inj hy hw (by unfold litL; rw [he]))), h y hy]
  unfold idxR;by_cases hy : y ∈ seen
  ·rw [if_pos hy, if_pos (by simp [hy]), List.idxOf_append, if_pos hy]
  ·rw [if_neg hy, if_neg (by simp [hy, e])]
def KvB (w : World) (g : Nat) (f : Nat → Int) : Prop := ∃ cs, w.heap[g]? = some (.cells cs 140 (0, 0)) ∧ cs.size = 257 ∧ ∀ i, i < 257 → cs[i]? = some (.int .i64 (f i))
def updK (f : Nat → Int) (i : Nat) (x : Int) : Nat → Int := fun j => if j = i then x else f j
theorem KvB.cell {w : World} {g : Nat} {f : Nat → Int} (h : KvB w g f) {i : Nat} (hi : i < 257) : w.cell? ⟨g, i, none⟩ = some (.int .i64 (f i)) ∧ w.frozen? ⟨g, i, none⟩ = false ∧ g < w.heap.size := by
 obtain ⟨cs, h1, h2, h3⟩ := h;refine ⟨?_, by simp [World.frozen?, h1], (Array.getElem?_eq_some_iff.1 h1).1⟩
 rw [cell_of_row _ _ _ _ _ _ h1]; exact h3 i hi
theorem KvB.set {w : World} {g : Nat} {f : Nat → Int} (h : KvB w g f) {i : Nat} (hi : i < 257) (x : Int) : KvB (w.setCell ⟨g, i, none⟩ (.int .i64 x)) g (updK f i x) := by
 obtain ⟨cs, h1, h2, h3⟩ := h;refine ⟨cs.setIfInBounds i (.int .i64 x), by simp [World.setCell, Array.getElem?_modify, h1], by simpa using h2, fun j hj => ?_⟩
 unfold updK;rw [Array.getElem?_setIfInBounds];by_cases he : j = i
 ·subst he;rw [if_pos rfl, if_pos (by omega), if_pos rfl]
 ·rw [if_neg (by omega), if_neg he]
  exact h3 j hj
theorem vK_congr {f g : Nat → Int} (h : ∀ i, i < 257 → f i = g i) : vK f = vK g := by
 unfold vK
 congr 1
 apply Array.ext
 ·simp
 ·intro i h1 h2;have : i < 257 := by simpa using h1
  simp [h i this]
def cK (f : Nat → Int) : Array Value := (Array.range 257).map fun i => .int .i64 (f i)
theorem cK_size (f : Nat → Int) : (cK f).size = 257 := by simp [cK]
theorem info257 : (Tryz.prog.info? 140).map (·.size) = some 257 := by kernel_rfl
theorem KvB.cells {w : World} {g : Nat} {f : Nat → Int} (h : KvB w g f) : w.heap[g]? = some (.cells (cK f) 140 (0, 0)) := by
 obtain ⟨cs, h1, h2, h3⟩ := h;rw [h1]
 congr 2
 unfold cK;apply Array.ext
 ·simpa using h2
 ·intro i hi hj;have h4 : i < 257 := by omega
  have := h3 i h4;rw [Array.getElem?_eq_getElem hi] at this;injection this with this;rw [this]; simp
theorem cK_congr {f g : Nat → Int} (h : ∀ i, i < 257 → f i = g i) : cK f = cK g := by
 have := vK_congr h;unfold vK at this;injection this
theorem keyOf_cK {F : Nat → Nat → Int} {cs : List Nat} {s : Nat} (hc : ∀ t, cF cs t < 1000000) : keyOf Tryz.prog 140 (.agg (cK (kS F cs s))) = some (litL (sgL F cs s)) := by
 have := keyOf_K (kS F cs s) fun i hi => (sgL_wf (F := F) (s := s) hc).2 _ (List.mem_map.2 ⟨i, List.mem_range.2 hi, rfl⟩);rw [litK_eq] at this;exact this
def RcPost (m : Mc) (n : Nat) (w : World) (e : Ending) (w' : World) : Prop := ∃ g ds, e = .returned (.slice (some ⟨g, 0, none⟩) n n) ∧ OR 3 1 clC w.heap.size (.slice (some ⟨g, 0, none⟩) n n) (ds.map some) w' ∧ Below w.heap.size w w' ∧ ds.length = n ∧ (∀ s t, s < n → t < n → (cF ds s = cF ds t ↔ SameL m s t)) ∧ ∀ s, cF ds s < n
theorem clF_some {ds : List Nat} {s : Nat} (h : s < ds.length) : clF (ds.map some) s = some (cF ds s) := by
 unfold clF cF;rw [List.getElem?_map, List.getElem?_eq_getElem h]; rfl
end Go.Proofs.YtjhmipidmpmlmaaGreatDoor
namespace Go.Proofs.YtjhmipidmpmlmaaGreatDoor
set_option linter.unusedVariables false
set_option linter.unusedSimpArgs false
set_option maxRecDepth 100000
open Go.RowKit
open Go.Maps (Keyed)
structure RdQ (sg : Nat → List Int) (WB : World) (ds : List Nat) (seen : List (List Int)) (F : Lit → Option Value) (n k : Nat) (wr : World) : Prop where
 mn : MN Tryz.prog 140 WB.heap.size seen.length F wr
 sy : SaysR F seen
 own : OR 3 1 clC (WB.heap.size + 1) (.slice (some ⟨WB.heap.size + 1, 0, none⟩) n n) (ds.map some) wr
 ri : RnR sg ds seen n k
 bl : Below WB.heap.size WB wr
theorem RdQ.later {sg : Nat → List Int} {WB : World} {ds : List Nat} {seen : List (List Int)} {F : Lit → Option Value} {n k : Nat} {wr w' : World} (h : RdQ sg WB ds seen F n k wr) (hb : Below wr.heap.size wr w') : RdQ sg WB ds seen F n k w' :=
 have h1 := h.own.lt1
 ⟨h.mn.kept (hb.block _ (by omega)), h.sy, h.own.later hb, h.ri, h.bl.trans (hb.mono h.bl.size)⟩
theorem zc257 : Tryz.zeroCells140 = Array.replicate 257 (.int .i64 0) := by kernel_rfl
theorem KvB.new (w : World) (x : Int) : KvB (w.alloc (.cells (Tryz.zeroCells140.setIfInBounds 256 (.int .i64 x)) 140)) w.heap.size (updK (fun _ => 0) 256 x) := by
 rw [zc257];refine ⟨_, heap_alloc_new w _, by simp, fun i hi => ?_⟩
 unfold updK;rw [Array.getElem?_setIfInBounds];by_cases he : 256 = i
 ·subst he; simp
 ·rw [if_neg he, if_neg (Ne.symm he), Array.getElem?_replicate, if_pos hi]
set_option maxHeartbeats 16000000 in
theorem rclasses_any (v : Value) (m : Mc) (w : World) (gT : Nat) (al : List Bool) (hm : McIn w v m) (hv : Vld m) (hsm : McSm m) (h1 : 1 ≤ m.ed.length) (h2 : m.ed.length ≤ 2000) (ha : LiveL m al) (ht : TbB w gT m.ed.length (tbF m al)) :
  Calls Tryz.prog 80 #[v, .slice (some ⟨gT, 0, none⟩) m.ed.length m.ed.length] w (RcPost m m.ed.length w) := by
 obtain ⟨Ae, ce, Aa, ca, rfl, hcn, hcn2⟩ := mcf hm;obtain ⟨he, hac0⟩ := mc_parts hm;obtain ⟨n, hn⟩ : ∃ n, m.ed.length = n := ⟨_, rfl⟩;have hac : m.ac.length = n := by rw [hv.len, hn]
 have HA := Lib.hid hac0;have HV := Lib.hid hv;have HSM := Lib.hid hsm;have HN := Lib.hid (And.intro hn hac);have HAL := Lib.hid ha;have hF : ∀ s c, tbF m al s c = -1 ∨ ∃ x, tbF m al s c = ((x : Nat) : Int) ∧ x < n := fun s c => by
  unfold tbF
  cases htr : trn (rowM m s) c with
  | none => exact .inl rfl
  | some t =>
   simp only
   split
   ·exact .inr ⟨t, rfl, by rw [← hn]; exact hv.trn_lt htr⟩
   ·exact .inl rfl
 have HF := Lib.hid hF;rw [hn] at h1 h2 hcn ht;rw [hac] at hcn2;have HT := Lib.hid ht;have HTL := Lib.hid (ht.cell (s := 0) (c := 0) (by omega) (by decide)).2.2
 rw [hac, hn];have hz : ∀ w, (zeroValue 3).run Tryz.prog w = .ok (.int .i64 0) w := fun _ => by kernel_rfl
 have hmk := mk_zeros n (by omega)
 have hmm := @run_makeMap Tryz.prog;clear he hac0 hv hsm hm hn hac ha ht hF
 go_enter Tryz.func80, Tryz.ntmps80
 go_wp2_with fail;refine wp_named fun W0 hW0 => ?_;have hb0 : Below w.heap.size w W0 := by rw [hW0]; exact ((Below.refl _ _).alloc (Nat.le_refl _) _).alloc (by simp) _
 have hs0 : W0.heap.size = w.heap.size + 2 := by rw [hW0]; simp
 have hbx0 : W0.heap[w.heap.size]? = some (.cells #[.slice Ae n ce, .slice Aa n ca] 34 (0, 0)) := by rw [hW0]; exact (old_alloc _ _ _ (by simp)).trans (heap_alloc_new w _)
 have hcl0 : OR 3 1 clC (w.heap.size + 1) (.slice (some ⟨w.heap.size + 1, 0, none⟩) n n) ((firR m.ac 0 n).map some) W0 := by
  have hzero := zeros_new (w.alloc (.cells #[.slice Ae n ce, .slice Aa n ca] 34)) n (by omega)
  have hsz1 : (w.alloc (.cells #[.slice Ae n ce, .slice Aa n ca] 34)).heap.size = w.heap.size + 1 := by simp
  rw [hsz1] at hzero;rw [firR_zero, hW0, List.map_replicate]; exact hzero
 have HB0 := Lib.hid hb0;have HBX0 := Lib.hid hbx0;have HCL0 := Lib.hid hcl0;have HS0 := Lib.hid hs0;clear hW0 hb0 hbx0 hcl0 hs0
 go_loopw [6] (fun iv wr => ∃ k : Nat, k ≤ n ∧ iv = .int .i64 (k : Int) ∧ Hid (OR 3 1 clC (w.heap.size + 1) (.slice (some ⟨w.heap.size + 1, 0, none⟩) n n) ((firR m.ac k n).map some) wr) ∧ Hid (KeepF [w.heap.size + 1] [] W0 wr)) (fun iv _ => n - (intOf iv).toNat)
 case atStart => exact ⟨0, Nat.zero_le _, rfl, HCL0, kf_belT (Below.refl _ _)⟩
 case round =>
  obtain ⟨k, hk, rfl, HC, HK⟩ := hrel;have hwz := HK.out.size;have hs0 := HS0.out;by_cases hlt : k < n
  ·have hd : decide ((k : Int) < (n : Int)) = true := decide_eq_true (by omega)
   have hdn : decide (k < n) = true := decide_eq_true hlt;have hbwr : Below w.heap.size w wr := HB0.out.trans (HK.out.below (fun q hq => by rw [List.mem_singleton] at hq; omega) (by omega))
   have hkl : k < m.ac.length := by rw [HN.out.2]; exact hlt
   obtain ⟨g, f, rfl, -, hg, c0'⟩ := HA.out.at_ hkl;have c0 := (hbwr.cell (p := ⟨g, f + k, none⟩) hg).trans c0';have lg : g < wr.heap.size := by omega
   have hbx := (HK.out.blk w.heap.size (by omega) (by simp)).trans HBX0.out
   obtain ⟨x0, x1⟩ : wr.cell? ⟨w.heap.size, 0, none⟩ = some (.slice Ae n ce) ∧ wr.cell? ⟨w.heap.size, 1, none⟩ = some (.slice (some ⟨g, f, none⟩) n ca) := by constructor <;> (rw [cell_of_row _ _ _ _ _ _ hbx]; rfl)
   have lx : w.heap.size < wr.heap.size := by omega
   obtain ⟨q, hq⟩ : ∃ q, m.ac[k] = q := ⟨_, rfl⟩;rw [hq] at c0;have HOK := Lib.hid (show m.ac[k]? = some q by rw [List.getElem?_eq_getElem hkl, hq])
   obtain ⟨y0, y1⟩ := HC.out.cellC k (by rw [List.length_map, firR_len]; exact hlt)
   have hgy := HC.out.lt1;clear hbwr hkl c0' hbx hq
   cases q with
   | false =>
    go_wp2_with fail;go_roundw
    case rel => exact ⟨k + 1, by omega, by go_num, by rw [firR_false HOK.out]; exact HC, HK⟩
    case measure => simp [intOf]; omega
   | true =>
    have hset := HC.out.setC (by rw [List.length_map, firR_len]) k (some 1)
    rw [← List.map_set, ← firR_true HOK.out] at hset;have HS2 := Lib.hid hset;have hk2 : KeepF [w.heap.size + 1] [] W0 (wr.setCell ⟨w.heap.size + 1, k, none⟩ (.int .i64 1)) := HK.out.tr ⟨rfl, rfl, rfl, by simp [World.setCell], fun q _ hn => Below.heap_setCell _ _ _ _ (fun e => hn (by simp [show q = w.heap.size + 1 from e])), fun k hk => by cases hk⟩
    have HK2 := Lib.hid hk2;clear hset hk2;go_wp2_with fail;go_roundw
    case rel => exact ⟨k + 1, by omega, by go_num, HS2, HK2⟩
    case measure => simp [intOf]; omega
  ·obtain rfl : k = n := by omega
   have hd : decide ((k : Int) < (k : Int)) = false := decide_eq_false (by omega)
   have hdn : decide (k < k) = false := decide_eq_false (by omega)
   have HBL := Lib.hid (HB0.out.trans (HK.out.below (fun q hq => by rw [List.mem_singleton] at hq; omega) (by omega)))
   have hhd := HeadR.first (m := m) (by rw [HN.out.1, HN.out.2])
   rw [HN.out.1] at hhd;have HHD := Lib.hid hhd;have HCO := Lib.hid (HC.out.mono (show w.heap.size ≤ w.heap.size + 1 by omega))
   clear hhd;go_wp2_with fail
   go_loopg [5, 7] (k + 2) (fun q cv kv wr => ∃ (g3 kn : Nat) (cs : List Nat), cv = .slice (some ⟨g3, 0, none⟩) k k ∧ kv = .int .i64 (kn : Int) ∧ q + kn = k + 2 ∧ kn ≤ k ∧ Hid (OR 3 1 clC w.heap.size (.slice (some ⟨g3, 0, none⟩) k k) (cs.map some) wr) ∧ Hid (HeadR m cs kn) ∧ Hid (Below w.heap.size w wr))
   case atStart => exact ⟨w.heap.size + 1, 0, firR m.ac k k, rfl, rfl, rfl, Nat.zero_le _, HCO, HHD, HBL⟩
   case round =>
    obtain ⟨g3, kn, cs, rfl, rfl, hq, hkn, HCS, HH, HBL⟩ := hrel;obtain ⟨WB, rfl⟩ : ∃ W : World, W = wr := ⟨_, rfl⟩;have hg3 := HCS.out.lt1;have hcsl : cs.length = k := by rw [HH.out.len, HN.out.1]
    have hwB := HBL.out.size;have hmn0 : MN Tryz.prog 140 WB.heap.size 0 (fun _ => none) (WB.alloc (.map #[] 0)) := MN.made _ _ _;have hz0 := zeros_new (WB.alloc (.map #[] 0)) k (by omega)
    have hszm : (WB.alloc (.map #[] 0)).heap.size = WB.heap.size + 1 := by simp
    rw [hszm] at hz0;have hR0 : RdQ (sgL (tbF m al) cs) WB (List.replicate k 0) [] (fun _ => none) k 0 ((WB.alloc (.map #[] 0)).alloc (.cells (Array.replicate k (.int .i64 0)) 3)) :=
     ⟨hmn0.kept (old_alloc _ _ _ (by omega)), SaysR.nil, by rw [List.map_replicate]; exact hz0, by have := RnR.start (sgL (tbF m al) cs) (List.replicate k 0); rwa [List.length_replicate] at this, ((Below.refl _ WB).alloc (Nat.le_refl _) _).alloc (by omega) _⟩
    have HR0 := Lib.hid hR0;have HCSL := Lib.hid hcsl;clear hmn0 hz0 hszm hR0 hcsl;go_wp2_with fail
    go_loopw [10] (fun iv wr => ∃ (j : Nat) (ds : List Nat) (seen : List (List Int)) (F : Lit → Option Value), j ≤ k ∧ iv = .int .i64 (j : Int) ∧ Hid (RdQ (sgL (tbF m al) cs) WB ds seen F k j wr)) (fun iv _ => k - (intOf iv).toNat)
    case atStart => exact ⟨0, _, [], _, Nat.zero_le _, rfl, HR0⟩
    case round =>
     obtain ⟨j, ds, seen, F, hj, rfl, HR⟩ := hrel;have hwr := HR.out.bl.size;have hsl := HR.out.own.lt1;have hdl : ds.length = k := HR.out.ri.len;by_cases hlt : j < k
     ·have hd : decide ((j : Int) < (k : Int)) = true := decide_eq_true (by omega)
      have hdn : decide (j < k) = true := decide_eq_true hlt;obtain ⟨cc0, -⟩ := HCS.out.cellC j (by rw [List.length_map, HCSL.out]; exact hlt)
      rw [clF_some (by rw [HCSL.out]; exact hlt)] at cc0
      have cc1 : wr.cell? ⟨g3, j, none⟩ = some (.int .i64 ((cF cs j : Nat) : Int)) := (HR.out.bl.cell (p := ⟨g3, j, none⟩) hg3).trans cc0;have hg3r : g3 < wr.heap.size := by omega
      have HDL := Lib.hid hdl;clear cc0 hdl;go_wp2_with fail;refine wp_named fun W1 hW1 => ?_;have hkv := KvB.new wr (cF cs j : Int);rw [← hW1] at hkv;have hb1 : Below wr.heap.size wr W1 := by rw [hW1]; exact (Below.refl _ _).alloc (Nat.le_refl _) _
      have HR1 := Lib.hid (HR.out.later hb1);have HBW := Lib.hid (HBL.out.trans ((HR.out.bl.trans (hb1.mono hwr)).mono hwB));have HBB := Lib.hid (HR.out.bl.trans (hb1.mono hwr));have hlk := (hkv.cell (i := 0) (by decide)).2.2
      obtain ⟨kb, hkb⟩ : ∃ x, wr.heap.size = x := ⟨_, rfl⟩;rw [hkb] at hkv hlk hwr ⊢;have hkb1 : WB.heap.size + 1 < kb := by omega
      have HKV : Hid (KvB W1 kb (updK (fun _ => 0) 256 (cF cs j)) ∧ updK (fun _ => 0) 256 (cF cs j : Int) 256 = (cF cs j : Int) ∧ ∀ i, i < 0 → updK (fun _ => 0) 256 (cF cs j : Int) i = kS (tbF m al) cs j i) := ⟨hkv, by simp [updK], fun i hi => absurd hi (Nat.not_lt_zero _)⟩
      clear hW1 hb1 hkv cc1 hg3r hkb hsl
      go_loopw [12] (fun v wr => ∃ (c : Nat) (G : Nat → Int), c ≤ 256 ∧ v = .int .i64 (c : Int) ∧ Hid (KvB wr kb G ∧ G 256 = (cF cs j : Int) ∧ ∀ i, i < c → G i = kS (tbF m al) cs j i) ∧ Hid (KeepF [kb] [] W1 wr)) (fun v _ => 256 - (intOf v).toNat)
      case atStart => exact ⟨0, _, by omega, rfl, HKV, kf_belT (Below.refl _ _)⟩
      case round =>
       obtain ⟨c, G, hc, rfl, HG, HK1⟩ := hrel;have hwz1 := HK1.out.size;by_cases hcl : c < 256
       ·have hdc : decide ((c : Int) < 256) = true := decide_eq_true (by omega)
        have hdcn : decide (c < 256) = true := decide_eq_true hcl;obtain ⟨k0, k1, k2⟩ := HG.out.1.cell (show c < 257 by omega)
        have hc7 : c < 257 := by omega
        have hTl : gT < WB.heap.size := by have := HTL.out; omega
        have hne : gT ≠ kb := by omega
        have htb := HT.out.later HBL.out;have tc0 : wr.cell? ⟨gT, j * 256 + c, none⟩ = some (.int .i64 (tbF m al j c)) := (World.cell?_of_block (a := ⟨gT, j * 256 + c, none⟩) ((HK1.out.blk gT (by have := HTL.out; have := HBW.out.size; omega) (by simp; omega)).trans (HBB.out.block gT hTl))).trans (htb.cell hlt hcl).1
        have lT : gT < wr.heap.size := by omega
        have kf2 : ∀ x, KeepF [kb] [] W1 (wr.setCell ⟨kb, c, none⟩ x) := fun x => HK1.out.tr ⟨rfl, rfl, rfl, by simp [World.setCell], fun q _ hn => Below.heap_setCell _ _ _ _ (fun e => hn (by simp [show q = kb from e])), fun k hk => by cases hk⟩
        have kv2 : ∀ (x : Int), x = kS (tbF m al) cs j c → KvB (wr.setCell ⟨kb, c, none⟩ (.int .i64 x)) kb (updK G c x) ∧ updK G c x 256 = (cF cs j : Int) ∧ ∀ i, i < c + 1 → updK G c x i = kS (tbF m al) cs j i := fun x hx => ⟨HG.out.1.set hc7 x, by unfold updK; rw [if_neg (by omega)]; exact HG.out.2.1, fun i hi => by
         unfold updK;by_cases e : i = c
         ·rw [if_pos e, e, hx]
         ·rw [if_neg e]; exact HG.out.2.2 i (by omega)⟩
        have HKF := Lib.hid kf2;have HKV2 := Lib.hid kv2;have hc6 : ¬ c = 256 := by omega
        clear htb kf2 kv2;rcases HF.out j c with hz1 | ⟨x, hz1, hxk⟩
        ·rw [hz1] at tc0;have HN1 := Lib.hid (HKV2.out (-1) (by unfold kS; rw [if_neg hc6, hz1]; rfl))
         have HN2 := Lib.hid (HKF.out (.int .i64 (-1)));clear hz1;go_wp2_with fail;go_roundw
         case rel => exact ⟨c + 1, _, by omega, by go_num, HN1, HN2⟩
         case measure => simp [intOf]; omega
        ·rw [hz1] at tc0;obtain ⟨cc0, -⟩ := HCS.out.cellC x (by rw [List.length_map, HCSL.out]; exact hxk)
         rw [clF_some (by rw [HCSL.out]; exact hxk)] at cc0
         have hg3B : g3 < WB.heap.size := hg3;have hne3 : g3 ≠ kb := by omega
         have cc1 : wr.cell? ⟨g3, x, none⟩ = some (.int .i64 ((cF cs x : Nat) : Int)) := (World.cell?_of_block (a := ⟨g3, x, none⟩) ((HK1.out.blk g3 (by have := HBB.out.size; omega) (by simp; omega)).trans (HBB.out.block g3 hg3))).trans cc0
         have l3 : g3 < wr.heap.size := by have := HBB.out.size; omega
         have hxd : decide (x < k) = true := decide_eq_true hxk;have hks : (cF cs x : Int) = kS (tbF m al) cs j c := by unfold kS; rw [if_neg hc6, hz1]; simp
         have HN1 : Hid (KvB ((wr.setCell ⟨kb, c, none⟩ (.int .i64 (-1))).setCell ⟨kb, c, none⟩ (.int .i64 (cF cs x : Int))) kb (updK (updK G c (-1)) c (cF cs x)) ∧ updK (updK G c (-1)) c (cF cs x) 256 = (cF cs j : Int) ∧ ∀ i, i < c + 1 → updK (updK G c (-1)) c (cF cs x) i = kS (tbF m al) cs j i) := ⟨(HG.out.1.set hc7 (-1)).set hc7 _, by unfold updK; rw [if_neg (Ne.symm hc6), if_neg (Ne.symm hc6)]; exact HG.out.2.1, fun i hi => by
          unfold updK;by_cases e : i = c
          ·rw [if_pos e, e, hks]
          ·rw [if_neg e, if_neg e]; exact HG.out.2.2 i (by omega)⟩
         have HN2 : Hid (KeepF [kb] [] W1 ((wr.setCell ⟨kb, c, none⟩ (.int .i64 (-1))).setCell ⟨kb, c, none⟩ (.int .i64 (cF cs x : Int)))) := (HKF.out (.int .i64 (-1))).tr ⟨rfl, rfl, rfl, by simp [World.setCell], fun q _ hn => Below.heap_setCell _ _ _ _ (fun e => hn (by simp [show q = kb from e])), fun k hk => by cases hk⟩
         clear hz1 cc0 hks;go_wp2_with fail;go_roundw
         case rel => exact ⟨c + 1, _, by omega, by go_num, HN1, HN2⟩
         case measure => simp [intOf]; omega
       ·obtain rfl : c = 256 := by omega
        have hdc : decide ((256 : Int) < 256) = false := by decide
        have hdcn : decide (256 < 256) = false := by decide
        have hblk := HG.out.1.cells;rw [cK_congr (g := kS (tbF m al) cs j) fun i hi => by
         by_cases e : i = 256
         ·rw [e, HG.out.2.1]; unfold kS; rw [if_pos rfl]
         ·exact HG.out.2.2 i (by omega)] at hblk
        have HBLK := Lib.hid hblk;have hcl6 : ∀ t, cF cs t < 1000000 := fun t => by have := HH.out.lt t; omega
        have HKEY := Lib.hid (keyOf_cK (F := tbF m al) (s := j) hcl6);have HWF := Lib.hid (sgL_wf (F := tbF m al) (s := j) hcl6);obtain ⟨CK, hCK⟩ : ∃ x, cK (kS (tbF m al) cs j) = x := ⟨_, rfl⟩;have hck7 : CK.size = 257 := by rw [← hCK, cK_size]
        rw [hCK] at HBLK HKEY;obtain ⟨SG, hSG⟩ : ∃ x, sgL (tbF m al) cs j = x := ⟨_, rfl⟩;rw [hSG] at HKEY HWF;have HSG := Lib.hid hSG;have hb2 : Below W1.heap.size W1 wr ∨ True := .inr trivial;have hmz : MN Tryz.prog 140 WB.heap.size seen.length F wr := HR1.out.mn.kept (HK1.out.blk _ (by omega) (by simp; omega))
        have hoz : OR 3 1 clC (WB.heap.size + 1) (.slice (some ⟨WB.heap.size + 1, 0, none⟩) k k) (ds.map some) wr := OR.keep HR1.out.own fun g hg => HK1.out.blk g (World.ownsRow.lt HR1.out.own g hg).2 (by have e : WB.heap.size + 1 = g := Option.some.inj hg; simp; omega)
        have hbz : Below WB.heap.size WB wr := HBB.out.trans (HK1.out.below (fun q hq => by rw [List.mem_singleton] at hq; omega) HBB.out.size)
        obtain ⟨dd0, dd1⟩ := hoz.cellC j (by rw [List.length_map, HDL.out]; exact hlt)
        have hlz : WB.heap.size + 1 < wr.heap.size := by omega
        have HMZ := Lib.hid hmz;have HOZ := Lib.hid hoz;have HBZ := Lib.hid hbz;have hsl2 : seen.length ≤ k := by have := HR.out.ri.len_le; omega
        have hinfo : (Tryz.prog.info? 140).map (·.size) = some CK.size := by rw [hck7]; exact info257
        have HINF := Lib.hid hinfo;clear hblk hcl6 hCK hck7 hSG hb2 hmz hoz hbz hinfo;by_cases hin : sgL (tbF m al) cs j ∈ seen
        ·have hlook : (Instr.lookup 139 (.map (some WB.heap.size)) (.agg CK) true).run Tryz.prog wr = .ok (.tuple #[.int .i64 ((seen.idxOf (sgL (tbF m al) cs j) : Nat) : Int), .bool true]) wr := by
          have h1 := HMZ.out.mv.look_ok keyed257 Tryz.underlying139 hz HKEY.out trivial;have h2 := HR.out.sy SG HWF.out;rw [h2, idxR, ← HSG.out, if_pos hin] at h1;exact h1
         obtain ⟨ix, hix⟩ : ∃ i, seen.idxOf (sgL (tbF m al) cs j) = i := ⟨_, rfl⟩;rw [hix] at hlook;have hset := HOZ.out.setC (by rw [List.length_map, HDL.out]) j (some ix)
         rw [← List.map_set] at hset;have hR2 : RdQ (sgL (tbF m al) cs) WB (ds.set j ix) seen F k (j + 1) (wr.setCell ⟨WB.heap.size + 1, j, none⟩ (.int .i64 (ix : Int))) :=
          ⟨HMZ.out.kept (Below.heap_setCell _ _ _ _ (by show WB.heap.size ≠ WB.heap.size + 1; omega)), HR.out.sy, hset, by rw [← hix]; exact HR.out.ri.old hlt hin, HBZ.out.setCell (p := ⟨WB.heap.size + 1, j, none⟩) (by show WB.heap.size ≤ WB.heap.size + 1; omega) _⟩
         have HR2 := Lib.hid hR2;have HIN := Lib.hid hin;clear hix hset hR2 hin;go_wp2_with (refine wpList_load_row rfl 140 _ rfl kb rfl _ CK _ _ HBLK.out Tryz.underlying140 rfl HINF.out ?_);go_roundw
         case rel => exact ⟨j + 1, _, _, _, by omega, by go_num, HR2⟩
         case measure => simp [intOf]; omega
        ·have hlook : (Instr.lookup 139 (.map (some WB.heap.size)) (.agg CK) true).run Tryz.prog wr = .ok (.tuple #[.int .i64 0, .bool false]) wr := by
          have h1 := HMZ.out.mv.look_ok keyed257 Tryz.underlying139 hz HKEY.out trivial;have h2 := HR.out.sy SG HWF.out;rw [h2, idxR, ← HSG.out, if_neg hin] at h1;exact h1
         have hfn : F (litL SG) = none := by
          have h2 := HR.out.sy SG HWF.out;rw [h2, idxR, ← HSG.out, if_neg hin]
         obtain ⟨sl, hsl3⟩ : ∃ n, seen.length = n := ⟨_, rfl⟩;have hmz := HMZ.out;rw [hsl3] at hmz hsl2;have HIN := Lib.hid (And.intro hin hsl3);have HMZ3 := Lib.hid hmz;have HFN := Lib.hid hfn;clear hin hsl3 hmz hfn;go_wp2_with (first
          | (refine wpList_load_row rfl 140 _ rfl kb rfl _ CK _ _ HBLK.out Tryz.underlying140 rfl HINF.out ?_)
          | (at_len; refine wpList_len_MN rfl _ 139 rfl 140 3 Tryz.underlying139 WB.heap.size sl F rfl HMZ3.out ?_)
          | (at_mapUpdate; refine wpList_put_MN wr rfl _ _ _ 139 rfl 140 3 keyed257 Tryz.underlying139 WB.heap.size sl F rfl HMZ3.out (by unfold maxLen; omega) _ _ _ rfl rfl HKEY.out trivial HFN.out ?_))
         intro wm hmm4 hgm;have hzm := hgm.size;have hom : OR 3 1 clC (WB.heap.size + 1) (.slice (some ⟨WB.heap.size + 1, 0, none⟩) k k) (ds.map some) wm := OR.keep HOZ.out fun g hg => hgm.block g (World.ownsRow.lt HOZ.out g hg).2 (fun e => by
          have := (World.ownsRow.lt HOZ.out g hg).1;injection e with e; omega)
         obtain ⟨ee0, ee1⟩ := hom.cellC j (by rw [List.length_map, HDL.out]; exact hlt)
         have hlm : WB.heap.size + 1 < wm.heap.size := by omega
         have hset := hom.setC (by rw [List.length_map, HDL.out]) j (some sl)
         rw [← List.map_set] at hset;have hbm : Below WB.heap.size WB wm := HBZ.out.grown hgm (by omega) (fun q hq => by injection hq with hq; omega)
         have hsy := HR.out.sy.put SG HWF.out (by rw [← HSG.out]; exact HIN.out.1) (sl : Int) (by rw [HIN.out.2])
         have hri := HR.out.ri.new hlt HIN.out.1;rw [HIN.out.2, HSG.out] at hri;have hR2 : RdQ (sgL (tbF m al) cs) WB (ds.set j sl) (seen ++ [SG]) (updV F (litL SG) (some (.int .i64 (sl : Int)))) k (j + 1) (wm.setCell ⟨WB.heap.size + 1, j, none⟩ (.int .i64 (sl : Int))) :=
          ⟨by rw [List.length_append, HIN.out.2]; exact hmm4.kept (Below.heap_setCell _ _ _ _ (by show WB.heap.size ≠ WB.heap.size + 1; omega)), hsy, hset, hri, hbm.setCell (p := ⟨WB.heap.size + 1, j, none⟩) (by show WB.heap.size ≤ WB.heap.size + 1; omega) _⟩
         have HR2 := Lib.hid hR2;clear hmm4 hgm hom hset hbm hsy hri hR2 dd0 dd1;go_wp2_with fail;go_roundw
         case rel => exact ⟨j + 1, _, _, _, by omega, by go_num, HR2⟩
         case measure => simp [intOf]; omega
     ·have hjk : j = k := by omega
      have hd : decide ((j : Int) < (k : Int)) = false := decide_eq_false (by omega)
      have hdn : decide (j < k) = false := decide_eq_false (by omega)
      have HJK := Lib.hid hjk;clear hjk;obtain ⟨sl, hsl3⟩ : ∃ n, seen.length = n := ⟨_, rfl⟩;have hmn := HR.out.mn;rw [hsl3] at hmn;have HMN := Lib.hid hmn;have HSL := Lib.hid hsl3;have hri := HR.out.ri;rw [HJK.out] at hri;have HRI := Lib.hid hri;have hbwr := HBL.out.trans (HR.out.bl.mono hwB);have HBW := Lib.hid hbwr;have hri2 := HRI.out;rw [← HN.out.1] at hri2;have HRI2 := Lib.hid hri2;clear hmn hsl3 hri hri2 hbwr hdl;by_cases he : sl = kn
      ·have hde : ((sl : Int) == (kn : Int)) = true := by simp; omega
       have HEQ := Lib.hid he;clear he;go_wp2_with (at_len; refine wpList_len_MN rfl _ 139 rfl 140 3 Tryz.underlying139 WB.heap.size sl F rfl HMN.out ?_);refine post_named fun Wf hWf => ?_;subst hWf;refine bodyPost_ret (v := .slice (some ⟨WB.heap.size + 1, 0, none⟩) k k) (by simp [results, Tryz.results80, go_sem]; try rfl) rfl ?_
       have hdn := HH.out.done HV.out HSM.out HAL.out (by rw [HN.out.1]; exact h1) HRI2.out (by rw [HSL.out, HEQ.out])
       rw [HN.out.1] at hdn;exact ⟨_, ds, rfl, HR.out.own.mono (by omega), HBW.out, HRI.out.len, hdn, fun s => HRI.out.lt_ (by omega) s⟩
      ·have hde : ((sl : Int) == (kn : Int)) = false := by simp; omega
       obtain ⟨hn1, hn2, hn3⟩ := HH.out.next HV.out HAL.out (by rw [HN.out.1]; exact h1) (by rw [HN.out.1]; exact h2) HRI2.out (by rw [HSL.out]; exact he)
       rw [HSL.out] at hn1 hn2 hn3;rw [HN.out.1] at hn3;have HNX := Lib.hid hn1;clear hn1 he;go_wp2_with (at_len; refine wpList_len_MN rfl _ 139 rfl 140 3 Tryz.underlying139 WB.heap.size sl F rfl HMN.out ?_)
       go_roundg (k + 2 - sl)
       case measure => omega
       case rel => exact ⟨WB.heap.size + 1, sl, ds, rfl, rfl, by omega, by omega, HR.out.own.mono (by omega), HNX.out, HBW.out⟩
end Go.Proofs.YtjhmipidmpmlmaaGreatDoor
namespace Go.Proofs.YtjhmipidmpmlmaaGreatDoor
set_option linter.unusedVariables false
set_option linter.unusedSimpArgs false
set_option maxRecDepth 100000
open Go.RowKit
theorem maxE_app : ∀ {q : List Ed} {f e : Ed}, MaxE (q ++ [f]) → ¬ (f.hi + 1 = e.lo ∧ f.to = e.to) → MaxE (q ++ [f] ++ [e])
 | [], _, _, _, h => ⟨h, trivial⟩
 | [a], f, e, h, h2 => ⟨h.1, h2, trivial⟩
 | a :: b :: q, f, e, h, h2 => ⟨h.1, maxE_app (q := b :: q) h.2 h2⟩
theorem maxE_last : ∀ {q : List Ed} {f g : Ed}, MaxE (q ++ [f]) → g.lo = f.lo → g.to = f.to → MaxE (q ++ [g])
 | [], _, _, _, _, _ => trivial
 | [a], f, g, h, h1, h2 => ⟨by rw [h1, h2]; exact h.1, trivial⟩
 | a :: b :: q, f, g, h, h1, h2 => ⟨h.1, maxE_last (q := b :: q) h.2 h1 h2⟩
theorem sort_last : ∀ {q : List Ed} {f g : Ed} {b : Nat}, SortE b (q ++ [f]) → g.lo = f.lo → g.lo ≤ g.hi → SortE b (q ++ [g])
 | [], _, _, _, h, h1, h2 => ⟨by rw [h1]; exact h.1, h2, trivial⟩
 | a :: q, f, g, b, h, h1, h2 => ⟨h.1, h.2.1, sort_last (q := q) h.2.2 h1 h2⟩
theorem sort_pre : ∀ {q : List Ed} {f : Ed} {b : Nat}, SortE b (q ++ [f]) → b ≤ f.lo ∧ f.lo ≤ f.hi ∧ (∀ g ∈ q, g.hi < f.lo)
 | [], _, _, h => ⟨h.1, h.2.1, fun g hg => by cases hg⟩
 | a :: q, f, b, h => by
  obtain ⟨h1, h2, h3⟩ := sort_pre (q := q) h.2.2;have h4 := h.1;have h5 := h.2.1;refine ⟨by omega, h2, fun g hg => ?_⟩
  rcases List.mem_cons.1 hg with rfl | hg
  ·omega
  ·exact h3 g hg
structure RowB (T : Nat → Option Nat) (b : Nat) (p : List Ed) : Prop where
 srt : SortE 0 p
 mx : MaxE p
 hi : ∀ e ∈ p, e.hi < b
 ok : ∀ x, trn p x = if x < b then T x else none
section
variable {T : Nat → Option Nat} {b k : Nat} {p q : List Ed}
theorem RowB.start (T : Nat → Option Nat) : RowB T 0 [] := ⟨trivial, trivial, fun e he => (by cases he), fun x => by rw [if_neg (Nat.not_lt_zero _)]; rfl⟩
theorem RowB.none_ (h : RowB T b p) (ht : T b = none) : RowB T (b + 1) p := ⟨h.srt, h.mx, fun e he => by have := h.hi e he; omega, fun x => by
 rw [h.ok x];by_cases hx : x < b
 ·rw [if_pos hx, if_pos (by omega)]
 ·rw [if_neg hx];by_cases h2 : x < b + 1
  ·rw [if_pos h2, show x = b by omega, ht]
  ·rw [if_neg h2]⟩
theorem RowB.app (h : RowB T b p) (ht : T b = some k) (hl : ∀ q f, p = q ++ [f] → ¬ (f.hi + 1 = b ∧ f.to = k)) : RowB T (b + 1) (p ++ [⟨b, b, k⟩]) := by
 refine ⟨sort_snoc h.srt (fun f hf => h.hi f hf) (Nat.zero_le _) (Nat.le_refl _), ?_, fun e he => ?_, fun x => ?_⟩
 ·rcases List.eq_nil_or_concat p with rfl | ⟨q, f, rfl⟩
  ·trivial
  ·rw [List.concat_eq_append] at h hl ⊢;exact maxE_app h.mx (hl q f rfl)
 ·rcases List.mem_append.1 he with he | he
  ·have := h.hi e he; omega
  ·rw [List.mem_singleton] at he; subst he; exact Nat.lt_succ_self _
 ·rw [trn_snoc (fun f hf => h.hi f hf), h.ok x];show (if b ≤ x ∧ x ≤ b then some k else _) = _;by_cases hx : x = b
  ·subst hx; rw [if_pos ⟨Nat.le_refl _, Nat.le_refl _⟩, if_pos (by omega), ht]
  ·rw [if_neg (by omega)]
   by_cases h2 : x < b
   ·rw [if_pos h2, if_pos (by omega)]
   ·rw [if_neg h2, if_neg (by omega)]
theorem RowB.ext {f : Ed} (h : RowB T b (q ++ [f])) (hb : f.hi + 1 = b) (ht : T b = some f.to) : RowB T (b + 1) (q ++ [⟨f.lo, b, f.to⟩]) := by
 obtain ⟨h1, h2, h3⟩ := sort_pre h.srt;refine ⟨sort_last h.srt rfl (by show f.lo ≤ b; omega), maxE_last h.mx rfl rfl, fun e he => ?_, fun x => ?_⟩
 ·rcases List.mem_append.1 he with he | he
  ·have := h.hi e (List.mem_append_left _ he); omega
  ·rw [List.mem_singleton] at he; subst he; exact Nat.lt_succ_self _
 ·have h4 := h.ok x;rw [trn_snoc (e := f) (fun g hg => h3 g hg)] at h4;rw [trn_snoc (e := ⟨f.lo, b, f.to⟩) (fun g hg => h3 g hg)];show (if f.lo ≤ x ∧ x ≤ b then some f.to else _) = _;by_cases hx : x = b
  ·subst hx; rw [if_pos (by omega), if_pos (by omega), ht]
  ·by_cases h5 : f.lo ≤ x ∧ x ≤ f.hi
   ·rw [if_pos h5] at h4;rw [if_pos (by omega), h4, if_pos (by omega), if_pos (by omega)]
   ·rw [if_neg h5] at h4;rw [if_neg (by omega), h4]
    by_cases h6 : x < b
    ·rw [if_pos h6, if_pos (by omega)]
    ·rw [if_neg h6, if_neg (by omega)]
theorem RowB.len (h : RowB T b p) : p.length ≤ b := by
 have key : ∀ (p : List Ed) (a : Nat), SortE a p → (∀ e ∈ p, e.hi < b) → p = [] ∨ a + p.length ≤ b := by
  intro p
  induction p with
  | nil => intro a _ _; exact .inl rfl
  | cons e r ih =>
   intro a hs hh;have h1 := hs.1;have h2 := hs.2.1;have h3 := hh e List.mem_cons_self;rcases ih (e.hi + 1) hs.2.2 (fun f hf => hh f (List.mem_cons_of_mem _ hf)) with h4 | h4
   ·right; rw [h4]; simp; omega
   ·right; simp; omega
 rcases key p 0 h.srt h.hi with h1 | h1
 ·rw [h1]; exact Nat.zero_le _
 ·omega
theorem RowB.done {row : List Ed} {c : Nat → Option Nat} (h : RowB (fun x => (trn row x).bind c) 256 p) (hs : SortE 0 row) (hb : ∀ e ∈ row, e.lo < 256 ∧ e.hi < 256) : p = joinF c row := by
 obtain ⟨j1, j2, j3⟩ := joinF_ok (cls := c) row 0 hs;refine runs_eq p (joinF c row) 0 h.srt j1 h.mx j2 fun x => ?_;rw [h.ok x, j3 x];by_cases hx : x < 256
 ·rw [if_pos hx]
 ·rw [if_neg hx]
  cases ht : trn row x with
  | none => rfl
  | some t =>
   obtain ⟨e, he, h1, h2, -⟩ := trn_mem ht;have := hb e he;omega
end
theorem meetE_to : ∀ {l l' : List Ed} {m : Nat}, l.map (·.to) = l'.map (·.to) → meetE m l → meetE m l' ∧ topE m l = topE m l'
 | [], [], _, _, _ => ⟨trivial, rfl⟩
 | [], _ :: _, _, h, _ => by cases h
 | _ :: _, [], _, h, _ => by cases h
 | e :: l, f :: l', m, h, hm => by
  rw [List.map_cons, List.map_cons] at h;injection h with h1 h2;obtain ⟨q1, q2⟩ := meetE_to (m := max m e.to) h2 hm.2;rw [h1] at q1 q2;exact ⟨⟨by have := hm.1; rw [← h1]; exact this, q1⟩, by
   show topE (max m e.to) l = topE (max m f.to) l';rw [← q2, h1]⟩
section
variable {m : Mc} {c : Nat → Option Nat} {st : List Nat} {i t : Nat} {rs : List (List Ed)} {p q : List Ed}
theorem LeI.ext {f : Ed} (h : LeI m c st i rs (q ++ [f]) t) (x : Nat) : LeI m c st i rs (q ++ [⟨f.lo, x, f.to⟩]) t := by
 obtain ⟨h1, h2⟩ := meetE_to (l := renE (numC c st) (q ++ [f])) (l' := renE (numC c st) (q ++ [⟨f.lo, x, f.to⟩])) (m := t) (by simp [renE]) h.pm
 refine { h with ptg := fun e he => ?_, pm := h1, top := by rw [← h2]; exact h.top }
 rcases List.mem_append.1 he with he | he
 ·exact h.ptg e (List.mem_append_left _ he)
 ·rw [List.mem_singleton] at he; subst he; exact h.ptg f (List.mem_append_right _ List.mem_cons_self)
theorem numC_inj {a b : Nat} (ha : some a ∈ st.map c) (hb : some b ∈ st.map c) (h : numC c st a = numC c st b) : a = b := by
 unfold numC at h;have h1 := List.idxOf_lt_length_of_mem ha;have h2 := List.idxOf_lt_length_of_mem hb;have e1 := List.getElem_idxOf h1;have e2 := List.getElem_idxOf h2;have e3 : (st.map c)[List.idxOf (some a) (st.map c)] = (st.map c)[List.idxOf (some b) (st.map c)] := by congr 1
 rw [e1, e2] at e3;injection e3
end
def nuL (c : Nat → Option Nat) (st : List Nat) (n : Nat) : List (Option Nat) := (List.range n).map fun k => if some k ∈ st.map c then some (numC c st k) else none
theorem nuL_len (c : Nat → Option Nat) (st : List Nat) (n : Nat) : (nuL c st n).length = n := by simp [nuL]
theorem nuL_at {c : Nat → Option Nat} {st : List Nat} {n k : Nat} (h : k < n) : clF (nuL c st n) k = if some k ∈ st.map c then some (numC c st k) else none := by
 unfold clF nuL;rw [List.getElem?_map, List.getElem?_range h]; rfl
theorem nuL_new {c : Nat → Option Nat} {st : List Nat} {n k s : Nat} (hk : k < n) (hc : c s = some k) (hn : ¬ some k ∈ st.map c) : nuL c (st ++ [s]) n = (nuL c st n).set k (some st.length) := by
 apply List.ext_getElem?;intro j;rw [List.getElem?_set];by_cases hj : j < n
 ·unfold nuL;rw [List.getElem?_map, List.getElem?_range hj];simp only [Option.map_some];by_cases e : k = j
  ·subst e;rw [if_pos rfl, if_pos (show some k ∈ (st ++ [s]).map c by simp [hc]), numC_new hn hc, if_pos (by simpa using hk)]
  ·rw [if_neg e, List.getElem?_map, List.getElem?_range hj];simp only [Option.map_some];by_cases h1 : some j ∈ st.map c
   ·rw [if_pos h1, if_pos (by rw [List.map_append]; exact List.mem_append_left _ h1), numC_grow s h1]
   ·rw [if_neg h1, if_neg (by
     rw [List.map_append, List.mem_append];rintro (h2 | h2)
     ·exact h1 h2
     ·simp [hc] at h2; exact e h2.symm)]
 ·rw [List.getElem?_eq_none (by rw [nuL_len]; omega), if_neg (by omega), List.getElem?_eq_none (by rw [nuL_len]; omega)]
structure SmS (m : Mc) (c : Nat → Option Nat) (B N gn n i : Nat) (lv : Value) (rs : List (List Ed)) (acs : List Bool) (vE vA : Value) (gv : List Value) (p q : List Ed) (t : Nat) (st : List Nat) (vst : Value) (w : World) : Prop where
 ma : MkM B N (gn :: (blk vst ++ blk lv)) vE vA gv rs acs w
 nu : OR 3 1 clC B (.slice (some ⟨gn, 0, none⟩) n n) (nuL c st n) w
 own : w.ownsRow B 3 1 vst st.length (ints st)
 ap : vst.ownBlock ≠ some gn
 row : OR 58 3 edC B lv (renE (numC c st) q) w
 le : LeI m c st i rs p t
 ac : acs = (st.take i).map fun s => (m.ac[s]?).getD false
section
variable {m : Mc} {c : Nat → Option Nat} {B N gn n i : Nat} {lv lv' : Value} {rs : List (List Ed)} {acs : List Bool} {vE vA : Value} {gv : List Value} {p p' q q' : List Ed} {t : Nat} {st : List Nat} {vst vst' : Value} {w w' w1 w2 w3 : World}
theorem SmS.gnlt (h : SmS m c B N gn n i lv rs acs vE vA gv p q t st vst w) : B ≤ gn ∧ gn < w.heap.size := World.ownsRow.lt h.nu gn rfl
theorem SmS.later (h : SmS m c B N gn n i lv rs acs vE vA gv p q t st vst w) (hb : Below w.heap.size w w') : SmS m c B N gn n i lv rs acs vE vA gv p q t st vst w' :=
 ⟨h.ma.later hb, h.nu.later hb, own_later h.own hb, h.ap, h.row.later hb, h.le, h.ac⟩
theorem SmS.to (h : SmS m c B N gn n i lv rs acs vE vA gv p q t st vst w) (hp : LeI m c st i rs p' t) : SmS m c B N gn n i lv rs acs vE vA gv p' q t st vst w := { h with le := hp }
theorem SmS.nil_ (h : SmS m c B N gn n i lv rs acs vE vA gv [] q t st vst w) : SmS m c B N gn n i (.slice none 0 0) rs acs vE vA gv [] [] t st vst w :=
 ⟨h.ma.sub (fun k hk => by
  rcases List.mem_cons.1 hk with rfl | hk
  ·simp
  ·rcases List.mem_append.1 hk with hk | hk
   ·simp [hk]
   ·cases hk), h.nu, h.own, h.ap, OR.nil_ _ _ _, h.le, h.ac⟩
theorem SmS.rowNe (h : SmS m c B N gn n i lv rs acs vE vA gv p q t st vst w) : lv.ownBlock ≠ some gn ∧ (∀ g, lv.ownBlock = some g → vst.ownBlock ≠ some g) :=
 ⟨fun hv => own_apart (show w.ownsRow _ _ _ _ _ _ from h.row) (show w.ownsRow _ _ _ _ _ _ from h.nu) (by decide) gn hv rfl, fun g hg => own_apart (show w.ownsRow _ _ _ _ _ _ from h.row) h.own (by decide) g hg⟩
theorem SmS.rowTo (h : SmS m c B N gn n i lv rs acs vE vA gv p q t st vst w) (hk : KeepF (blk lv) (blk lv') w w') (hr : OR 58 3 edC B lv' (renE (numC c st) q') w') : SmS m c B N gn n i lv' rs acs vE vA gv p q' t st vst w' := by
 obtain ⟨h1, h2⟩ := h.rowNe;refine ⟨h.ma.keep ⟨hk.os, hk.tape, hk.output, hk.size, fun k hk1 hn => hk.blk k hk1 (fun e => hn (by simp [e])), fun k hk1 => ?_⟩, OR.keep h.nu fun g hg => hk.blk g (World.ownsRow.lt h.nu g hg).2 (fun e => h1 (by have e2 := mem_blk.1 e; rw [e2]; exact hg.symm)), own_same h.own fun g hg => hk.blk g (h.own.lt g hg).2 (fun e => h2 g (mem_blk.1 e) hg), h.ap, hr, h.le, h.ac⟩
 rcases List.mem_cons.1 hk1 with rfl | hk1
 ·exact .inl (by simp)
 ·rcases List.mem_append.1 hk1 with hk1 | hk1
  ·exact .inl (by simp [hk1])
  ·exact (hk.new k hk1).imp (fun e => by simp [e]) id
theorem SmS.rowApp (h : SmS m c B N gn n i lv rs acs vE vA gv p q t st vst w) {e : Ed} (hb : Below w.heap.size w w1) (hr : OR 58 3 edC B lv' (renE (numC c st) (q ++ [e])) w2) (hg : w1.grownBy w2 lv.ownBlock) (hf : Fresh lv' lv w1.heap.size) : SmS m c B N gn n i lv' rs acs vE vA gv p (q ++ [e]) t st vst w2 := by
 have hz := hb.size;have hz2 := hg.size;refine h.rowTo ⟨hg.os.trans hb.os, hg.tape.trans hb.tape, hg.output.trans hb.output, by omega, fun k hk hn => (hg.block k (by omega) (fun e => hn (mem_blk.2 e.symm))).trans (hb.block k hk), fun k hk => ?_⟩ hr
 exact (fresh_keep hf (mem_blk.1 hk)).imp mem_blk.2 (fun h => by omega)
theorem SmS.rowSet {gl cc nq nl : Nat} {f : Ed} (x : Nat) (h : SmS m c B N gn n i (.slice (some ⟨gl, 0, none⟩) nl cc) rs acs vE vA gv p (q ++ [f]) t st vst w) (hq : q.length = nq) (hl : nq + 1 = nl) : SmS m c B N gn n i (.slice (some ⟨gl, 0, none⟩) nl cc) rs acs vE vA gv p (q ++ [⟨f.lo, x, f.to⟩]) t st vst (w.setCell ⟨gl, nq * 3 + 1, none⟩ (.int .u8 (x : Int))) := by
 subst hq;refine h.rowTo ⟨rfl, rfl, rfl, by simp [World.setCell], fun k _ hn => Below.heap_setCell _ _ _ _ (fun e => hn (mem_blk.2 (by rw [show k = gl from e]; rfl))), fun k hk => .inl hk⟩ ?_
 have hl : (renE (numC c st) (q ++ [f])).length = nl := by rw [renE_len, List.length_append]; exact hl
 have h2 : OR 58 3 edC B (.slice (some ⟨gl, 0, none⟩) (renE (numC c st) (q ++ [f])).length cc) (renE (numC c st) (q ++ [f])) w := by rw [hl]; exact h.row
 have hq : q.length < (renE (numC c st) (q ++ [f])).length := by rw [renE_len]; simp
 have hat : (renE (numC c st) (q ++ [f]))[q.length] = ⟨f.lo, f.hi, numC c st f.to⟩ := by
  simp [renE]
 have h3 := h2.setAt edC_E q.length 1 hq (by decide) ⟨f.lo, x, numC c st f.to⟩ (.int .u8 (x : Int)) (by rw [hat]; rfl)
 rw [hl] at h3;have h4 : (renE (numC c st) (q ++ [f])).set q.length ⟨f.lo, x, numC c st f.to⟩ = renE (numC c st) (q ++ [⟨f.lo, x, f.to⟩]) := by
  rw [renE_snoc, renE_snoc, List.set_append_right _ _ (by rw [renE_len]; exact Nat.le_refl _), renE_len, Nat.sub_self]
  rfl
 rw [h4] at h3;exact h3
theorem SmS.lastE {A : Option Addr} {nl cc nq : Nat} {f : Ed} (h : SmS m c B N gn n i (.slice A nl cc) rs acs vE vA gv p (q ++ [f]) t st vst w) (hq : q.length = nq) :
  ∃ gl, A = some ⟨gl, 0, none⟩ ∧ (w.cell? ⟨gl, nq * 3 + 1, none⟩ = some (.int .u8 (f.hi : Int)) ∧ w.cell? ⟨gl, nq * 3 + 2, none⟩ = some (.int .i64 ((numC c st f.to : Nat) : Int))) ∧ w.frozen? ⟨gl, nq * 3 + 1, none⟩ = false ∧ gl < w.heap.size ∧ B ≤ gl := by
 subst hq;have hq : q.length < (renE (numC c st) (q ++ [f])).length := by rw [renE_len]; simp
 have hat : (renE (numC c st) (q ++ [f]))[q.length] = ⟨f.lo, f.hi, numC c st f.to⟩ := by simp [renE]
 obtain ⟨A', c', e, -, hor⟩ := h.row.cells edC_E;obtain ⟨g', hA, hB, hg, hcc⟩ := hor.resolve_left (by intro e2; rw [e2] at hq; cases hq)
 injection e with e1 _ _;obtain ⟨h1, f1⟩ := hcc q.length hq 1 (by decide)
 obtain ⟨h2, f2⟩ := hcc q.length hq 2 (by decide)
 rw [hat] at h1 h2;exact ⟨g', by rw [e1, hA], ⟨h1, h2⟩, f1, hg, hB⟩
theorem SmS.meet {k s : Nat} (h : SmS m c B N gn n i lv rs acs vE vA gv p q t st vst w) (hk : k < n) (hc : c s = some k) (hnew : ¬ some k ∈ st.map c) (hq : ∀ e ∈ q, some e.to ∈ st.map c)
  (hb2 : Below w.heap.size (w.setCell ⟨gn, k, none⟩ (.int .i64 (st.length : Int))) w2) (hg3 : w2.grownBy w3 vst.ownBlock) (ho3 : w3.ownsRow B 3 1 vst' (st.length + 1) (ints st ++ [.int .i64 (s : Int)])) (hf3 : Fresh vst' vst w2.heap.size)
  {p' : List Ed} (hle : LeI m c (st ++ [s]) i rs p' t) (hil : i ≤ st.length) : SmS m c B N gn n i lv rs acs vE vA gv p' q t (st ++ [s]) vst' w3 := by
 obtain ⟨n1, n2⟩ := h.rowNe;obtain ⟨g1, g2⟩ := h.gnlt;have hs1 : (w.setCell ⟨gn, k, none⟩ (.int .i64 (st.length : Int))).heap.size = w.heap.size := by simp [World.setCell]
 have hset : ∀ j, j ≠ gn → (w.setCell ⟨gn, k, none⟩ (.int .i64 (st.length : Int))).heap[j]? = w.heap[j]? := fun j hj => Below.heap_setCell _ _ _ _ hj;have z2 := hb2.size;have z3 := hg3.size;rw [hs1] at z2;have hkf : KeepF (gn :: (blk vst ++ blk lv)) (gn :: (blk vst' ++ blk lv)) w w3 := by
  refine ⟨hg3.os.trans hb2.os, hg3.tape.trans hb2.tape, hg3.output.trans hb2.output, by omega, fun j hj hn => ?_, fun j hj => ?_⟩
  ·exact (hg3.block j (by omega) (fun e => hn (by simp [mem_blk, e.symm]))).trans ((hb2.block j hj).trans (hset j (fun e => hn (by simp [e]))))
  ·rcases List.mem_cons.1 hj with rfl | hj
   ·exact .inl (by simp)
   ·rcases List.mem_append.1 hj with hj | hj
    ·exact (fresh_keep hf3 (mem_blk.1 hj)).imp (fun h => by simp [mem_blk, h]) (fun h => by omega)
    ·exact .inl (by simp [hj])
 refine ⟨h.ma.keep hkf, ?_, by rw [ints_app, List.length_append]; exact ho3, fun hv => ?_, ?_, hle, by rw [List.take_append_of_le_length hil]; exact h.ac⟩
 ·have h5 := h.nu.setC (by rw [nuL_len]) k (some st.length)
  rw [← nuL_new hk hc hnew] at h5;exact OR.keep (OR.keep h5 fun g hg => hb2.block g (by have e : gn = g := Option.some.inj hg; omega)) fun g hg => by
   have e : gn = g := Option.some.inj hg;exact hg3.block g (by omega) (fun e2 => h.ap (by rw [← e2, e]))
 ·rcases fresh_keep hf3 hv with h1 | h1
  ·exact h.ap h1
  ·omega
 ·rw [ren_grow s hq];refine OR.keep h.row fun g hg => (hg3.block g (by have := (World.ownsRow.lt h.row g hg).2; omega) (fun e => n2 g hg e.symm)).trans ((hb2.block g (World.ownsRow.lt h.row g hg).2).trans (hset g (fun e => n1 (by rw [hg, e]))))
theorem SmS.rowDone {vE' vA' : Value} {s : Nat} {a : Bool} (h : SmS m c B N gn n i lv rs acs vE vA gv p p t st vst w) (hk : KeepF (fpM N vE vA) [] w w')
  (hN : w'.heap[N]? = some (.cells #[vE', vA'] 34 (0, 0))) (hE : w'.ownsRow B 53 1 vE' (rs.length + 1) (gv ++ [lv])) (hA : OR 4 1 bC B vA' (acs ++ [a]) w') (fE : Fresh vE' vE w.heap.size) (fA : Fresh vA' vA w.heap.size)
  (hit : i ≤ t) (hs : st[i]? = some s) (hp : p = joinF c (rowM m s)) (ha : a = (m.ac[s]?).getD false) :
  SmS m c B N gn n (i + 1) (.slice none 0 0) (rs ++ [renE (numC c st) p]) (acs ++ [a]) vE' vA' (gv ++ [lv]) [] [] (topE t (renE (numC c st) p)) st vst w' := by
 obtain ⟨n1, n2⟩ := h.rowNe;obtain ⟨g1, g2⟩ := h.gnlt;have hout : outOf (fpM N vE vA) lv := fun g hg hm => h.ma.out g hm (by simp [mem_blk, hg])
 have hx : outOf (gn :: (blk vst ++ blk (.slice none 0 0))) lv := fun g hg hm => by
  rcases List.mem_cons.1 hm with rfl | hm
  ·exact n1 hg
  ·rcases List.mem_append.1 hm with hm | hm
   ·exact n2 g hg (mem_blk.1 hm)
   ·cases hm
 have hl : ∀ g, lv.ownBlock = some g → B ≤ g ∧ g < w.heap.size := fun g hg => World.ownsRow.lt h.row g hg;have hmk := h.ma.sub (fx' := gn :: (blk vst ++ blk (.slice none 0 0))) (fun k hk => by
  rcases List.mem_cons.1 hk with rfl | hk
  ·simp
  ·rcases List.mem_append.1 hk with hk | hk
   ·simp [hk]
   ·cases hk)
 have hgm : gn ∉ fpM N vE vA := fun hm => hmk.out gn hm (by simp)
 have hvm : ∀ k ∈ blk vst, k ∉ fpM N vE vA := fun k hk hm => hmk.out k hm (by simp [hk])
 obtain ⟨q1, q2⟩ := hmk.put (rs' := rs ++ [renE (numC c st) p]) (fun k hk => by
  rcases List.mem_cons.1 hk with rfl | hk
  ·exact g2
  ·rcases List.mem_append.1 hk with hk | hk
   ·exact (h.own.lt k (mem_blk.1 hk)).2
   ·cases hk) hk hN (by rw [List.length_append]; exact hE) hA fE fA (hmk.rowsNew (EdIn.of_OR h.row) hout hx hl)
 refine ⟨q1, OR.keep h.nu fun g hg => by have e : gn = g := Option.some.inj hg; exact hk.blk g (by omega) (by rw [← e]; exact hgm), own_same h.own fun g hg => hk.blk g (h.own.lt g hg).2 (hvm g (mem_blk.2 hg)), h.ap, OR.nil_ _ _ _, h.le.row hit hs hp, ?_⟩
 rw [h.ac, ha, List.take_add_one, hs, List.map_append]; rfl
end
structure Smx (m : Mc) (al : List Bool) (ds : List Nat) (m' : Mc) (c : Nat → Option Nat) : Prop where
 ac : m'.ac = m.ac
 len : m'.ed.length = m.ed.length
 c0 : c 0 = some (cF ds 0)
 stp : ∀ s, s < m.ed.length → c s ≠ none → ∀ b, b < 256 → match (trn (rowM m' s) b).bind c with | none => tbF m al s b = -1 | some k => ∃ t, tbF m al s b = ((t : Nat) : Int) ∧ t < m.ed.length ∧ c t = some k ∧ cF ds t = k
 row : ∀ s, SortE 0 (rowM m' s) ∧ (∀ e ∈ rowM m' s, e.lo < 256 ∧ e.hi < 256) ∧ (rowM m' s).length ≤ 10000
 kl : ∀ s k, c s = some k → k < m.ed.length
 alt : (LiveS m 0 ∧ m' = m ∧ ClsOK m c) ∨ (¬ LiveS m 0 ∧ (∀ s, rowM m' s = []) ∧ ∀ s, c s ≠ none → s = 0)
theorem smx_of {m : Mc} {al : List Bool} {ds : List Nat} (hv : Vld m) (hsm : McSm m) (h1 : 1 ≤ m.ed.length) (ha : LiveL m al) (hc : ∀ s t, s < m.ed.length → t < m.ed.length → (cF ds s = cF ds t ↔ SameL m s t)) (hl : ∀ s, cF ds s < m.ed.length) : ∃ m' c, Smx m al ds m' c := by
 classical
 have hrm : ∀ s, (SortE 0 (rowM m s)) ∧ (∀ e ∈ rowM m s, e.lo < 256 ∧ e.hi < 256) ∧ (rowM m s).length ≤ 10000 := fun s => by
  refine ⟨(hv.row s).1, ?_⟩;unfold rowM
  cases hs : m.ed[s]? with
  | none => exact ⟨fun e he => (by cases he), by simp⟩
  | some r => exact ⟨fun e he => hsm.by_ r (List.mem_of_getElem? hs) e he, hsm.rl r (List.mem_of_getElem? hs)⟩
 by_cases h0 : LiveS m 0
 ·refine ⟨m, fun s => if LiveS m s then some (cF ds s) else none, rfl, rfl, if_pos h0, fun s hs hcs b hb => ?_, hrm, fun s k hk => ?_, .inl ⟨h0, rfl, ⟨fun s hs => ?_, fun s t hs ht ls lt => ?_⟩⟩⟩
  ·cases ht : trn (rowM m s) b with
   | none => exact tbF_none ht
   | some t =>
    have htl := hv.trn_lt ht;rw [Option.bind_some];by_cases hlt : LiveS m t
    ·simp only [if_pos hlt];exact ⟨t, by rw [tbF_some hv ha ht, if_pos ((ha.2 t htl).2 hlt)], htl, if_pos hlt, rfl⟩
    ·simp only [if_neg hlt];rw [tbF_some hv ha ht, if_neg (fun h => hlt ((ha.2 t htl).1 h))]
  ·have hk : (if _ then _ else _) = some k := hk
   split at hk
   ·injection hk with hk; rw [← hk]; exact hl s
   ·cases hk
  ·by_cases hx : LiveS m s
   ·simp [hx]
   ·simp [hx]
  ·simp only [if_pos ls, if_pos lt];rw [Option.some.injEq];exact hc s t hs ht
 ·refine ⟨⟨m.ed.map fun _ => [], m.ac⟩, fun s => if s = 0 then some (cF ds 0) else none, rfl, by simp, rfl, fun s hs hcs b hb => ?_, fun s => ?_, fun s k hk => ?_, .inr ⟨h0, fun s => ?_, fun s hs => ?_⟩⟩
  ·have hs0 : s = 0 := by
    by_cases e : s = 0
    ·exact e
    ·simp [e] at hcs
   subst hs0;have hr : rowM ⟨m.ed.map fun _ => [], m.ac⟩ 0 = [] := by
    unfold rowM; simp only [List.getElem?_map]; cases m.ed[0]? <;> rfl
   rw [hr];show tbF m al 0 b = -1
   cases ht : trn (rowM m 0) b with
   | none => exact tbF_none ht
   | some t =>
    have htl := hv.trn_lt ht;rw [tbF_some hv ha ht, if_neg];intro h;obtain ⟨w, hw⟩ := (ha.2 t htl).1 h;exact h0 ⟨b :: w, by rw [acF_cons, ht]; exact hw⟩
  ·have hr : rowM ⟨m.ed.map fun _ => [], m.ac⟩ s = [] := by
    unfold rowM; simp only [List.getElem?_map]; cases m.ed[s]? <;> rfl
   rw [hr];exact ⟨trivial, fun e he => (by cases he), by simp⟩
  ·have hk : (if _ then _ else _) = some k := hk
   split at hk
   ·injection hk with hk; rw [← hk]; exact hl 0
   ·cases hk
  ·unfold rowM; simp only [List.getElem?_map]; cases m.ed[s]? <;> rfl
  ·by_cases e : s = 0
   ·exact e
   ·simp [e] at hs
theorem smx_done {m m' : Mc} {al : List Bool} {ds : List Nat} {c : Nat → Option Nat} {st : List Nat} {rs : List (List Ed)} {t : Nat} (hv : Vld m) (hsm : McSm m) (h1 : 1 ≤ m.ed.length) (hx : Smx m al ds m' c) (h : LeI m' c st st.length rs [] t) : LeOK m ⟨rs, st.map fun s => (m'.ac[s]?).getD false⟩ := by
 rcases hx.alt with ⟨h0, rfl, hok⟩ | ⟨h0, hr, hs⟩
 ·obtain ⟨d1, d2, d3⟩ := h.done hv hok;have hm' : (⟨rs, st.map fun s => (m'.ac[s]?).getD false⟩ : Mc) = leastM m' c (numC c st) st := by rw [d1]; rfl
  refine ⟨.inl ⟨h0, by rw [hm']; exact d2, by rw [hm']; exact d3⟩, ?_, ?_⟩
  ·show rs.length ≤ _;rw [d1]; unfold leastM; simp; exact h.nodup
  ·rw [hm'];have hrr : ∀ r ∈ (leastM m' c (numC c st) st).ed, ∃ s ∈ st, r = renE (numC c st) (joinF c (rowM m' s)) := fun r hr => by
    unfold leastM at hr;obtain ⟨s, h1, h2⟩ := List.mem_map.1 hr;exact ⟨s, h1, h2.symm⟩
   refine ⟨fun r h2 e he => ?_, fun r h2 => ?_, ?_⟩
   ·obtain ⟨s, h3, rfl⟩ := hrr r h2;unfold renE at he;obtain ⟨f, h4, rfl⟩ := List.mem_map.1 he;have := joinF_by (cls := c) (hx.row s).1 (hx.row s).2.1 f h4;exact ⟨this.1, this.2.1⟩
   ·obtain ⟨s, h3, rfl⟩ := hrr r h2;rw [renE_len];exact Nat.le_trans (joinF_len _ _) (hx.row s).2.2
   ·unfold leastM; simp;have := h.nodup;have := hsm.n;have := hv.len;omega
 ·have hst : st = [0] := by
   have hn := nodup_of_map h.nd;have hz := h.zero
   match st, hn, hz, h.lv with
   | [], _, hz, _ => cases hz
   | [a], _, hz, _ => simp at hz; rw [hz]
   | a :: b :: r, hn, hz, hlv =>
    have e1 := hs a (hlv a (by simp)).2
    have e2 := hs b (hlv b (by simp)).2
    rw [e1, e2] at hn;simp at hn
  subst hst;have hrs : rs = [[]] := by
   rw [h.rows];simp only [List.length_singleton, List.take_succ_cons, List.take_zero, List.map_cons, List.map_nil, hr]
   rfl
  have hac0 : (m'.ac[0]?).getD false = false := by
   rw [hx.ac]
   cases e : (m.ac[0]?).getD false with
   | false => rfl
   | true => exact absurd ⟨[], e⟩ h0
  rw [hrs];simp only [List.map_cons, List.map_nil, hac0];exact ⟨.inr ⟨h0, rfl⟩, by simpa using h1, ⟨fun r hr e he => (by simp at hr; subst hr; cases he), fun r hr => (by simp at hr; subst hr; simp), by simp⟩⟩
def preN (k n : Nat) : List (Option Nat) := List.replicate k none ++ List.replicate (n - k) (some 0)
theorem preN_zero (n : Nat) : preN 0 n = List.replicate n (some 0) := by simp [preN]
theorem preN_len {k n : Nat} (h : k ≤ n) : (preN k n).length = n := by simp [preN]; omega
theorem preN_set {k n : Nat} (h : k < n) : (preN k n).set k none = preN (k + 1) n := by
 unfold preN;rw [List.set_append_right _ _ (by simp), List.length_replicate, Nat.sub_self]
 obtain ⟨j, hj⟩ : ∃ j, n - k = j + 1 := ⟨n - k - 1, by omega⟩
 rw [hj, List.replicate_succ, List.set_cons_zero, show n - (k + 1) = j by omega, List.replicate_succ', List.append_assoc]
 rfl
theorem preN_all (c : Nat → Option Nat) (n : Nat) : preN n n = nuL c [] n := by
 unfold preN nuL;rw [Nat.sub_self, List.replicate_zero, List.append_nil, eq_comm, List.eq_replicate_iff];refine ⟨by simp, fun x hx => ?_⟩
 obtain ⟨s, -, rfl⟩ := List.mem_map.1 hx;simp
theorem nuL_first {c : Nat → Option Nat} {n k : Nat} (hk : k < n) (hc : c 0 = some k) : (nuL c [] n).set k (some 0) = nuL c [0] n := by
 have := nuL_new (st := []) hk hc (by simp)
 simpa using this.symm
section
variable {m : Mc} {c : Nat → Option Nat} {B N gn n i : Nat} {lv lv' : Value} {rs : List (List Ed)} {acs : List Bool} {vE vA : Value} {gv : List Value} {p pp q : List Ed} {t : Nat} {st : List Nat} {vst : Value} {w w' w9 : World}
theorem SmS.app1 {b kc nu nl : Nat} {v9 : Value} {ro : List Value} {X : Obj} (h : SmS m c B N gn n i lv rs acs vE vA gv pp p t st vst w) (hnl : p.length = nl) (hnu : numC c st kc = nu) (hro : rowF edC (renE (numC c st) p) = ro)
  (hown : w9.ownsRow B 58 3 v9 (nl + 1) (ro ++ [.int .u8 (b : Int), .int .u8 (b : Int), .int .i64 (nu : Int)])) (hg : (w.alloc X).grownBy w9 lv.ownBlock) (hf : Fresh v9 lv (w.alloc X).heap.size) :
  SmS m c B N gn n i v9 rs acs vE vA gv pp (p ++ [⟨b, b, kc⟩]) t st vst w9 ∧ Below B w w9 := by
 have hb : Below w.heap.size w (w.alloc X) := (Below.refl _ _).alloc (Nat.le_refl _) _;obtain ⟨g1, g2⟩ := h.gnlt;refine ⟨h.rowApp hb ?_ hg hf, (hb.mono (by omega)).grown hg (by simp; omega) fun g hg => (World.ownsRow.lt h.row g hg).1⟩
 show w9.ownsRow _ _ _ _ (renE (numC c st) (p ++ [⟨b, b, kc⟩])).length (rowF edC (renE (numC c st) (p ++ [⟨b, b, kc⟩])));rw [renE_len, List.length_append, hnl, renE_snoc, rowF_app, rowF_single, hro];show w9.ownsRow _ _ _ _ (nl + 1) (ro ++ [.int .u8 (b : Int), .int .u8 (b : Int), .int .i64 ((numC c st kc : Nat) : Int)]);rw [hnu];exact hown
theorem SmS.set1 {gl cc nq nl b : Nat} {f : Ed} (h : SmS m c B N gn n i (.slice (some ⟨gl, 0, none⟩) nl cc) rs acs vE vA gv (q ++ [f]) (q ++ [f]) t st vst w) (hq : q.length = nq) (hl : nq + 1 = nl) (hgl : B ≤ gl) :
  SmS m c B N gn n i (.slice (some ⟨gl, 0, none⟩) nl cc) rs acs vE vA gv (q ++ [⟨f.lo, b, f.to⟩]) (q ++ [⟨f.lo, b, f.to⟩]) t st vst (w.setCell ⟨gl, nq * 3 + 1, none⟩ (.int .u8 (b : Int))) ∧ Below B w (w.setCell ⟨gl, nq * 3 + 1, none⟩ (.int .u8 (b : Int))) := by
 exact ⟨(h.rowSet b hq hl).to (h.le.ext b), (Below.refl _ _).setCell (p := ⟨gl, nq * 3 + 1, none⟩) hgl _⟩
theorem SmS.row6 {b nu nl : Nat} {A : Option Addr} {cc : Nat} (h : SmS m c B N gn n i (.slice A nl cc) rs acs vE vA gv pp p t st vst w) (hnl : p.length = nl) (X : Obj) :
  (w.alloc X).ownsRow B 58 3 (.slice A nl cc) nl (rowF edC (renE (numC c st) p)) := by
 have h1 : w.ownsRow B 58 3 (.slice A nl cc) (renE (numC c st) p).length (rowF edC (renE (numC c st) p)) := h.row;rw [renE_len, hnl] at h1;exact World.ownsRow.alloc h1 _
theorem SmS.num {k nu : Nat} (h : SmS m c B N gn n i lv rs acs vE vA gv pp p t st vst w) (hk : k < n) (hm : some k ∈ st.map c) (hnu : numC c st k = nu) : w.cell? ⟨gn, k, none⟩ = some (.int .i64 (nu : Int)) := by
 obtain ⟨z0, -⟩ := h.nu.cellC k (by rw [nuL_len]; exact hk)
 rw [nuL_at hk, if_pos hm, hnu] at z0;exact z0
theorem SmS.meet1 {k s ns b : Nat} {vst' : Value} {w2 w3 : World} (h : SmS m c B N gn n i lv rs acs vE vA gv p p t st vst w) (hns : st.length = ns) (hk : k < n) (hs : s < m.ed.length) (hc : c s = some k) (hnew : ¬ some k ∈ st.map c)
  (hb2 : Below w.heap.size (w.setCell ⟨gn, k, none⟩ (.int .i64 (ns : Int))) w2) (hg3 : w2.grownBy w3 vst.ownBlock) (ho3 : w3.ownsRow B 3 1 vst' (ns + 1) (ints st ++ [.int .i64 (s : Int)])) (hf3 : Fresh vst' vst w2.heap.size) :
  SmS m c B N gn n i lv rs acs vE vA gv (p ++ [⟨b, b, k⟩]) p t (st ++ [s]) vst' w3 ∧ numC c (st ++ [s]) k = ns ∧ Below B w w3 := by
 subst hns;obtain ⟨q1, q2⟩ := h.le.new ⟨b, b, k⟩ s hnew hs hc;obtain ⟨g1, g2⟩ := h.gnlt;refine ⟨h.meet hk hc hnew (fun e he => h.le.ptg e he) hb2 hg3 ho3 hf3 q1 h.le.il, q2, ?_⟩;have hz : (w.setCell ⟨gn, k, none⟩ (.int .i64 (st.length : Int))).heap.size = w.heap.size := by simp [World.setCell]
 have h2 := hb2.size;exact (((Below.refl B w).setCell (p := ⟨gn, k, none⟩) g1 (.int .i64 (st.length : Int))).trans (hb2.mono (by omega))).grown hg3 (by omega) (fun g hg => (h.own.lt g hg).1)
theorem numC_ne {c : Nat → Option Nat} {st : List Nat} {a b s : Nat} (ha : some a ∈ st.map c) (hb : ¬ some b ∈ st.map c) : numC c (st ++ [s]) a < st.length := by
 rw [numC_grow s ha];exact numC_lt ha
theorem snoc_ne {f : Ed} {b k : Nat} (h : ¬ (f.hi + 1 = b ∧ f.to = k)) : ∀ q' f', q ++ [f] = q' ++ [f'] → ¬ (f'.hi + 1 = b ∧ f'.to = k) := fun q' f' e => by
 obtain ⟨-, e2⟩ := List.append_inj' e rfl;injection e2 with e2;rw [← e2]; exact h
theorem nil_ne {b k : Nat} : ∀ q' f', ([] : List Ed) = q' ++ [f'] → ¬ (f'.hi + 1 = b ∧ f'.to = k) := fun q' f' e => by simp at e
end
end Go.Proofs.YtjhmipidmpmlmaaGreatDoor
