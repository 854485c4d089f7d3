/- An abstract logic for calls that only compute: what each operation does to values that are trees, and rules for walking a text. -/
import Derived.Shelf.Strings.Builder1
import Derived.Lib.AppendStr
import Derived.ProofKit
import Derived.Laws.IdiomCopy
import Derived.KernelRfl
import Derived.OrdersHeld
import Derived.Test.YtlaodgbkpmdhoaaGreatDoorA2
/-
  Part 35: lists of own lists: a family of own objects.
-/
namespace Go.Ab
open Go
set_option linter.unusedVariables false
set_option linter.unusedSimpArgs false

theorem fx_exists : ∃ g : Nat → Nat → Nat, (∀ f i k, k < 1048576 → k ≠ g f i) ∧ (∀ f i j, g f i = g f j → i = j) ∧ ∀ f f' i j, f < 1048576 → f' < 1048576 → f ≠ f' → g f i ≠ g f' j :=
  ⟨fun f i => 1048576 * (i + 1) + f, fun f i k h => by show k ≠ 1048576 * (i + 1) + f; omega, fun f i j h => by simp only at h; omega, fun f f' i j h h' hn => by show 1048576 * (i + 1) + f ≠ 1048576 * (j + 1) + f'; omega⟩
/-- the place of member i of family f (the kernel is not to reckon it) -/
noncomputable def fx : Nat → Nat → Nat := Classical.choose fx_exists
theorem fx_low {f i k : Nat} (h : k < 1048576) : k ≠ fx f i := (Classical.choose_spec fx_exists).1 f i k h
theorem lit_ne_fx {k f i : Nat} (h : k < 1048576) : (k = fx f i) = False := eq_false (fx_low h)
theorem fx_ne_lit {k f i : Nat} (h : k < 1048576) : (fx f i = k) = False := eq_false fun e => fx_low h e.symm
theorem fx_inj {f i j : Nat} : (fx f i = fx f j) = (i = j) := propext ⟨(Classical.choose_spec fx_exists).2.1 f i j, fun h => by rw [h]⟩
theorem fx_ne {f f' i j : Nat} (h : f < 1048576) (h' : f' < 1048576) (hn : f ≠ f') : (fx f i = fx f' j) = False := eq_false ((Classical.choose_spec fx_exists).2.2 f f' i j h h' hn)

variable {α : Type}
/-- the members of a family, as the outer array holds them -/
noncomputable def famR (f e sz G : Nat) (enc : α → PV) (ll : List (List α)) : List AV := ll.mapIdx fun i x => .own (fx f i) G 0 x.length
/-- the members of a family, as the heap holds them -/
noncomputable def famL (f e sz G : Nat) (enc : α → PV) (ll : List (List α)) (rest : List (Nat × AO)) : List (Nat × AO) :=
  (ll.mapIdx fun i x => (fx f i, AO.arr e sz G (List.map AV.p (List.map enc x)))) ++ rest

theorem famR_get (f e sz G : Nat) (enc : α → PV) (ll : List (List α)) (i : Nat) : (famR f e sz G enc ll)[i]? = (ll[i]?).map fun x => AV.own (fx f i) G 0 x.length := by
  simp [famR, List.getElem?_mapIdx]
theorem famR_len (f e sz G : Nat) (enc : α → PV) (ll : List (List α)) : (famR f e sz G enc ll).length = ll.length := by simp [famR]
theorem famR_nil (f e sz G : Nat) (enc : α → PV) : famR f e sz G enc [] = [] := rfl
theorem famL_nil (f e sz G : Nat) (enc : α → PV) (rest : List (Nat × AO)) : famL f e sz G enc [] rest = rest := rfl

theorem hget_in {a b : List (Nat × AO)} {l : Nat} (h : (a.any fun x => x.1 == l) = true) : hget (a ++ b) l = hget a l := by
  induction a with
  | nil => simp at h
  | cons x a ih =>
    obtain ⟨k, o⟩ := x
    simp only [List.cons_append, hget]
    by_cases hk : k = l
    · rw [if_pos hk, if_pos hk]
    · rw [if_neg hk, if_neg hk]
      rw [List.any_cons, Bool.or_eq_true] at h
      rcases h with h | h
      · exact absurd (by simpa using h) hk
      · exact ih h
theorem hget_out {a b : List (Nat × AO)} {l : Nat} (h : ¬ (a.any fun x => x.1 == l) = true) : hget (a ++ b) l = hget b l := by
  induction a with
  | nil => rfl
  | cons x a ih =>
    obtain ⟨k, o⟩ := x
    rw [List.any_cons, Bool.or_eq_true, not_or] at h
    have hk : ¬ k = l := by simpa using h.1
    simp only [List.cons_append, hget]
    rw [if_neg hk]
    exact ih h.2
theorem hget_mem {a : List (Nat × AO)} {l : Nat} {o : AO} (hm : (l, o) ∈ a) (hu : ∀ o', (l, o') ∈ a → o' = o) : hget a l = o := by
  induction a with
  | nil => cases hm
  | cons x a ih =>
    obtain ⟨k, o1⟩ := x
    simp only [hget]
    by_cases h : k = l
    · subst h
      rw [if_pos rfl]
      exact hu o1 List.mem_cons_self
    · rw [if_neg h]
      rcases List.mem_cons.1 hm with e | e
      · cases e; exact absurd rfl h
      · exact ih e fun o' ho => hu o' (List.mem_cons_of_mem _ ho)
theorem famL_low {f e sz G : Nat} {enc : α → PV} {ll : List (List α)} {rest : List (Nat × AO)} {l : Nat} (h : l < 1048576) : hget (famL f e sz G enc ll rest) l = hget rest l := by
  unfold famL
  rw [hget_out]
  simp only [List.any_eq_true, not_exists, not_and, List.mem_mapIdx]
  rintro x ⟨i, hi, rfl⟩
  simp only [beq_iff_eq, fx_ne_lit h]; exact fun h => h
theorem famL_fx (f e sz G : Nat) (enc : α → PV) (ll : List (List α)) (rest : List (Nat × AO)) (i : Nat) :
    hget (famL f e sz G enc ll rest) (fx f i) = (ll[i]?).elim (hget rest (fx f i)) fun x => .arr e sz G (List.map AV.p (List.map enc x)) := by
  unfold famL
  by_cases hi : i < ll.length
  · have hx : ll[i]? = some ll[i] := List.getElem?_eq_getElem hi
    rw [hget_in, hx]
    · refine hget_mem (List.mem_mapIdx.2 ⟨i, hi, rfl⟩) fun o' ho => ?_
      obtain ⟨j, hj, e⟩ := List.mem_mapIdx.1 ho
      simp only [Prod.mk.injEq] at e
      have : j = i := by have := e.1; rw [fx_inj] at this; exact this
      subst this
      exact e.2.symm
    · simp only [List.any_eq_true]
      exact ⟨_, List.mem_mapIdx.2 ⟨i, hi, rfl⟩, by simp⟩
  · have hx : ll[i]? = none := List.getElem?_eq_none (by omega)
    rw [hget_out, hx]
    · rfl
    · simp only [List.any_eq_true, not_exists, not_and, List.mem_mapIdx]
      rintro x ⟨j, hj, rfl⟩
      simp only [beq_iff_eq, fx_inj]; omega
theorem get_at_len {β : Type} (l : List β) : l[l.length]? = none := List.getElem?_eq_none (Nat.le_refl _)

/-! ### what a heap holds of a family -/
def hasFam (h : List (Nat × AO)) (f e sz G : Nat) (enc : α → PV) (ll : List (List α)) : Prop := ∀ i x, ll[i]? = some x → hget h (fx f i) = .arr e sz G (List.map AV.p (List.map enc x))
def hasFamX (h : List (Nat × AO)) (f i e sz G : Nat) (enc : α → PV) (ll : List (List α)) : Prop := ∀ j x, j ≠ i → ll[j]? = some x → hget h (fx f j) = .arr e sz G (List.map AV.p (List.map enc x))
def famDead (h : List (Nat × AO)) (f : Nat) : Prop := ∀ i, (hget h (fx f i)).alive = false
/-- the members that a call found have an older generation -/
def famKeep (h : List (Nat × AO)) (f G : Nat) : Prop := ∀ i, (hget h (fx f i)).alive = true → (hget h (fx f i)).gen < G
def hasKeys (h : List (Nat × AO)) (f n : Nat) : Prop := ∀ i, i < n → (h.any fun x => x.1 == fx f i) = true
def lenEq {β : Type} (m : Nat) (y : List β) : Prop := m = y.length
def memEq (es : List AV) (enc : α → PV) (y : List α) : Prop := es = List.map AV.p (List.map enc y)
def isMem (o : AO) (e sz : Nat) (enc : α → PV) (y : List α) : Prop := match o with
  | .arr e' sz' _ es => e' = e ∧ sz' = sz ∧ memEq es enc y
  | _ => False
section
variable {h h' H0 rest : List (Nat × AO)} {f f' i k e sz G G' e' sz' : Nat} {o : AO} {enc enc' : α → PV} {ll ll' : List (List α)}
theorem isMem_arr {g : Nat} {es : List AV} {y : List α} : isMem (.arr e' sz' g es) e sz enc y = (e' = e ∧ sz' = sz ∧ memEq es enc y) := propext Iff.rfl
theorem lenEq_set {β : Type} {x : List β} {j : Nat} {v : β} : lenEq x.length (x.set j v) = True := by simp [lenEq]
theorem lenEq_rep {β : Type} {n : Nat} {v : β} : lenEq n (List.replicate n v) = True := by simp [lenEq]
theorem lenEq_of {β : Type} {m : Nat} {y : List β} (h : y.length = m) : lenEq m y = True := by simp [lenEq, h]
theorem memEq_self {x : List α} : memEq (List.map AV.p (List.map enc x)) enc x = True := by simp [memEq]
theorem memEq_rep {n : Nat} {v : PV} {y : α} (hv : v = enc y) : memEq (List.replicate n (AV.p v)) enc (List.replicate n y) = True := by simp [memEq, hv]
theorem memEq_snoc' {x : List α} {v : PV} {y : α} (hv : v = enc y) : memEq (List.map AV.p (List.map enc x ++ [v])) enc (x ++ [y]) = True := by simp [memEq, hv]
theorem hget_low_fx (hk : k < 1048576) : hget ((k, o) :: h) (fx f i) = hget h (fx f i) := by simp only [hget, lit_ne_fx hk, if_false]
theorem hasFam_low (hk : k < 1048576) : hasFam ((k, o) :: h) f e sz G enc ll = hasFam h f e sz G enc ll := by simp only [hasFam, hget_low_fx hk]
theorem hasFam_same : hasFam (famL f e sz G enc ll rest) f e sz G enc ll = True := by
  simp only [hasFam, famL_fx, eq_iff_iff, iff_true]
  intro i x hx; rw [hx]; rfl
theorem hasFamX_low (hk : k < 1048576) : hasFamX ((k, o) :: h) f i e sz G enc ll = hasFamX h f i e sz G enc ll := by simp only [hasFamX, hget_low_fx hk]
theorem hasFamX_here : hasFamX ((fx f i, o) :: h) f i e sz G enc ll = hasFamX h f i e sz G enc ll := by
  simp only [hasFamX, eq_iff_iff]
  constructor <;> intro H j x hj hx
  · have := H j x hj hx
    simp only [hget, fx_inj] at this
    rwa [if_neg (fun e => hj e.symm)] at this
  · simp only [hget, fx_inj]
    rw [if_neg (fun e => hj e.symm)]; exact H j x hj hx
theorem hasFamX_same : hasFamX (famL f e sz G enc ll rest) f i e sz G enc ll = True := by
  simp only [hasFamX, famL_fx, eq_iff_iff, iff_true]
  intro j x _ hx; rw [hx]; rfl
theorem famDead_none : famDead (famL f e sz G enc [] rest) f = famDead rest f := rfl
theorem famKeep_low (hk : k < 1048576) : famKeep ((k, o) :: h) f G = famKeep h f G := by simp only [famKeep, hget_low_fx hk]
theorem famKeep_nil : famKeep [] f G = True := by simp [famKeep, hget, AO.alive]
theorem famKeep_same (hg : G' < G) : famKeep (famL f e sz G' enc ll rest) f G = ((∀ i, ll.length ≤ i → (hget rest (fx f i)).alive = true → (hget rest (fx f i)).gen < G)) := by
  simp only [famKeep, famL_fx, eq_iff_iff]
  constructor
  · intro H i hi
    have := H i
    rwa [List.getElem?_eq_none hi] at this
  · intro H i
    cases hx : ll[i]? with
    | none => exact H i (List.getElem?_eq_none_iff.1 hx)
    | some x => intro _; exact hg
theorem hasKeys_low {n : Nat} (hk : k < 1048576) : hasKeys ((k, o) :: h) f n = hasKeys h f n := by
  simp only [hasKeys, eq_iff_iff]
  have e : ∀ i, (((k, o) :: h).any fun x => x.1 == fx f i) = h.any fun x => x.1 == fx f i := fun i => by
    rw [List.any_cons]
    have : ((k, o).1 == fx f i) = false := by simp only [beq_eq_false_iff_ne]; exact fx_low hk
    rw [this, Bool.false_or]
  simp only [e]
theorem hasKeys_same : hasKeys (famL f e sz G enc ll rest) f ll.length = True := by
  simp only [hasKeys, eq_iff_iff, iff_true, famL]
  intro i hi
  rw [List.any_append, Bool.or_eq_true]
  left
  rw [List.any_eq_true]
  exact ⟨_, List.mem_mapIdx.2 ⟨i, hi, rfl⟩, by simp⟩
theorem keysIn_app {a b : List (Nat × AO)} : keysIn h (a ++ b) ↔ keysIn h a ∧ keysIn h b := by
  induction a with
  | nil => simp [keysIn]
  | cons x a ih =>
    obtain ⟨l, o⟩ := x
    simp only [List.cons_append, keysIn, ih, and_assoc]
theorem keysIn_of_mem {a : List (Nat × AO)} (H : ∀ l o, (l, o) ∈ a → (h.any fun x => x.1 == l) = true ∧ o.alive = true) : keysIn h a := by
  induction a with
  | nil => trivial
  | cons x a ih =>
    obtain ⟨l, o⟩ := x
    obtain ⟨h1, h2⟩ := H l o List.mem_cons_self
    exact ⟨h1, h2, ih fun l o hm => H l o (List.mem_cons_of_mem _ hm)⟩
theorem keysIn_famL (hk : hasKeys h f ll.length) : keysIn h (famL f e sz G enc ll rest) = keysIn h rest := by
  unfold famL
  rw [eq_iff_iff, keysIn_app]
  refine ⟨fun h => h.2, fun hr => ⟨keysIn_of_mem fun l o hm => ?_, hr⟩⟩
  obtain ⟨i, hi, e⟩ := List.mem_mapIdx.1 hm
  simp only [Prod.mk.injEq] at e
  obtain ⟨rfl, rfl⟩ := e
  exact ⟨hk i hi, rfl⟩
theorem leHeap_app {σ σ' : Nat → AO} {a b : List (Nat × AO)} : leHeap σ σ' H0 (a ++ b) ↔ leHeap σ σ' H0 a ∧ leHeap σ σ' H0 b := by
  induction a with
  | nil => simp [leHeap]
  | cons x a ih =>
    obtain ⟨l, o⟩ := x
    simp only [List.cons_append, leHeap, ih, and_assoc]
theorem leHeap_of_mem {σ σ' : Nat → AO} {a : List (Nat × AO)} (H : ∀ l o, (l, o) ∈ a → LeO' σ σ' (hget H0 l).alive (hget H0 l).gen l) : leHeap σ σ' H0 a := by
  induction a with
  | nil => trivial
  | cons x a ih =>
    obtain ⟨l, o⟩ := x
    exact ⟨H l o List.mem_cons_self, ih fun l o hm => H l o (List.mem_cons_of_mem _ hm)⟩
/-- the check of a family, member by member -/
theorem leHeap_famL {σ σ' : Nat → AO} (H : ∀ i x, ll[i]? = some x → LeO' σ σ' (hget H0 (fx f i)).alive (hget H0 (fx f i)).gen (fx f i)) : leHeap σ σ' H0 (famL f e sz G enc ll rest) = leHeap σ σ' H0 rest := by
  unfold famL
  rw [eq_iff_iff, leHeap_app]
  refine ⟨fun h => h.2, fun hr => ⟨leHeap_of_mem fun l o hm => ?_, hr⟩⟩
  obtain ⟨i, hi, ee⟩ := List.mem_mapIdx.1 hm
  simp only [Prod.mk.injEq] at ee
  obtain ⟨rfl, rfl⟩ := ee
  exact H i _ (List.getElem?_eq_getElem hi)
theorem leO_arr {σ σ' : Nat → AO} {keep : Bool} {g0 l g g' : Nat} {xs : List PV} (h1 : σ l = .arr e sz g (xs.map .p)) (h2 : σ' l = .arr e sz g' (xs.map .p)) (hg : 1 ≤ g') (hk : keep = true → g' = g ∨ g0 < g') : LeO' σ σ' keep g0 l := by
  unfold LeO' LeObj
  rw [h1, h2]
  exact ⟨hg, rfl, rfl, LeVs_p _ _ _, hk⟩
theorem leHeap_fam_eq (h1 : hasFam h f e sz G enc ll) (h2 : hasFam h' f e sz G enc ll) (hg : 1 ≤ G) : leHeap (hget h) (hget h') H0 (famL f e sz G enc ll rest) = leHeap (hget h) (hget h') H0 rest :=
  leHeap_famL fun i x hx => leO_arr (h1 i x hx) (h2 i x hx) hg fun _ => .inl rfl
theorem leHeap_fam_set {y : List α} (h1 : hasFamX h f i e sz G enc ll) (h2 : hasFam h' f e sz G enc (ll.set i y)) (hm : isMem (hget h (fx f i)) e sz enc y) (hg : 1 ≤ G) (hk : (hget h (fx f i)).gen = G ∨ famKeep H0 f G) :
    leHeap (hget h) (hget h') H0 (famL f e sz G enc (ll.set i y) rest) = leHeap (hget h) (hget h') H0 rest := by
  refine leHeap_famL fun j x hx => ?_
  have h3 := h2 j x hx
  by_cases hj : j = i
  · subst hj
    unfold isMem at hm
    split at hm
    · rename_i e' sz' g es ho
      obtain ⟨rfl, rfl, hme⟩ := hm
      unfold memEq at hme
      subst hme
      have hxy : x = y := by
        have hlt : j < ll.length := by have := (List.getElem?_eq_some_iff.1 hx).1; simpa using this
        rw [List.getElem?_set_self hlt] at hx; exact (Option.some.inj hx).symm
      subst hxy
      exact leO_arr ho h3 hg fun ha => by
        rcases hk with hk | hk
        · rw [ho] at hk; exact .inl hk.symm
        · exact .inr (hk j ha)
    · exact hm.elim
  · rw [List.getElem?_set_ne (fun e => hj e.symm)] at hx
    exact leO_arr (h1 j x hj hx) h3 hg fun _ => .inl rfl
theorem leHeap_fam_snocY {y : List α} (h1 : hasFam h f e sz G enc ll) (h2 : hasFam h' f e sz G enc (ll ++ [y])) (hm : isMem (hget h (fx f ll.length)) e sz enc y) (hg : 1 ≤ G) (hk : famKeep H0 f G) :
    leHeap (hget h) (hget h') H0 (famL f e sz G enc (ll ++ [y]) rest) = leHeap (hget h) (hget h') H0 rest := by
  refine leHeap_famL fun j x hx => ?_
  have h3 := h2 j x hx
  by_cases hj : j < ll.length
  · rw [List.getElem?_append_left hj] at hx
    exact leO_arr (h1 j x hx) h3 hg fun _ => .inl rfl
  · have hjl := (List.getElem?_eq_some_iff.1 hx).1
    simp only [List.length_append, List.length_singleton] at hjl
    have : j = ll.length := by omega
    subst this
    have hx' : x = y := by
      rw [List.getElem?_append_right (Nat.le_refl _), Nat.sub_self] at hx
      exact (Option.some.inj hx).symm
    subst hx'
    unfold isMem at hm
    split at hm
    · rename_i e' sz' g es ho
      obtain ⟨rfl, rfl, hme⟩ := hm
      unfold memEq at hme
      subst hme
      exact leO_arr ho h3 hg fun ha => .inr (hk _ ha)
    · exact hm.elim

/-! ### the outer array -/
theorem LeVs_iff {σ σ' : Nat → AO} : ∀ {cs cs' : List AV}, cs.length = cs'.length → (∀ (j : Nat) c c', cs[j]? = some c → cs'[j]? = some c' → LeV σ σ' c c') → LeVs σ σ' cs cs'
  | [], [], _, _ => rfl
  | [], _ :: _, h, _ => by simp at h
  | _ :: _, [], h, _ => by simp at h
  | c :: cs, c' :: cs', h, H => ⟨H 0 c c' rfl rfl, LeVs_iff (by simpa using h) fun j d d' h1 h2 => H (j + 1) d d' (by simpa using h1) (by simpa using h2)⟩
theorem LeV_own {σ σ' : Nat → AO} {l g g' off n : Nat} {es es' : List AV} {e sz e' sz' : Nat} (h1 : σ l = .arr e sz g es) (h2 : σ' l = .arr e' sz' g' es') : LeV σ σ' (.own l g off n) (.own l g' off n) := by
  refine .inl ⟨by rw [h1]; rfl, by rw [h2]; rfl, by rw [h2]; rfl, by rw [h1]; rfl⟩
theorem LeVs_fam_eq (h1 : hasFam h f e sz G enc ll) (h2 : hasFam h' f e sz G' enc ll) : LeVs (hget h) (hget h') (famR f e sz G enc ll) (famR f e sz G' enc ll) = True := by
  rw [eq_iff_iff, iff_true]
  refine LeVs_iff (by rw [famR_len, famR_len]) fun j c c' hc hc' => ?_
  rw [famR_get] at hc hc'
  cases hx : ll[j]? with
  | none => rw [hx] at hc; cases hc
  | some x =>
    rw [hx] at hc hc'
    cases hc; cases hc'
    exact LeV_own (h1 j x hx) (h2 j x hx)
theorem LeVs_fam_set {y : List α} {g m : Nat} (h1 : hasFamX h f i e sz G enc ll) (h2 : hasFam h' f e sz G enc (ll.set i y)) (hg : (hget h (fx f i)).gen = g) (ha : (hget h (fx f i)).alive = true) (hm : lenEq m y) :
    LeVs (hget h) (hget h') ((famR f e sz G enc ll).set i (.own (fx f i) g 0 m)) (famR f e sz G enc (ll.set i y)) = True := by
  rw [eq_iff_iff, iff_true]
  unfold lenEq at hm
  subst hm
  refine LeVs_iff (by rw [List.length_set, famR_len, famR_len, List.length_set]) fun j c c' hc hc' => ?_
  rw [famR_get] at hc'
  cases hx : (ll.set i y)[j]? with
  | none => rw [hx] at hc'; cases hc'
  | some x =>
    rw [hx] at hc'
    cases hc'
    have h3 := h2 j x hx
    have hlt : j < ll.length := by have := (List.getElem?_eq_some_iff.1 hx).1; simpa using this
    by_cases hj : j = i
    · subst hj
      rw [List.getElem?_set_self (by rw [famR_len]; exact hlt)] at hc
      cases hc
      rw [List.getElem?_set_self hlt] at hx
      cases hx
      exact .inl ⟨by rw [hg], by rw [h3]; rfl, by rw [h3]; rfl, ha⟩
    · rw [List.getElem?_set_ne (fun e => hj e.symm), famR_get] at hc
      rw [List.getElem?_set_ne (fun e => hj e.symm)] at hx
      rw [hx] at hc
      cases hc
      exact LeV_own (h1 j x hj hx) h3
theorem LeVs_fam_elem {y : List α} (h1 : hasFamX h f i e sz G enc ll) (h2 : hasFam h' f e sz G enc (ll.set i y)) (hg : (hget h (fx f i)).gen = G) (ha : (hget h (fx f i)).alive = true) (hm : (ll[i]?).elim False fun x => lenEq x.length y) :
    LeVs (hget h) (hget h') (famR f e sz G enc ll) (famR f e sz G enc (ll.set i y)) = True := by
  have := LeVs_fam_set (y := y) (m := y.length) h1 h2 hg ha rfl
  have e : (famR f e sz G enc ll).set i (.own (fx f i) G 0 y.length) = famR f e sz G enc ll := by
    apply List.ext_getElem?
    intro j
    by_cases hj : j = i
    · subst hj
      cases hx : ll[j]? with
      | none => rw [hx] at hm; exact hm.elim
      | some x =>
        have hlt := (List.getElem?_eq_some_iff.1 hx).1
        rw [hx] at hm
        replace hm : x.length = y.length := hm
        rw [List.getElem?_set_self (by rw [famR_len]; exact hlt), famR_get, hx]
        simp [hm]
    · rw [List.getElem?_set_ne (fun e => hj e.symm)]
  rw [e] at this
  exact this
theorem LeVs_fam_snocY {y : List α} {g m : Nat} (h1 : hasFam h f e sz G enc ll) (h2 : hasFam h' f e sz G enc (ll ++ [y])) (hg : (hget h (fx f ll.length)).gen = g) (ha : (hget h (fx f ll.length)).alive = true) (hm : lenEq m y) :
    LeVs (hget h) (hget h') (famR f e sz G enc ll ++ [.own (fx f ll.length) g 0 m]) (famR f e sz G enc (ll ++ [y])) = True := by
  rw [eq_iff_iff, iff_true]
  unfold lenEq at hm
  subst hm
  refine LeVs_iff (by simp [famR_len]) fun j c c' hc hc' => ?_
  rw [famR_get] at hc'
  cases hx : (ll ++ [y])[j]? with
  | none => rw [hx] at hc'; cases hc'
  | some x =>
    rw [hx] at hc'
    cases hc'
    have h3 := h2 j x hx
    by_cases hj : j < ll.length
    · rw [List.getElem?_append_left (by rw [famR_len]; exact hj), famR_get] at hc
      rw [List.getElem?_append_left hj] at hx
      rw [hx] at hc
      cases hc
      exact LeV_own (h1 j x hx) h3
    · have hjl := (List.getElem?_eq_some_iff.1 hx).1
      simp only [List.length_append, List.length_singleton] at hjl
      have : j = ll.length := by omega
      subst this
      rw [List.getElem?_append_right (by rw [famR_len]; exact Nat.le_refl _), famR_len, Nat.sub_self] at hc
      cases hc
      have hx' : x = y := by
        rw [List.getElem?_append_right (Nat.le_refl _), Nat.sub_self] at hx
        exact (Option.some.inj hx).symm
      subst hx'
      exact .inl ⟨by rw [hg], by rw [h3]; rfl, by rw [h3]; rfl, ha⟩
end
end Go.Ab
/-
  Part 36: objects at other places.
-/
namespace Go.Ab
open Go
set_option linter.unusedVariables false
set_option linter.unusedSimpArgs false

mutual
def renV (π : Nat → Nat) : AV → AV
  | .any => .any
  | .p x => .p x
  | .nils => .nils
  | .loc l g i off => .loc (π l) g i off
  | .own l g off n => .own (π l) g off n
  | .mapo l g => .mapo (π l) g
  | .func fn cs => .func fn (renVs π cs)
  | .agg cs => .agg (renVs π cs)
  | .tup cs => .tup (renVs π cs)
def renVs (π : Nat → Nat) : List AV → List AV
  | [] => []
  | c :: r => renV π c :: renVs π r
end
def renO (π : Nat → Nat) : AO → AO
  | .dead g => .dead g
  | .arr e sz g es => .arr e sz g (renVs π es)
  | .map g ks vs => .map g (renVs π ks) (renVs π vs)
theorem renVs_map (π : Nat → Nat) : ∀ l : List AV, renVs π l = l.map (renV π)
  | [] => rfl
  | c :: r => by simp only [renVs, List.map_cons, renVs_map π r]
theorem renVs_p (π : Nat → Nat) (xs : List PV) : renVs π (List.map AV.p xs) = List.map AV.p xs := by
  rw [renVs_map, List.map_map]; rfl
theorem renVs_rep (π : Nat → Nat) (n : Nat) (v : PV) : renVs π (List.replicate n (AV.p v)) = List.replicate n (AV.p v) := by
  rw [renVs_map, List.map_replicate]; rfl
theorem renVs_len (π : Nat → Nat) (l : List AV) : (renVs π l).length = l.length := by rw [renVs_map, List.length_map]
theorem renVs_app (π : Nat → Nat) (a b : List AV) : renVs π (a ++ b) = renVs π a ++ renVs π b := by rw [renVs_map, renVs_map, renVs_map, List.map_append]
theorem renO_gen (π : Nat → Nat) (o : AO) : (renO π o).gen = o.gen := by cases o <;> rfl
theorem renO_alive (π : Nat → Nat) (o : AO) : (renO π o).alive = o.alive := by cases o <;> rfl

section
variable {X : Nat → Prop} {inj : Inj} {σ : Nat → AO} {w : World} {π : Nat → Nat}
abbrev renS (π : Nat → Nat) (σ : Nat → AO) : Nat → AO := fun l => renO π (σ (π l))
abbrev renI (π : Nat → Nat) (inj : Inj) : Inj := fun l => inj (π l)
theorem renF (hπ : ∀ l, π (π l) = l) (D : Nat → Bool) (hD : ∀ l, D l = false) (b : Nat) : F (renI π inj) (renS π σ) b ↔ F inj σ b := by
  constructor
  · rintro ⟨l, c, o, h1, h2, _, h3⟩
    refine ⟨π l, c, σ (π l), rfl, ?_, rfl, h3⟩
    rw [← h1, renO_alive] at h2; exact h2
  · rintro ⟨l, c, o, h1, h2, _, h3⟩
    refine ⟨π l, c, renO π o, ?_, by rw [renO_alive]; exact h2, rfl, ?_⟩
    · show renO π (σ (π (π l))) = renO π o
      rw [hπ, h1]
    · show inj (π (π l)) = some (b, c)
      rw [hπ]; exact h3
theorem renO_arr {o : AO} {e sz g : Nat} {es : List AV} (h : renO π o = .arr e sz g es) : ∃ es0, o = .arr e sz g es0 ∧ es = renVs π es0 := by
  cases o with
  | dead _ => cases h
  | arr e' sz' g' es0 =>
    simp only [renO, AO.arr.injEq] at h
    obtain ⟨rfl, rfl, rfl, rfl⟩ := h
    exact ⟨es0, rfl, rfl⟩
  | map _ _ _ => cases h
theorem renO_map {o : AO} {g : Nat} {ks vs : List AV} (h : renO π o = .map g ks vs) : ∃ ks0 vs0, o = .map g ks0 vs0 := by
  cases o with
  | dead _ => cases h
  | arr _ _ _ _ => cases h
  | map g' ks0 vs0 =>
    simp only [renO, AO.map.injEq] at h
    obtain ⟨rfl, rfl, rfl⟩ := h
    exact ⟨ks0, vs0, rfl⟩
mutual
theorem AR.ren (hπ : ∀ l, π (π l) = l) : ∀ (v : AV) (val : Value), AR X inj σ w v val → AR X (renI π inj) (renS π σ) w (renV π v) val
  | .any, _, _ => trivial
  | .p x, val, h => by
    have e : (fun b => X b ∨ F inj σ b) = fun b => X b ∨ F (renI π inj) (renS π σ) b := by
      funext b
      rw [renF (inj := inj) (σ := σ) hπ (fun _ => false) (fun _ => rfl) b]
    simp only [renV, AR] at *
    rw [← e]; exact h
  | .nils, _, h => h
  | .loc l g i off, val, h => by
    obtain ⟨h1, h2⟩ := h
    refine ⟨h1, fun o ho => ?_⟩
    have ho : renO π (σ l) = o := by rw [← ho]; show _ = renO π (σ (π (π l))); rw [hπ]
    obtain ⟨h3, h4⟩ := h2 _ rfl
    rw [← ho, renO_gen]
    refine ⟨h3, fun hg e sz es he => ?_⟩
    obtain ⟨es0, he0, _⟩ := renO_arr he
    obtain ⟨b, c, h5, h6⟩ := h4 hg e sz es0 he0
    exact ⟨b, c, by show inj (π (π l)) = _; rw [hπ]; exact h5, h6⟩
  | .own l g off n, val, h => by
    obtain ⟨h1, h2⟩ := h
    refine ⟨h1, fun o ho => ?_⟩
    have ho : renO π (σ l) = o := by rw [← ho]; show _ = renO π (σ (π (π l))); rw [hπ]
    obtain ⟨h3, h4⟩ := h2 _ rfl
    rw [← ho, renO_gen]
    refine ⟨h3, fun hg e sz es he => ?_⟩
    obtain ⟨es0, he0, he1⟩ := renO_arr he
    have hi : renI π inj (π l) = inj l := by show inj (π (π l)) = _; rw [hπ]
    rw [he1, renVs_len, hi]
    exact h4 hg e sz es0 he0
  | .mapo l g, val, h => by
    obtain ⟨h1, h2⟩ := h
    refine ⟨h1, fun o ho => ?_⟩
    have ho : renO π (σ l) = o := by rw [← ho]; show _ = renO π (σ (π (π l))); rw [hπ]
    obtain ⟨h3, h4⟩ := h2 _ rfl
    rw [← ho, renO_gen]
    refine ⟨h3, fun hg ks vs he => ?_⟩
    obtain ⟨ks0, vs0, he0⟩ := renO_map he
    obtain ⟨b, c, h5, h6⟩ := h4 hg ks0 vs0 he0
    exact ⟨b, c, by show inj (π (π l)) = _; rw [hπ]; exact h5, h6⟩
  | .func fn cs, val, h => by
    obtain ⟨vs, h1, h2⟩ := h
    exact ⟨vs, h1, ARs.ren hπ cs vs h2⟩
  | .agg cs, val, h => by
    obtain ⟨vs, h1, h2, h3⟩ := h
    exact ⟨vs, h1, ARs.ren hπ cs vs h2, h3⟩
  | .tup cs, val, h => by
    obtain ⟨vs, h1, h2⟩ := h
    exact ⟨vs, h1, ARs.ren hπ cs vs h2⟩
theorem ARs.ren (hπ : ∀ l, π (π l) = l) : ∀ (vs : List AV) (vals : List Value), ARs X inj σ w vs vals → ARs X (renI π inj) (renS π σ) w (renVs π vs) vals
  | [], _, h => h
  | c :: r, _, h => by
    obtain ⟨v, rs, h1, h2, h3⟩ := h
    exact ⟨v, rs, h1, AR.ren hπ c v h2, ARs.ren hπ r rs h3⟩
end
theorem HR.ren (hπ : ∀ l, π (π l) = l) (h : HR X inj σ w) : HR X (renI π inj) (renS π σ) w := by
  refine ⟨fun l o ho => ?_, fun l l' o o' b c c' h1 h2 a1 a2 h3 h4 => ?_, h.xlt⟩
  · have h1 := h.obj (π l) _ rfl
    subst ho
    show OR X (renI π inj) (renS π σ) w l (renO π (σ (π l)))
    cases hs : σ (π l) with
    | dead g => trivial
    | arr e sz g es =>
      rw [hs] at h1
      obtain ⟨vs, q1, q2, q3, q4⟩ := h1
      refine ⟨vs, ARs.ren hπ es vs q1, q2, q3, ?_⟩
      rw [renVs_len]
      rcases q4 with ⟨q4, q5⟩ | q4
      · exact .inl ⟨q4, by rw [q5]; rfl⟩
      · exact .inr q4
    | map g ks vs =>
      rw [hs] at h1
      obtain ⟨b, c, ms, clock, q1, q2, q3, q4, q5⟩ := h1
      exact ⟨b, c, ms, clock, q1, q2, q3, ARs.ren hπ ks _ q4, ARs.ren hπ vs _ q5⟩
  · have := h.inj1 (π l) (π l') _ _ b c c' rfl rfl (by rw [← h1, renO_alive] at a1; exact a1) (by rw [← h2, renO_alive] at a2; exact a2) h3 h4
    have := congrArg π this
    rwa [hπ, hπ] at this
end

def hren (π : Nat → Nat) (h : List (Nat × AO)) : List (Nat × AO) := h.map fun x => (π x.1, renO π x.2)
def renE (π : Nat → Nat) (env : Env) : Env := env.map fun x => (x.1, renV π x.2)
theorem hget_hren {π : Nat → Nat} (hπ : ∀ l, π (π l) = l) (h : List (Nat × AO)) (l : Nat) : hget (hren π h) l = renO π (hget h (π l)) := by
  induction h with
  | nil => rfl
  | cons x h ih =>
    obtain ⟨k, o⟩ := x
    simp only [hren, List.map_cons, hget]
    by_cases hk : π k = l
    · have : k = π l := by rw [← hk, hπ]
      rw [if_pos hk, if_pos this]
    · have : ¬ k = π l := fun e => hk (by rw [e, hπ])
      rw [if_neg hk, if_neg this]; exact ih
theorem renE_get (π : Nat → Nat) (env : Env) (t : Nat) : (renE π env).get t = renV π (env.get t) := by
  induction env with
  | nil => rfl
  | cons x env ih =>
    obtain ⟨k, v⟩ := x
    simp only [renE, List.map_cons, Env.get]
    split
    · rfl
    · exact ih
/-- what may come to a place that held o0 when the call began -/
def RenOk (o0 o : AO) : Prop := o0.gen ≤ o.gen ∧ (o.alive = true → o0.gen < o.gen)
variable {C : Cx} {Q : Exit → St → Prop} {st : St} {inj : Inj} {a : Act} {w : World}
theorem SR.ren {π : Nat → Nat} (hπ : ∀ l, π (π l) = l) (hs : SR C st inj a w) (hm : ∀ l, π l ≠ l → RenOk (hget C.H0 l) (hget st.heap (π l))) :
    SR C ⟨renE π st.env, hren π st.heap⟩ (renI π inj) a w := by
  have hsig : (hget (hren π st.heap)) = renS π (hget st.heap) := by funext l; exact hget_hren hπ _ l
  refine ⟨fun t => ?_, hs.size, hs.defers, ?_, ?_⟩
  · show AR C.X (renI π inj) (hget (hren π st.heap)) w ((renE π st.env).get t) _
    rw [hsig, renE_get]
    exact AR.ren hπ _ _ (hs.env t)
  · show HR C.X (renI π inj) (hget (hren π st.heap)) w
    rw [hsig]
    exact HR.ren hπ hs.hr
  · show Ev C.D C.X C.inj0 (hget C.H0) C.w0 (renI π inj) (hget (hren π st.heap)) w
    rw [hsig]
    refine ⟨hs.ev.os, hs.ev.tape, hs.ev.output, hs.ev.dr, hs.ev.size, hs.ev.fz, hs.ev.blk, fun b hb => hs.ev.fp b ((renF hπ (fun _ => false) (fun _ => rfl) b).1 hb), fun l => ?_⟩
    by_cases hl : π l = l
    · have h0 := hs.ev.objs l
      show OEv (hget C.H0 l) (renO π (hget st.heap (π l))) (inj (π l) = C.inj0 l)
      rw [hl]
      refine ⟨by rw [renO_gen]; exact h0.1, fun ha hg => ?_⟩
      rw [renO_alive] at ha
      rw [renO_gen] at hg
      obtain ⟨h1, h2⟩ := h0.2 ha hg
      refine ⟨h1, ?_⟩
      rcases h2 with ⟨e, sz, es, es', q1, q2, q3⟩ | ⟨ks, vs, ks', vs', q1, q2⟩
      · exact .inl ⟨e, sz, es, renVs π es', q1, by rw [show st.sig l = hget st.heap l from rfl] at q2; rw [q2]; rfl, by rw [renVs_len]; exact q3⟩
      · exact .inr ⟨ks, vs, renVs π ks', renVs π vs', q1, by rw [show st.sig l = hget st.heap l from rfl] at q2; rw [q2]; rfl⟩
    · obtain ⟨h1, h2⟩ := hm l hl
      refine ⟨by show _ ≤ (renO π (hget st.heap (π l))).gen; rw [renO_gen]; exact h1, fun ha hg => ?_⟩
      have ha' : (hget st.heap (π l)).alive = true := by
        have : (renO π (hget st.heap (π l))).alive = true := ha
        rwa [renO_alive] at this
      have hg' : (hget C.H0 l).gen = (hget st.heap (π l)).gen := by
        have : (hget C.H0 l).gen = (renO π (hget st.heap (π l))).gen := hg
        rwa [renO_gen] at this
      have := h2 ha'
      omega
/-- two places change sides -/
def swp (a b l : Nat) : Nat := if l = a then b else if l = b then a else l
theorem swp_inv (a b l : Nat) : swp a b (swp a b l) = l := by
  unfold swp
  by_cases h1 : l = a
  · subst h1
    by_cases h2 : b = l
    · subst h2; simp
    · simp [h2]
  · by_cases h2 : l = b
    · subst h2; simp [h1]
    · simp [h1, h2]
theorem SR.swp {x y : Nat} (hs : SR C st inj a w) (h1 : RenOk (hget C.H0 x) (hget st.heap y)) (h2 : RenOk (hget C.H0 y) (hget st.heap x)) : SR C ⟨renE (swp x y) st.env, hren (swp x y) st.heap⟩ (renI (swp x y) inj) a w := by
  refine hs.ren (swp_inv x y) fun l hl => ?_
  unfold Ab.swp at hl ⊢
  by_cases e1 : l = x
  · subst e1; simpa using h1
  · by_cases e2 : l = y
    · subst e2
      by_cases e3 : l = x
      · exact absurd e3 e1
      · simpa [e3] using h2
    · simp [e1, e2] at hl
theorem awp_swp {c : Code} (x y : Nat) (h1 : RenOk (hget C.H0 x) (hget st.heap y)) (h2 : RenOk (hget C.H0 y) (hget st.heap x)) (h : AWp C c Q ⟨renE (swp x y) st.env, hren (swp x y) st.heap⟩) : AWp C c Q st :=
  fun inj a w hs => h _ a w (hs.swp h1 h2)

/-! ### families under an exchange of a plain place and a member -/
section
variable {α : Type} {h : List (Nat × AO)} {f i d e sz G : Nat} {enc : α → PV} {ll : List (List α)}
theorem hget_swp (x y : Nat) (h : List (Nat × AO)) (l : Nat) : hget (hren (swp x y) h) l = renO (swp x y) (hget h (swp x y l)) := hget_hren (swp_inv x y) h l
theorem swp_fx_ne {j : Nat} (hd : d < 1048576) (hj : j ≠ i) : swp d (fx f i) (fx f j) = fx f j := by
  unfold swp
  have h1 : ¬ fx f j = d := fun e => fx_low hd e.symm
  have h2 : ¬ fx f j = fx f i := by rw [fx_inj]; exact hj
  rw [if_neg h1, if_neg h2]
theorem renVs_p_inv {π : Nat → Nat} : ∀ {es : List AV} {xs : List PV}, renVs π es = List.map AV.p xs → es = List.map AV.p xs
  | [], [], _ => rfl
  | [], _ :: _, h => by simp [renVs] at h
  | _ :: _, [], h => by simp [renVs] at h
  | c :: es, x :: xs, h => by
    simp only [renVs, List.map_cons, List.cons.injEq] at h
    obtain ⟨h1, h2⟩ := h
    rw [renVs_p_inv h2, List.map_cons]
    congr 1
    cases c <;> simp_all [renV]
theorem renO_pure {π : Nat → Nat} {o : AO} {xs : List PV} : (renO π o = .arr e sz G (List.map AV.p xs)) = (o = .arr e sz G (List.map AV.p xs)) := by
  rw [eq_iff_iff]
  constructor
  · intro h
    obtain ⟨es0, rfl, h2⟩ := renO_arr h
    rw [renVs_p_inv h2.symm]
  · rintro rfl
    simp only [renO, renVs_p]
theorem swp_hasFam_len (hd : d < 1048576) : hasFam (hren (swp d (fx f ll.length)) h) f e sz G enc ll = hasFam h f e sz G enc ll := by
  unfold hasFam
  rw [eq_iff_iff]
  constructor
  · intro H j x hx
    have hj := (List.getElem?_eq_some_iff.1 hx).1
    have := H j x hx
    rw [hget_swp, swp_fx_ne hd (by omega), renO_pure] at this
    exact this
  · intro H j x hx
    have hj := (List.getElem?_eq_some_iff.1 hx).1
    rw [hget_swp, swp_fx_ne hd (by omega), renO_pure]
    exact H j x hx
theorem swp_famR_len (hd : d < 1048576) : renVs (swp d (fx f ll.length)) (famR f e sz G enc ll) = famR f e sz G enc ll := by
  apply List.ext_getElem?
  intro j
  rw [renVs_map, List.getElem?_map, famR_get]
  cases hx : ll[j]? with
  | none => rfl
  | some x =>
    have hj := (List.getElem?_eq_some_iff.1 hx).1
    simp only [Option.map_some, renV, swp_fx_ne hd (show j ≠ ll.length by omega)]
theorem swp_low {k : Nat} (h1 : (k = d) = False) (h2 : k < 1048576) : swp d (fx f i) k = k := by
  replace h1 : ¬ k = d := of_eq_false h1
  unfold swp
  have : ¬ k = fx f i := fx_low h2
  rw [if_neg h1, if_neg this]
theorem swp_here : swp d (fx f i) (fx f i) = d := by unfold swp; split <;> simp_all
theorem swp_there : swp d (fx f i) d = fx f i := by unfold swp; simp
end
end Go.Ab
/-
  Part 37: how families are reckoned.
-/
namespace Go.Ab
open Go
set_option linter.unusedVariables false
section
variable {α : Type} {h : List (Nat × AO)} {f e sz G : Nat} {enc : α → PV} {ll : List (List α)}
theorem alive_ite (c : Prop) [Decidable c] (a b : AO) : (if c then a else b).alive = if c then a.alive else b.alive := by split <;> rfl
end
theorem renE_cons (π : Nat → Nat) (t : Nat) (v : AV) (r : Env) : renE π ((t, v) :: r) = (t, renV π v) :: renE π r := rfl
theorem renE_nil (π : Nat → Nat) : renE π [] = [] := rfl
theorem take_all_of {β : Type} {l : List β} {n : Nat} (h : l.length = n) : l.take n = l := List.take_of_length_le (by omega)
theorem slc_encL {β : Type} (l : List PV) (f : β → PV) (x : List β) : (PV.slc l = encL f x) = (l = List.map f x) := by simp [encL]
attribute [simp] slc_encL
attribute [go_sem] take_all_of slc_encL lit_ne_fx fx_ne_lit fx_inj famR_get famR_len famR_nil famL_nil famL_low famL_fx get_at_len Option.elim_some Option.elim_none hasFam_low hasFam_same hasFamX_low hasFamX_here hasFamX_same famDead_none famKeep_low famKeep_nil famKeep_same hasKeys_low hasKeys_same isMem_arr lenEq_set lenEq_rep lenEq_of memEq_self memEq_rep memEq_snoc' keysIn_famL leHeap_fam_eq leHeap_fam_set leHeap_fam_snocY LeVs_fam_eq LeVs_fam_set LeVs_fam_elem LeVs_fam_snocY alive_ite hget_swp renV renVs renO renVs_p renVs_app renVs_rep renE_cons renE_nil swp_hasFam_len swp_famR_len swp_low swp_here swp_there RenOk
variable {C : Cx} {Q : Exit → St → Prop} {st : St}
end Go.Ab
namespace Go.Ab
open Go
section
variable {α : Type} {h h' H0 rest : List (Nat × AO)} {f e sz G : Nat} {enc : α → PV}
end
end Go.Ab
namespace Go.Ab
open Go
section
variable {α : Type} {h h' H0 rest : List (Nat × AO)} {f e sz G : Nat} {enc : α → PV} {ll : List (List α)}
end
end Go.Ab
namespace Go.Ab
open Go
set_option linter.unusedVariables false
section
variable {C : Cx} {Q : Exit → St → Prop} {st : St}
end
end Go.Ab
/-
  Part 38: drawn regions that touch families: what the events touch, in numbers.
-/
namespace Go.Ab
open Go
set_option linter.unusedVariables false
theorem plc_exists : ∃ p : Nat → Nat, (∀ k, k < 1048576 → p k = k) ∧ ∀ f i, f < 1048576 → p (fx f i) = 1048576 + f := by
  refine ⟨fun l => open Classical in if l < 1048576 then l else if h : ∃ f i, f < 1048576 ∧ l = fx f i then 1048576 + h.choose else 0, fun k hk => if_pos hk, fun f i hf => ?_⟩
  have h1 : ¬ fx f i < 1048576 := fun h => fx_low h rfl
  have h2 : ∃ f' i', f' < 1048576 ∧ fx f i = fx f' i' := ⟨f, i, hf, rfl⟩
  simp only [h1, if_false]
  rw [dif_pos h2]
  obtain ⟨i', h3, h4⟩ := h2.choose_spec
  by_cases hn : f = h2.choose
  · rw [← hn]
  · rw [fx_ne hf h3 hn] at h4; exact h4.elim
noncomputable def plc : Nat → Nat := Classical.choose plc_exists
theorem plc_lit {k : Nat} (h : k < 1048576) : plc k = k := (Classical.choose_spec plc_exists).1 k h
theorem plc_fx {f i : Nat} (h : f < 1048576) : plc (fx f i) = 1048576 + f := (Classical.choose_spec plc_exists).2 f i h
def shOf (p : Nat → Nat) (e : Evt) : Option Nat × List Nat := (e.wr.map p, e.reads.map p)
def shOkB (x y : Option Nat × List Nat) : Bool :=
  (match x.1 with
   | some l => !y.2.contains l && y.1 != some l
   | none => true) && (match y.1 with
   | some l => !x.2.contains l
   | none => true)
def shsOk (ops : Array Oper) (es : List (Option Nat × List Nat)) : Bool :=
  let A := ancN ops ops.size
  (List.range ops.size).all fun j => (List.range j).all fun i => isAnc A j i ||
    (match es[i]?, es[j]? with
     | some x, some y => shOkB x y
     | _, _ => true)
theorem shOkB_ev {p : Nat → Nat} {x y : Evt} (h : shOkB (shOf p x) (shOf p y) = true) : evOkB x y = true := by
  unfold shOkB shOf at h
  unfold evOkB
  simp only [Bool.and_eq_true] at h ⊢
  obtain ⟨h1, h2⟩ := h
  constructor
  · cases hx : x.wr with
    | none => rfl
    | some l =>
      rw [hx] at h1
      simp only [Option.map_some, Bool.and_eq_true, Bool.not_eq_true', bne_iff_ne, ne_eq] at h1 ⊢
      obtain ⟨q1, q2⟩ := h1
      refine ⟨?_, fun e => q2 (by rw [e]; rfl)⟩
      cases hc : y.reads.contains l with
      | false => rfl
      | true =>
        have : (y.reads.map p).contains (p l) = true := by
          simp only [List.contains_iff_mem, List.mem_map] at hc ⊢
          exact ⟨l, hc, rfl⟩
        rw [this] at q1; cases q1
  · cases hy : y.wr with
    | none => rfl
    | some l =>
      rw [hy] at h2
      simp only [Option.map_some, Bool.not_eq_true'] at h2 ⊢
      cases hc : x.reads.contains l with
      | false => rfl
      | true =>
        have : (x.reads.map p).contains (p l) = true := by
          simp only [List.contains_iff_mem, List.mem_map] at hc ⊢
          exact ⟨l, hc, rfl⟩
        rw [this] at h2; cases h2
theorem evsOk_sh {ops : Array Oper} {es : List Evt} {p : Nat → Nat} (h : shsOk ops (es.map (shOf p)) = true) : evsOk ops es = true := by
  simp only [shsOk, evsOk, List.all_eq_true, List.mem_range, Bool.or_eq_true] at h ⊢
  intro j hj i hi
  rcases h j hj i hi with h1 | h1
  · exact .inl h1
  · right
    rw [List.getElem?_map, List.getElem?_map] at h1
    cases hx : es[i]? with
    | none => rfl
    | some x =>
      cases hy : es[j]? with
      | none => rfl
      | some y =>
        rw [hx, hy] at h1
        exact shOkB_ev h1
theorem evsOk_acc {ops : Array Oper} {acc : List Evt} {sh : List (Option Nat × List Nat)} (hsh : acc.map (shOf plc) = sh) (hev : shsOk ops sh.reverse = true) : evsOk ops acc.reverse = true := by
  subst hsh
  rw [← List.map_reverse] at hev
  exact evsOk_sh hev
variable {C : Cx} {Q : Exit → St → Prop} {st : St}
theorem ydS {l : Array Oper} {acc : List Evt} {sh : List (Option Nat × List Nat)} (h : Q .normal st) (hsh : acc.map (shOf plc) = sh := by simp only [List.map_cons, List.map_nil, shOf, Evt.wr, Option.map_some, Option.map_none, plc_lit, plc_fx, seval, go_sem]; exact rfl) (hev : shsOk l sh.reverse = true := by kernel_rfl) : DGo C l [] st acc (DK C l Q) := DGo.fin (evsOk_acc hsh hev) h
theorem ydlS {l : Array Oper} {r : List Oper} {acc : List Evt} {sh : List (Option Nat × List Nat)} (h : AL C l r Q st) (hsh : acc.map (shOf plc) = sh := by simp only [List.map_cons, List.map_nil, shOf, Evt.wr, Option.map_some, Option.map_none, plc_lit, plc_fx, seval, go_sem]; exact rfl) (hev : shsOk l sh.reverse = true := by kernel_rfl) : DGo C l [] st acc (DKL C l r Q) := DGo.done ⟨evsOk_acc hsh hev, h⟩
end Go.Ab
/-
  Part 39: what the library collects of an iterator over a slice of structs is a new own object.
-/
namespace Go.Ab
variable {D : Prop}
open Go
set_option linter.unusedVariables false
set_option linter.unusedSimpArgs false

/-- the slice value sv holds n elements with the cells news, in a block below n₀; or there are none -/
def CellsAt (n₀ : Nat) (W : World) (sv : Value) (n : Nat) (news : List Value) : Prop :=
  (∃ a cap, sv = .slice a 0 cap ∧ n = 0) ∨ ∃ b off cap, sv = .slice (some ⟨b, off, none⟩) n cap ∧ b < n₀ ∧ ∀ j u, news[j]? = some u → W.cell? ⟨b, off + j, none⟩ = some u
theorem CellsAt.below {n₀ n : Nat} {A B : World} (h : RowKit.Below n₀ A B) {sv : Value} {news : List Value} : CellsAt n₀ A sv n news → CellsAt n₀ B sv n news
  | .inl e => .inl e
  | .inr ⟨b, off, cap, e, hb, hc⟩ => .inr ⟨b, off, cap, e, hb, fun j u hj => (h.cell (p := ⟨b, off + j, none⟩) hb).trans (hc j u hj)⟩

variable {C : Cx} {Q : Exit → St → Prop} {st : St}
end Go.Ab
/-
  Part 40: a builder of a string: what its methods do, exactly.
-/
set_option linter.unusedVariables false
set_option linter.unusedSimpArgs false
namespace Go.Lib
open Go.RowKit
section
variable {P : Program} (w : World)
end
end Go.Lib
namespace Go.Proofs
open Go.Shelf Go.RowKit
variable {P : Program} {ρ : Ren}
end Go.Proofs
namespace Go.Lib
end Go.Lib
namespace Go.Proofs
open Go.Shelf Go.RowKit
variable {P : Program} {ρ : Ren}
end Go.Proofs
/-
  Part 41: a builder as two own objects: its struct and its bytes.
-/
namespace Go.Ab
variable {D : Prop}
open Go
set_option linter.unusedVariables false
set_option linter.unusedSimpArgs false

/-- bytes as elements -/
def bytesA (bs : List UInt8) : List AV := bs.map fun c => .p (.int .u8 ((c.toNat : Nat) : Int))
variable {C : Cx} {Q : Exit → St → Prop} {st : St}
end Go.Ab
/-
  Part 42: short rules for builders; the table of math/bits.
-/
namespace Go.Ab
variable {D : Prop}
open Go
set_option linter.unusedVariables false
set_option linter.unusedSimpArgs false
variable {C : Cx} {Q : Exit → St → Prop} {st : St}
@[go_sem] theorem bytesA_nil : bytesA [] = [] := rfl
/-! ### the table of math/bits -/
theorem tab_eval {C : Cx} {st : St} {inj : Inj} {a : Act} {w : World} (hs : SR C st inj a w) {g : Nat} (hg : C.P.globalNamed "math/bits.deBruijn32tab" = some g) : RowAt (fun b => C.X b ∨ F inj st.sig b) w g 0 (tabNs.map (Value.int .u8)) := tab_ev hs.ev g hg
/-- a place of the table -/
theorem AL_tab {ops : Array Oper} {o : Oper} {rest : List Oper} {t te g : Nat} {x : Operand} {k : IntKind} {i : Nat} (hgn : C.P.globalNamed "math/bits.deBruijn32tab" = some g) (ho : o.op = .indexAddr t (.global g) x) (hg : guardA ops st.env o = some true) (hd : dstOk C.N o = true)
    (hu : C.P.underlying t = some (.array 32 te)) (hte : tyOk C.P te = true) (hc : C.P.cellsOf te = 1) (hx : ev st.env x = .p (.int k (i : Int))) (hi : i < 32)
    (h : AL C ops rest Q ⟨putE st.env o.dst (.p (.imm [.int .u8 (tabNs.getD i 0)])), st.heap⟩) : AL C ops (o :: rest) Q st := by
  intro inj a w hs
  simp only [wpList, guard_sound hs hg, if_true]
  refine .inl ?_
  have hr := tab_eval hs hgn
  have he := hs.eval x
  rw [hx] at he
  simp only [AR, PR] at he
  have hsz := run_sizeOf_ok hte w
  rw [hc] at hsz
  have hrun : (Instr.indexAt t (.pointer (some ⟨g, 0, none⟩)) (a.eval x)).run C.P w = .ok (.pointer (some ⟨g, i, none⟩)) w := by
    rw [he]
    have h1 : ((i : Int) < 32) := by omega
    simp [Instr.indexAt, asIntOf, run_underlying hu, Instr.sureAddr, hi, h1, hsz, Addr.add_lit]
  have hlen : i < tabNs.length := by simpa [tabNs] using hi
  have hcell : PR (fun b => C.X b ∨ F inj st.sig b) w (.imm [.int .u8 (tabNs.getD i 0)]) (.pointer (some ⟨g, i, none⟩)) := by
    refine ⟨g, i, [.int .u8 (tabNs.getD i 0)], rfl, ⟨_, _, rfl, rfl, rfl⟩, by intro u hu; have : u = .int .u8 (tabNs.getD i 0) := by simpa using hu
                                                                              subst this; rfl, hr.1, hr.2.1, ?_⟩
    intro j u hj
    cases j with
    | zero =>
      simp only [List.getElem?_cons_zero, Option.some.injEq] at hj
      subst hj
      have := hr.2.2 i (.int .u8 (tabNs.getD i 0)) (by rw [List.getElem?_map, List.getD_eq_getElem?_getD, List.getElem?_eq_getElem hlen]; rfl)
      simpa using this
    | succ j => simp at hj
  obtain ⟨dst, op, ty, pos, af, gd⟩ := o
  simp only at ho
  subst ho
  refine wp_val (s := Instr.indexAt t (a.eval (.global g)) (a.eval x)) rfl hrun ?_
  · exact h inj _ _ (hs.put (u := none) hd hs.hr (Ev.refl _ _ _ _) hcell)
theorem zTab {ops : Array Oper} {o : Oper} {rest : List Oper} {t te g : Nat} {x : Operand} {k : IntKind} (i : Nat) (hgn : C.P.globalNamed "math/bits.deBruijn32tab" = some g) (hu : C.P.underlying t = some (.array 32 te)) (hi : i < 32) (hx : ev st.env x = .p (.int k (i : Int)))
    (h : AL C ops rest Q ⟨putE st.env o.dst (.p (.imm [.int .u8 (tabNs.getD i 0)])), st.heap⟩) (hte : tyOk C.P te = true := by kernel_rfl) (hc : C.P.cellsOf te = 1 := by kernel_rfl)
    (ho : o.op = .indexAddr t (.global g) x := by rfl) (hg : guardA ops st.env o = some true := by exact guard_none rfl) (hd : dstOk C.N o = true := by rfl) : AL C ops (o :: rest) Q st := AL_tab hgn ho hg hd hu hte hc hx hi h
/-- the place in the table -/
def tzI (n : Nat) : Nat := (n &&& (4294967296 - n)) * 125613361 % 4294967296 / 134217728
/-- the number of zeros at the end of 32 bits -/
def tz32 (n : Nat) : Int := if n = 0 then 32 else tabNs.getD (tzI n) 0
theorem tzI_lt (n : Nat) : tzI n < 32 := by unfold tzI; omega
theorem wrapU (n : Nat) : IntKind.u32.wrap (n : Int) = ((n % 4294967296 : Nat) : Int) := by
  simp only [IntKind.wrap, IntKind.signed, IntKind.bits]
  simp only [Bool.false_and, Bool.false_eq_true, if_false]
  rw [show ((2 : Int) ^ 32) = 4294967296 from rfl]
  omega
theorem tz_idx {n : Nat} (h0 : n ≠ 0) (h : n < 4294967296) : Int.fdiv (IntKind.u32.wrap ((IntKind.u32.wrap ((BitVec.ofInt 32 (n : Int) &&& BitVec.ofInt 32 (IntKind.u32.wrap (0 - (n : Int)))).toNat : Int)) * 125613361)) (2 ^ (min 27 32)) = ((tzI n : Nat) : Int) := by
  have e1 : IntKind.u32.wrap (0 - (n : Int)) = ((4294967296 - n : Nat) : Int) := by
    simp only [IntKind.wrap, IntKind.signed, IntKind.bits]
    simp only [Bool.false_and, Bool.false_eq_true, if_false]
    rw [show ((2 : Int) ^ 32) = 4294967296 from rfl]
    omega
  rw [e1, bv_lt, BitVec.toNat_and, bv_nat h, bv_nat (a := 4294967296 - n) (by omega)]
  have e2 : ((n &&& (4294967296 - n) : Nat) : Int) * 125613361 = (((n &&& (4294967296 - n)) * 125613361 : Nat) : Int) := by simp
  rw [e2, wrapU]
  unfold tzI
  exact fdiv24 _ 27 (by omega)
theorem tab_le : ∀ i, i < 32 → 0 ≤ tabNs.getD i 0 ∧ tabNs.getD i 0 < 32 := by decide
theorem wrap_i64t {n : Nat} : IntKind.i64.wrap (tabNs.getD (tzI n) 0) = tabNs.getD (tzI n) 0 := by
  have h := tab_le (tzI n) (tzI_lt n)
  exact wrap_i64 (by omega) (by omega)
end Go.Ab
/-
  Part 43: copy of a list of numbers into an array of three.
-/
namespace Go.Ab
variable {D : Prop}
open Go
set_option linter.unusedVariables false
set_option linter.unusedSimpArgs false
variable {X : Nat → Prop} {inj : Inj} {σ : Nat → AO} {w : World} {P : Program}
/-- cells that are put into an element of an own object -/
theorem cells_sound (h : HR X inj σ w) {l g i off e sz b c : Nat} {es : List AV} {x y v : AV} {uv : Value} (ho : σ l = .arr e sz g es) (a4 : inj l = some (b, c)) (hx : es[i]? = some x) (hp : storePart x off v = some y) (hv : AR X inj σ w v uv) :
    ∃ w', (storeCells ⟨b, i * sz + off, none⟩ uv.cells.toList).run P w = .ok () w' ∧ HR X inj (upd σ (some (l, .arr e sz g (es.set i y)))) w' ∧ Ev D X inj σ w inj (upd σ (some (l, .arr e sz g (es.set i y)))) w' := by
  obtain ⟨vs, o1, o2, o3, o4⟩ := (ho ▸ h.obj l _ rfl : OR X inj σ w l (.arr e sz g es))
  obtain ⟨u, hu, hau⟩ := o1.get hx
  have hum : u ∈ vs := List.mem_of_getElem? hu
  have hone : oneAll u.cells.toList := fun c hc => o3 c (List.mem_flatMap.2 ⟨u, hum, hc⟩)
  obtain ⟨s1, s2, s3, u', s4, s5, s6⟩ := storePart_sound hau hv (o2 u hum) hone hp
  rcases o4 with ⟨o4, _⟩ | ⟨b', c', cur, p1, p2, p3, p4, p5, p6, p7⟩
  · rw [a4] at o4; cases o4
  rw [a4] at p1; cases p1
  have hi : i < vs.length := (List.getElem?_eq_some_iff.1 hu).1
  have hel : es.length = vs.length := o1.length
  have hmul : (i + 1) * sz ≤ vs.length * sz := Nat.mul_le_mul_right _ hi
  have hmul2 : es.length * sz ≤ c * sz := Nat.mul_le_mul_right _ p4
  rw [hel] at hmul2
  rw [Nat.add_mul, Nat.one_mul] at hmul
  have hvl : uv.cells.toList.length = v.cells.length := by rw [Array.length_toList, s3]
  have hst := run_storeCells_at P b (i * sz + off) e uv.cells.toList 0 cur w p3 (by rw [hvl, p6]; omega) s2
  simp only [Nat.add_zero] at hst
  have hct : cur.toList.length = c * sz := by rw [Array.length_toList, p6]
  have hcurlen : i * sz + off + uv.cells.toList.length ≤ cur.toList.length := by rw [hvl, hct]; omega
  have hup := h.update (D := D) (w' := w.setRow b (splice cur.toList (i * sz + off) uv.cells.toList).toArray) (l := l) (o := .arr e sz g es) (o' := .arr e sz g (es.set i y)) (x := inj l) ho rfl rfl rfl (fun _ => Nat.le_refl _) (by simp)
    (fun a _ => frozen_setRow w b _ a) (fun k hk hne => setRow_other w b k _ (fun e => hne rfl c (by rw [e]; exact a4)))
    (fun b1 c1 h1 => .inr ⟨rfl, c1, h1⟩) ⟨Nat.le_refl _, fun _ _ => ⟨rfl, .inl ⟨e, sz, es, _, rfl, rfl, by simp⟩⟩⟩
  rw [inj_same] at hup
  obtain ⟨hev, hhr⟩ := hup
  refine ⟨_, hst, hhr ?_, hev⟩
  refine ⟨vs.set i u', (ARs.ev hev h.xlt es vs o1).set (AR.ev hev h.xlt y u' s4), ?_, ?_, .inr ⟨b, c, _, a4, p2, setRow_heap w b cur _ e _ p3, by simpa using p4, p5, ?_, ?_⟩⟩
  · intro q hq
    rcases List.mem_or_eq_of_mem_set hq with h1 | h1
    · exact o2 q h1
    · rw [h1, ← Array.length_toList, s5, length_splice _ _ _ (by rw [hvl, show u.cells.toList.length = sz by rw [Array.length_toList, o2 u hum]]; exact s1), Array.length_toList, o2 u hum]
  · intro q hq
    obtain ⟨z, hz, hq⟩ := List.mem_flatMap.1 hq
    rcases List.mem_or_eq_of_mem_set hz with h1 | h1
    · exact o3 q (List.mem_flatMap.2 ⟨z, h1, hq⟩)
    · rw [h1] at hq; exact s6 q hq
  · rw [List.size_toArray, length_splice _ _ _ hcurlen, hct]
  · rw [flat_set o2 hu s5 (by rw [hvl]; exact s1), ← p7, List.length_set]
    apply List.ext_getElem?
    intro k
    have hA : i * sz + off + uv.cells.toList.length ≤ (cur.toList.take (es.length * sz)).length := by
      rw [List.length_take, hct, hel, hvl]; omega
    rw [List.getElem?_take, get_splice _ _ _ hcurlen, get_splice _ _ _ hA, List.getElem?_take]
    by_cases hk : k < es.length * sz
    · simp only [hk, if_true]
    · simp only [hk, if_false]
      rw [if_neg (by rw [hel] at hk; omega), if_neg (by rw [hel] at hk; rw [hvl]; omega)]
theorem upd_self {l : Nat} {o : AO} (h : σ l = o) : upd σ (some (l, o)) = σ := by
  funext k
  simp only [upd, supd]
  by_cases hk : k = l
  · subst hk; simp [h]
  · simp [hk]
theorem builtin_copy (at_ : Array TypeId) (ty : TypeId) (cs : Array Bool) (args : Array Value) : builtin .copy at_ ty cs args = (do pure (Next.value (← Builtin.copy_ at_ ty args))) := rfl
def int3 (a b c : Int) : AV := .p (.agg [.int .i64 a, .int .i64 b, .int .i64 c])
/-- the cells that a copy puts -/
theorem copy_part (c0 c1 c2 : Int) (L : List Int) (h : L ≠ []) : storePart (int3 c0 c1 c2) 0 (.p (.agg ((L.take 3).map (PV.int .i64)))) = some (int3 (L.getD 0 c0) (L.getD 1 c1) (L.getD 2 c2)) := by
  cases L with
  | nil => exact absurd rfl h
  | cons a L =>
    cases L with
    | nil => rfl
    | cons b L =>
      cases L with
      | nil => rfl
      | cons c L =>
        have e : (a :: b :: c :: L).take 3 = [a, b, c] := rfl
        rw [e]; rfl
theorem AR_ints (L : List Int) (X : Nat → Prop) (inj : Inj) (σ : Nat → AO) (w : World) : AR X inj σ w (.p (.agg (L.map (PV.int .i64)))) (.agg (L.map (Value.int .i64)).toArray) := by
  simp only [AR, PR]
  refine ⟨L.map (Value.int .i64), rfl, ?_, ?_⟩
  · induction L with
    | nil => simp [PRs]
    | cons a L ih => exact ⟨_, _, rfl, rfl, ih⟩
  · intro u hu
    obtain ⟨a, _, rfl⟩ := List.mem_map.1 hu
    rfl
theorem put_same {a : Act} {d : Nat} {v : Value} (h : d < a.tmps.size) : (a.put (some d) v).eval (.tmp d) = v := by
  simp [Act.eval, Act.put, h]
theorem put_other {a : Act} {d t : Nat} {v : Value} (h : t ≠ d) : (a.put (some d) v).eval (.tmp t) = a.eval (.tmp t) := by
  simp [Act.eval, Act.put, Array.getElem?_setIfInBounds_ne (Ne.symm h)]
variable {C : Cx} {Q : Exit → St → Prop} {st : St}
/-- s[:] of an array, and copy into it -/
theorem AL_cpa {ops : Array Oper} {o1 o2 o3 : Oper} {rest : List Oper} {tA te dT sT : TypeId} {x y : Operand} {d1 d2 l g : Nat} {c0 c1 c2 : Int} {L : List Int}
    (h1 : o1.op = .slice tA x none none none) (hd1 : o1.dst = some d1) (h2 : o2.op = .move y) (hd2 : o2.dst = some d2) (h3 : o3.op = .call ⟨.builtin .copy, #[.tmp d1, .tmp d2], #[dT, sT]⟩)
    (g1 : o1.guard = none) (g2 : o2.guard = none) (g3 : o3.guard = none) (n1 : dstOk C.N o1 = true) (n2 : dstOk C.N o2 = true) (n3 : dstOk C.N o3 = true) (hne : d1 ≠ d2)
    (hu : C.P.underlying tA = some (.array 3 te)) (hte : tyOk C.P te = true) (hc : C.P.cellsOf te = 1) (hdT : C.P.underlying dT = some (.slice te)) (hy : y ≠ .tmp d1)
    (hx : ev st.env x = .loc l g 0 0) (ho : hget st.heap l = .arr tA 3 g [int3 c0 c1 c2]) (hyv : ev st.env y = .p (.slc (L.map (PV.int .i64))))
    (h : AL C ops rest Q ⟨putE (putE (putE st.env o1.dst .any) o2.dst (.p (.slc (L.map (PV.int .i64))))) o3.dst .any, hset st.heap l (.arr tA 3 g [int3 (L.getD 0 c0) (L.getD 1 c1) (L.getD 2 c2)])⟩) : AL C ops (o1 :: o2 :: o3 :: rest) Q st := by
  intro inj a w hs
  have hg : ∀ (o : Oper) (st' : St), o.guard = none → guardA ops st'.env o = some true := fun o st' e => by unfold guardA; rw [e]
  have hloc := hs.eval x
  rw [hx] at hloc
  obtain ⟨_, a2⟩ := hloc
  have hσ : st.sig l = .arr tA 3 g [int3 c0 c1 c2] := ho
  obtain ⟨_, a3⟩ := a2 _ hσ
  obtain ⟨b, c, a4, hptr⟩ := a3 rfl tA 3 _ rfl
  simp only [Nat.zero_mul, Nat.zero_add] at hptr
  -- the slice
  have r1 : (Instr.sliceAt tA (a.eval x) none none none).run C.P w = .ok (.slice (some ⟨b, 0, none⟩) 3 3) w := by
    rw [hptr]
    simp [Instr.sliceAt, run_underlying hu, Instr.sureAddr, Instr.sliceBounds, run_sizeOf_ok hte w, Addr.add_lit]
  simp only [wpList, guard_sound hs (hg o1 st g1), if_true]
  refine .inl ?_
  obtain ⟨dst1, op1, ty1, pos1, af1, gd1⟩ := o1
  simp only at h1 hd1
  subst h1 hd1
  refine wp_val (s := Instr.sliceAt tA (a.eval x) none none none) rfl r1 ?_
  have hs1 := hs.put (o := ⟨some d1, .slice tA x none none none, ty1, pos1, af1, gd1⟩) (v := .any) (val := .slice (some ⟨b, 0, none⟩) 3 3) (u := none) n1 hs.hr (Ev.refl _ _ _ _) trivial
  simp only [putH] at hs1
  -- the source
  have hd1N : d1 < C.N := by simpa [dstOk] using n1
  have e1 : ∀ t, t ≠ d1 → (a.put (some d1) (.slice (some ⟨b, 0, none⟩) 3 3)).tmps.getD t undef = a.tmps.getD t undef := fun t ht => by
    simp [Act.put, Array.getElem?_setIfInBounds_ne (Ne.symm ht)]
  have hy1 : ev (putE st.env (some d1) .any) y = .p (.slc (L.map (PV.int .i64))) := by
    cases y with
    | tmp t =>
      have ht : t ≠ d1 := fun e => hy (by rw [e])
      simp only [ev, putE, Env.get]
      rw [if_neg (Ne.symm ht)]
      exact hyv
    | const v => exact hyv
    | global g => exact hyv
    | func f => exact hyv
  simp only [wpList, guard_sound hs1 (hg o2 _ g2), if_true]
  refine .inl ?_
  obtain ⟨dst2, op2, ty2, pos2, af2, gd2⟩ := o2
  simp only at h2 hd2
  subst h2 hd2
  have hsrc := hs1.eval y
  simp only at hsrc
  rw [hy1] at hsrc
  refine wp_val (s := pure ((a.put (some d1) (.slice (some ⟨b, 0, none⟩) 3 3)).eval y)) (by simp [execOp]) (Sem.run_pure _ _ _) ?_
  have hs2 := hs1.put (o := ⟨some d2, .move y, ty2, pos2, af2, gd2⟩) (v := .p (.slc (L.map (PV.int .i64)))) (u := none) n2 hs1.hr (Ev.refl _ _ _ _) hsrc
  simp only [putH] at hs2
  simp only [AR, PR] at hsrc
  obtain ⟨sa, cap, vs, hva, hcap, hvs, hsl⟩ := hsrc
  have hvs' := PRs_ints hvs
  subst hvs'
  rw [List.length_map] at hva hcap
  generalize hV : (a.put (some d1) (.slice (some ⟨b, 0, none⟩) 3 3)).eval y = vy at *
  subst hva
  -- the copy
  simp only [wpList, guard_sound hs2 (hg o3 _ g3), if_true]
  refine .inl ?_
  obtain ⟨dst3, op3, ty3, pos3, af3, gd3⟩ := o3
  simp only at h3
  subst h3
  have hd2N : d2 < C.N := by simpa [dstOk] using n2
  have v1 : ((a.put (some d1) (.slice (some ⟨b, 0, none⟩) 3 3)).put (some d2) (.slice sa L.length cap)).eval (.tmp d1) = .slice (some ⟨b, 0, none⟩) 3 3 := by
    rw [put_other hne]
    exact put_same (by rw [hs.size]; exact hd1N)
  have v2 : ((a.put (some d1) (.slice (some ⟨b, 0, none⟩) 3 3)).put (some d2) (.slice sa L.length cap)).eval (.tmp d2) = .slice sa L.length cap := put_same (by rw [hs1.size]; exact hd2N)
  have key : ∃ (rv : Value) (w' : World), (Builtin.copy_ #[dT, sT] ty3 #[.slice (some ⟨b, 0, none⟩) 3 3, .slice sa L.length cap]).run C.P w = .ok rv w' ∧ HR C.X inj (upd st.sig (some (l, .arr tA 3 g [int3 (L.getD 0 c0) (L.getD 1 c1) (L.getD 2 c2)]))) w' ∧ Ev C.D C.X inj st.sig w inj (upd st.sig (some (l, .arr tA 3 g [int3 (L.getD 0 c0) (L.getD 1 c1) (L.getD 2 c2)]))) w' := by
    obtain ⟨inf, hinf⟩ := Option.isSome_iff_exists.1 hte
    have hsize : inf.size = 1 := by
      unfold Program.cellsOf at hc; rw [hinf] at hc; simpa using hc
    have hinfs : (C.P.info? te).map (·.size) = some 1 := by rw [hinf]; simp [hsize]
    by_cases hL : L = []
    · subst hL
      refine ⟨goInt 0, w, ?_, ?_, ?_⟩
      · exact run_copy_none w dT sT ty3 te _ _ _ _ _ _ hdT hinfs rfl
      · have := upd_self hσ
        simp only [List.getD_nil] at this ⊢
        rw [this]; exact hs.hr
      · have := upd_self hσ
        simp only [List.getD_nil] at this ⊢
        rw [this]; exact Ev.refl _ _ _ _
    · obtain ⟨w', q1, q2, q3⟩ := cells_sound (D := C.D) (P := C.P) hs.hr hσ a4 (i := 0) (off := 0) (x := int3 c0 c1 c2) rfl (copy_part c0 c1 c2 L hL) (AR_ints (L.take 3) _ _ _ _)
      simp only [Nat.zero_mul, Nat.zero_add, List.set_cons_zero] at q1 q2 q3
      refine ⟨goInt (Nat.min L.length 3), w', ?_, q2, q3⟩
      rcases hsl with hsl | ⟨sb, so, sz, rfl, hcs, hone, hrow⟩
      · exact absurd (by simpa using hsl) hL
      · have hflat : flat (L.map (Value.int .i64)) = L.map (Value.int .i64) := by
          unfold flat
          rw [List.flatMap_map]
          have : ∀ l : List Int, (l.flatMap fun n => (Value.int .i64 n).cells.toList) = l.map (Value.int .i64) := by
            intro l
            induction l with
            | nil => rfl
            | cons n l ih => rw [List.flatMap_cons, ih]; rfl
          exact this L
        rw [hflat] at hrow
        have hcl : ((L.take 3).map (Value.int .i64)).length = Nat.min L.length 3 := by rw [List.length_map, List.length_take]; exact Nat.min_comm _ _
        have hload := run_loadCells_list (P := C.P) w ⟨sb, so, none⟩ ((L.take 3).map (Value.int .i64)) (fun j v hv => by
          rw [List.map_take, List.getElem?_take] at hv
          split at hv
          · have := hrow.2.2 j v hv
            simpa [Addr.add_lit] using this
          · cases hv)
        rw [hcl] at hload
        have hq1 : (storeCells ⟨b, 0, none⟩ (List.take 3 (L.map (Value.int .i64)))).run C.P w = .ok () w' := by
          rw [← List.map_take]
          exact q1
        simp [Builtin.copy_, run_underlying hdT, Builtin.lenOf, Builtin.firstCells, sizeOf, typeInfo, hinf, hsize, hload, hq1]
  obtain ⟨rv, w', k1, k2, k3⟩ := key
  have hexec : (execOp ((a.put (some d1) (.slice (some ⟨b, 0, none⟩) 3 3)).put (some d2) (.slice sa L.length cap)).eval ⟨dst3, .call ⟨.builtin .copy, #[.tmp d1, .tmp d2], #[dT, sT]⟩, ty3, pos3, af3, gd3⟩).run C.P w = .ok (Next.value rv) w' := by
    simp only [execOp, resolve, Sem.run_bind, Sem.run_pure, Result.andThen_ok, invoke, builtin_copy]
    have : (#[Operand.tmp d1, Operand.tmp d2] : Array Operand).map ((a.put (some d1) (.slice (some ⟨b, 0, none⟩) 3 3)).put (some d2) (.slice sa L.length cap)).eval = #[.slice (some ⟨b, 0, none⟩) 3 3, .slice sa L.length cap] := by
      simp [v1, v2]
    rw [this, k1]
    simp
  unfold Oper.wp
  rw [hexec]
  simp only [Oper.upon]
  refine h inj _ _ ?_
  have hs3 := hs2.put (o := ⟨dst3, .call ⟨.builtin .copy, #[.tmp d1, .tmp d2], #[dT, sT]⟩, ty3, pos3, af3, gd3⟩) (v := .any) (val := rv) (u := some (l, .arr tA 3 g [int3 (L.getD 0 c0) (L.getD 1 c1) (L.getD 2 c2)])) n3 k2 k3 trivial
  exact hs3
theorem zCpa {ops : Array Oper} {o1 o2 o3 : Oper} {rest : List Oper} {tA te dT sT : TypeId} {x y : Operand} {d1 d2 g : Nat} (l : Nat) (c0 c1 c2 : Int) (L : List Int)
    (hu : C.P.underlying tA = some (.array 3 te)) (hdT : C.P.underlying dT = some (.slice te))
    (h : AL C ops rest Q ⟨putE (putE (putE st.env o1.dst .any) o2.dst (.p (.slc (L.map (PV.int .i64))))) o3.dst .any, hset st.heap l (.arr tA 3 g [.p (.agg [.int .i64 (L.getD 0 c0), .int .i64 (L.getD 1 c1), .int .i64 (L.getD 2 c2)])])⟩)
    (h1 : o1.op = .slice tA x none none none := by rfl) (hd1 : o1.dst = some d1 := by rfl) (h2 : o2.op = .move y := by rfl) (hd2 : o2.dst = some d2 := by rfl) (h3 : o3.op = .call ⟨.builtin .copy, #[.tmp d1, .tmp d2], #[dT, sT]⟩ := by rfl)
    (g1 : o1.guard = none := by rfl) (g2 : o2.guard = none := by rfl) (g3 : o3.guard = none := by rfl) (n1 : dstOk C.N o1 = true := by rfl) (n2 : dstOk C.N o2 = true := by rfl) (n3 : dstOk C.N o3 = true := by rfl) (hne : d1 ≠ d2 := by decide)
    (hte : tyOk C.P te = true := by kernel_rfl) (hc : C.P.cellsOf te = 1 := by kernel_rfl) (hy : y ≠ .tmp d1 := by simp)
    (hx : ev st.env x = .loc l g 0 0 := by simp only [go_sem, seval, *]; all_goals first | exact rfl | exact ⟨rfl, rfl⟩)
    (ho : hget st.heap l = .arr tA 3 g [.p (.agg [.int .i64 c0, .int .i64 c1, .int .i64 c2])] := by simp only [go_sem, seval, *]; all_goals first | exact rfl | exact ⟨rfl, rfl⟩)
    (hyv : ev st.env y = .p (.slc (L.map (PV.int .i64))) := by simp only [go_sem, seval, *]; all_goals first | exact rfl | exact ⟨rfl, rfl⟩) : AL C ops (o1 :: o2 :: o3 :: rest) Q st :=
  AL_cpa h1 hd1 h2 hd2 h3 g1 g2 g3 n1 n2 n3 hne hu hte hc hdT hy hx ho hyv h
end Go.Ab
/-
  Part 44: a drawn region with calls that are walked in place, one after the other: its loads may be taken first.
-/
namespace Go.Ab
open Go
set_option linter.unusedVariables false
set_option linter.unusedSimpArgs false
/-- rows of cells that hold what they held -/
def RowsH (rows : List (Nat × List Value)) (w : World) : Prop := ∀ r ∈ rows, ∀ (j : Nat) (u : Value), r.2[j]? = some u → w.cell? ⟨r.1, j, none⟩ = some u
def QN (C : Cx) (Q : Exit → St → Prop) : Exit → Act → World → Prop := fun ex a w => ex = .normal ∧ lift C Q .normal a w
def HJ (C : Cx) (ops : Array Oper) (rows : List (Nat × List Value)) (Q : Exit → St → Prop) (fuel : Nat) (listed : Array Bool) (st : St) : Prop :=
  ∀ inj a w, SR C st inj a w → RowsH rows w → wpAnyH C.P .any ops (QN C Q) (RowsH rows) fuel listed a w
/-- place l held x at the start, and its cells are one of the rows -/
def Lk (C : Cx) (rows : List (Nat × List Value)) (l : Nat) : Prop := ∃ e sz g x b c u, hget C.H0 l = .arr e sz g [x] ∧ C.inj0 l = some (b, c) ∧ AR C.X C.inj0 (hget C.H0) C.w0 x u ∧ u.cells.size = sz ∧ (b, u.cells.toList) ∈ rows
/-- what is kept of the rows -/
def LkR (C : Cx) (Ls : List Nat) (r : Nat × List Value) : Prop := ∃ p ∈ Ls, ∃ e sz g x c u, hget C.H0 p = .arr e sz g [x] ∧ C.inj0 p = some (r.1, c) ∧ AR C.X C.inj0 (hget C.H0) C.w0 x u ∧ r.2 = u.cells.toList
variable {C : Cx} {Q : Exit → St → Prop} {st : St} {inj : Inj} {a : Act} {w : World}
theorem one_row {X : Nat → Prop} {inj : Inj} {σ : Nat → AO} {w : World} (h : HR X inj σ w) {l e sz g b c : Nat} {x : AV} (ho : σ l = .arr e sz g [x]) (hi : inj l = some (b, c)) :
    ∃ u, AR X inj σ w x u ∧ u.cells.size = sz ∧ ∀ (j : Nat) (v : Value), u.cells.toList[j]? = some v → w.cell? ⟨b, j, none⟩ = some v := by
  obtain ⟨vs, o1, o2, o3, o4⟩ := (ho ▸ h.obj l _ rfl : OR X inj σ w l (.arr e sz g [x]))
  simp only [ARs] at o1
  obtain ⟨u, r, rfl, hu, rfl⟩ := o1
  rcases o4 with ⟨_, h0⟩ | ⟨b', c', cur, p1, p2, p3, p4, p5, p6, p7⟩
  · cases h0
  rw [hi] at p1; cases p1
  refine ⟨u, hu, o2 u (by simp), fun j v hj => ?_⟩
  have hfl : flat [u] = u.cells.toList := by simp [flat]
  rw [hfl] at p7
  have hc : cur.toList[j]? = some v := by
    rw [← p7, List.getElem?_take] at hj
    split at hj
    · exact hj
    · cases hj
  simp only [World.cell?, p3]
  rw [← Array.getElem?_toList]
  exact hc
theorem awp_held {id : Nat} {l : List Oper} (Ls : List Nat) (hm : C.P.follows .mixedOrders = true) (hl : ∀ p ∈ Ls, ∃ e sz g x, hget st.heap p = .arr e sz g [x])
    (h : ∀ inj w hT rows, (∀ p ∈ Ls, Lk ⟨C.P, C.N, C.B, C.X, st.heap, inj, w, C.D, hT⟩ rows p) → (∀ r ∈ rows, LkR ⟨C.P, C.N, C.B, C.X, st.heap, inj, w, C.D, hT⟩ Ls r) → HJ ⟨C.P, C.N, C.B, C.X, st.heap, inj, w, C.D, hT⟩ l.toArray rows Q l.toArray.size (Array.replicate l.toArray.size false) st) : AWp C (.region id l.toArray true) Q st := by
  intro inj a w hs
  have hf : Fr C.D w { w with drawn := w.drawn + 1 } := ⟨rfl, rfl, rfl, fun _ => Nat.le_succ _, Nat.le_refl _, fun _ _ => rfl, fun _ _ => rfl⟩
  have hE : Ev C.D C.X inj st.sig w inj st.sig { w with drawn := w.drawn + 1 } := hf.ev
  have hs1 : SR C st inj a { w with drawn := w.drawn + 1 } := ⟨fun t => AR.ev hE hs.hr.xlt _ _ (hs.env t), hs.size, hs.defers, hs.hr.fr hf, hs.ev.trans hE⟩
  generalize hw1 : ({ w with drawn := w.drawn + 1 } : World) = w1 at hs1
  -- the rows
  have hrows : ∃ rows, RowsH rows w1 ∧ (∀ p ∈ Ls, Lk ⟨C.P, C.N, C.B, C.X, st.heap, inj, w1, C.D, tab_ev hs1.ev⟩ rows p) ∧ ∀ r ∈ rows, LkR ⟨C.P, C.N, C.B, C.X, st.heap, inj, w1, C.D, tab_ev hs1.ev⟩ Ls r := by
    clear h
    induction Ls with
    | nil => exact ⟨[], (by unfold RowsH; simp), (by simp), (by simp)⟩
    | cons p Ls ih =>
      obtain ⟨rows, r1, r2, r3⟩ := ih (fun q hq => hl q (by simp [hq]))
      obtain ⟨e, sz, g, x, hp⟩ := hl p (by simp)
      have hOR := hs1.hr.obj p _ hp
      have hinj : ∃ b c, inj p = some (b, c) := by
        obtain ⟨vs, o1, o2, o3, o4⟩ := hOR
        rcases o4 with ⟨_, h0⟩ | ⟨b', c', cur, p1, _⟩
        · cases h0
        · exact ⟨b', c', p1⟩
      obtain ⟨b, c, hi⟩ := hinj
      obtain ⟨u, u1, u2, u3⟩ := one_row hs1.hr hp hi
      refine ⟨(b, u.cells.toList) :: rows, ?_, ?_, ?_⟩
      · intro r hr j v hv
        rcases List.mem_cons.1 hr with rfl | hr
        · exact u3 j v hv
        · exact r1 r hr j v hv
      · intro q hq
        rcases List.mem_cons.1 hq with rfl | hq
        · exact ⟨e, sz, g, x, b, c, u, hp, hi, u1, u2, by simp⟩
        · obtain ⟨e', sz', g', x', b', c', u', k1, k2, k3, k4, k5⟩ := r2 q hq
          exact ⟨e', sz', g', x', b', c', u', k1, k2, k3, k4, by simp [k5]⟩
      · intro r hr
        rcases List.mem_cons.1 hr with rfl | hr
        · exact ⟨p, by simp, e, sz, g, x, c, u, hp, hi, u1, rfl⟩
        · obtain ⟨q, hq, rest⟩ := r3 r hr
          exact ⟨q, by simp [hq], rest⟩
  obtain ⟨rows, r1, r2, r3⟩ := hrows
  have hj := h inj w1 (tab_ev hs1.ev) rows r2 r3 inj a w1 ⟨hs1.env, hs1.size, hs1.defers, hs1.hr, Ev.refl _ _ _ _⟩ r1
  have hreg : (Code.region id l.toArray true).wp C.P (QN ⟨C.P, C.N, C.B, C.X, st.heap, inj, w1, C.D, tab_ev hs1.ev⟩ Q) a w := wp_region_held hm (by rw [hw1]; exact hj)
  refine wp_mono hreg ?_
  rintro e a' w' ⟨rfl, s, inj', hs', hq⟩
  exact ⟨s, inj', ⟨hs'.env, hs'.size, hs'.defers, hs'.hr, hs1.ev.trans hs'.ev⟩, hq⟩
/-- an operation, with another end and other exits -/
theorem op_wp_mono {P : Program} {o : Oper} {a : Act} {w : World} {K K' : Act → World → Prop} {Q Q' : Exit → Act → World → Prop} (h : ∀ a w, K a w → K' a w) (hq : ∀ c a w, Q (.panic c) a w → Q' (.panic c) a w) (hl : LetsOut Q → LetsOut Q')
    (hh : o.wp P a w K Q) : o.wp P a w K' Q' := by
  unfold Oper.wp at *
  generalize (execOp a.eval o).run P w = r at *
  cases r with
  | ok n w' =>
    cases n <;> simp only [Oper.upon] at hh ⊢ <;>
      first
        | exact h _ _ hh
        | exact Calls.mono hh (fun e w'' he => by cases e <;> first | exact h _ _ he | exact hq _ _ _ he | exact hl he)
        | exact Rows.mono hh (fun _ _ he => h _ _ he)
  | halt x w' => cases x <;> simp only [Oper.upon] at hh ⊢ <;> exact hq _ _ _ hh
theorem hj_take {ops : Array Oper} {rows : List (Nat × List Value)} {fuel : Nat} {listed : Array Bool} {i : Nat} {o : Oper} {y : AV} (hi : ops[i]? = some o) (hs : Region.noSelect ops = true) (hf : Region.free .any ops listed i = true) (hr : (Region.ready .any ops listed).contains i = true)
    (hg : o.guard = none) (hd : dstOk C.N o = true) (hy : ∀ inj a w, SR C st inj a w → RowsH rows w → ∃ v, (∀ w', RowsH rows w' → (execOp a.eval o).run C.P w' = .ok (.value v) w') ∧ AR C.X inj st.sig w y v)
    (h : HJ C ops rows Q fuel (listed.setIfInBounds i true) ⟨putE st.env o.dst y, st.heap⟩) : HJ C ops rows Q (fuel + 1) listed st := by
  intro inj a w hsr hR
  obtain ⟨v, h1, h2⟩ := hy inj a w hsr hR
  refine wpAnyH_take hi hs hf hr (fun c a w hq => by cases hq.1) (.inl ⟨by simp [Region.wanted, hg], h1⟩) hR ?_
  have := hsr.put (o := o) (v := y) (val := v) (u := none) hd hsr.hr (Ev.refl _ _ _ _) h2
  exact h inj _ w this hR
mutual
def rigidP : PV → Bool
  | .int _ _ => true
  | .bool _ => true
  | .str _ => true
  | .nilp => true
  | .nilf => true
  | .nili => true
  | .nilm => true
  | .agg cs => rigidPs cs
  | _ => false
def rigidPs : List PV → Bool
  | [] => true
  | p :: ps => rigidP p && rigidPs ps
end
mutual
theorem PR_rigid {X X' : Nat → Prop} {w w' : World} : ∀ (p : PV) {v v' : Value}, rigidP p = true → PR X w p v → PR X' w' p v' → v = v'
  | .int _ _, _, _, _, h, h' => by simp only [PR] at h h'; rw [h, h']
  | .bool _, _, _, _, h, h' => by simp only [PR] at h h'; rw [h, h']
  | .str _, _, _, _, h, h' => by simp only [PR] at h h'; rw [h, h']
  | .nilp, _, _, _, h, h' => by simp only [PR] at h h'; rw [h, h']
  | .nilf, _, _, _, h, h' => by simp only [PR] at h h'; rw [h, h']
  | .nili, _, _, _, h, h' => by simp only [PR] at h h'; rw [h, h']
  | .nilm, _, _, _, h, h' => by simp only [PR] at h h'; rw [h, h']
  | .agg cs, _, _, hr, h, h' => by
    simp only [PR] at h h'
    obtain ⟨vs, rfl, h1, _⟩ := h
    obtain ⟨vs', rfl, h2, _⟩ := h'
    rw [PRs_rigid cs (by simpa [rigidP] using hr) h1 h2]
  | .slc _, _, _, hr, _, _ => by cases hr
  | .nnil _, _, _, hr, _, _ => by cases hr
  | .clip _, _, _, hr, _, _ => by cases hr
  | .imm _, _, _, hr, _, _ => by cases hr
  | .mapv _ _, _, _, hr, _, _ => by cases hr
  | .func _ _, _, _, hr, _, _ => by cases hr
  | .tup _, _, _, hr, _, _ => by cases hr
theorem PRs_rigid {X X' : Nat → Prop} {w w' : World} : ∀ (ps : List PV) {vs vs' : List Value}, rigidPs ps = true → PRs X w ps vs → PRs X' w' ps vs' → vs = vs'
  | [], _, _, _, h, h' => by simp only [PRs] at h h'; rw [h, h']
  | p :: ps, _, _, hr, h, h' => by
    simp only [PRs] at h h'
    obtain ⟨v, r, rfl, h1, h2⟩ := h
    obtain ⟨v', r', rfl, h3, h4⟩ := h'
    simp only [rigidPs, Bool.and_eq_true] at hr
    rw [PR_rigid p hr.1 h1 h3, PRs_rigid ps hr.2 h2 h4]
end
/-- place p holds what it held -/
def Stb (C : Cx) (s : St) (p : Nat) : Prop := (∃ e sz g pv, hget C.H0 p = .arr e sz g [.p pv] ∧ hget s.heap p = .arr e sz g [.p pv] ∧ rigidP pv = true) ∨
  (∃ e sz g o g' off e1 sz1 es1 es2, hget C.H0 p = .arr e sz g [.loc o g' 0 off] ∧ hget s.heap p = .arr e sz g [.loc o g' 0 off] ∧ hget C.H0 o = .arr e1 sz1 g' es1 ∧ hget s.heap o = .arr e1 sz1 g' es2)
theorem rows_kept {Ls : List Nat} {rows : List (Nat × List Value)} {s : St} {inj : Inj} {a : Act} {w : World} (hs : SR C s inj a w) (hk : ∀ r ∈ rows, LkR C Ls r) (hb : ∀ p ∈ Ls, Stb C s p) : RowsH rows w := by
  intro r hr j v hv
  obtain ⟨p, hp, e, sz, g, x, c, u, k1, k2, k3, k4⟩ := hk r hr
  rw [k4] at hv
  have same : ∀ (q : Nat) (e1 sz1 g1 : Nat) (es1 es2 : List AV), hget C.H0 q = .arr e1 sz1 g1 es1 → hget s.heap q = .arr e1 sz1 g1 es2 → inj q = C.inj0 q := by
    intro q e1 sz1 g1 es1 es2 h1 h2
    have := hs.ev.objs q
    have h3 := this.2 (by rw [show s.sig q = hget s.heap q from rfl, h2]; rfl) (by rw [show s.sig q = hget s.heap q from rfl, h1, h2]; rfl)
    exact h3.1
  rcases hb p hp with ⟨e', sz', g', pv, b1, b2, b3⟩ | ⟨e', sz', g', o, go, off, e1, sz1, es1, es2, b1, b2, b4, b5⟩
  · rw [k1] at b1
    obtain ⟨rfl, rfl, rfl, hx⟩ := AO.arr.inj b1
    cases hx
    have hi := same p _ _ _ _ _ k1 b2
    rw [k2] at hi
    obtain ⟨u', u1, u2, u3⟩ := one_row hs.hr b2 hi
    have : u' = u := by
      simp only [AR] at u1 k3
      exact PR_rigid pv b3 u1 k3
    subst this
    exact u3 j v hv
  · rw [k1] at b1
    obtain ⟨rfl, rfl, rfl, hx⟩ := AO.arr.inj b1
    cases hx
    have hi := same p _ _ _ _ _ k1 b2
    rw [k2] at hi
    obtain ⟨u', u1, u2, u3⟩ := one_row hs.hr b2 hi
    have : u' = u := by
      simp only [AR] at u1 k3
      obtain ⟨_, m1⟩ := u1
      obtain ⟨_, m2⟩ := k3
      obtain ⟨_, m1⟩ := m1 _ b5
      obtain ⟨_, m2⟩ := m2 _ b4
      obtain ⟨bb, cc, q1, q2⟩ := m1 rfl _ _ _ rfl
      obtain ⟨bb', cc', q3, q4⟩ := m2 rfl _ _ _ rfl
      have ho := same o _ _ _ _ _ b4 b5
      rw [ho, q3] at q1
      cases q1
      rw [q2, q4]
    subst this
    exact u3 j v hv
theorem hj_step {ops : Array Oper} {rows : List (Nat × List Value)} {Ls : List Nat} {fuel : Nat} {listed : Array Bool} {i : Nat} {o : Oper} (hi : ops[i]? = some o) (hr : Region.ready .any ops listed = [i]) (hk : ∀ r ∈ rows, LkR C Ls r)
    (h : AL C ops [o] (fun ex s => ex = .normal ∧ (∀ p ∈ Ls, Stb C s p) ∧ HJ C ops rows Q fuel (listed.setIfInBounds i true) s) st) : HJ C ops rows Q (fuel + 1) listed st := by
  intro inj a w hs hR
  refine wpAnyH_all hr (by simp) ?_
  intro j hj
  obtain rfl := List.mem_singleton.1 hj
  have h1 := h inj a w hs
  have key : ∀ a' w', lift C (fun ex s => ex = .normal ∧ (∀ p ∈ Ls, Stb C s p) ∧ HJ C ops rows Q fuel (listed.setIfInBounds j true) s) .normal a' w' → RowsH rows w' ∧ wpAnyH C.P .any ops (QN C Q) (RowsH rows) fuel (listed.setIfInBounds j true) a' w' := by
    rintro a' w' ⟨s, inj', hs', _, hb, hh⟩
    have := rows_kept hs' hk hb
    exact ⟨this, hh inj' a' w' hs' this⟩
  unfold wpOp
  simp only [hi]
  simp only [wpList] at h1
  split
  · rename_i hw
    rw [if_pos hw] at h1
    rcases h1 with h1 | ⟨_, a', w', s, inj', _, hq⟩
    · refine .inl (op_wp_mono (fun a' w' hh => key a' w' hh) (fun c a' w' hq => ?_) (fun hl => ?_) h1)
      · obtain ⟨s, inj', _, hq⟩ := hq
        cases hq.1
      · obtain ⟨a', w', s, inj', _, hq⟩ := hl
        cases hq.1
    · cases hq.1
  · rename_i hw
    rw [if_neg hw] at h1
    exact key _ _ h1
theorem hj_done {ops : Array Oper} {rows : List (Nat × List Value)} {fuel : Nat} {listed : Array Bool} (hr : Region.ready .any ops listed = []) (h : Q .normal st) : HJ C ops rows Q fuel listed st :=
  fun inj a w hs _ => wpAnyH_done hr ⟨rfl, st, inj, hs, h⟩ fuel
/-- a load of a place that holds what it held -/
theorem tk_load {rows : List (Nat × List Value)} {l e sz g off : Nat} {t : TypeId} {x y : AV} {o : Oper} {xo : Operand} {bb : Bool} (hk : Lk C rows l) (hl0 : hget C.H0 l = .arr e sz g [x]) (hl : hget st.heap l = .arr e sz g [x])
    (ho : o.op = .load t xo) (hv : ev st.env xo = .loc l g 0 off) (hy : (loadA C.P t (.loc l g 0 off)).run st.sig = some y) (hle : off + C.P.cellsOf t ≤ sz) (hlt : off < sz) (hb : isAggT C.P t = some bb) :
    ∀ inj a w, SR C st inj a w → RowsH rows w → ∃ v, (∀ w', RowsH rows w' → (execOp a.eval o).run C.P w' = .ok (.value v) w') ∧ AR C.X inj st.sig w y v := by
  intro inj a w hs hR
  obtain ⟨e', sz', g', x', b, c, u, k1, k2, k3, k4, k5⟩ := hk
  rw [hl0] at k1
  obtain ⟨rfl, rfl, rfl, _⟩ := AO.arr.inj k1
  have hsame : inj l = C.inj0 l := by
    have h3 := (hs.ev.objs l).2 (by rw [show st.sig l = hget st.heap l from rfl, hl]; rfl) (by rw [show st.sig l = hget st.heap l from rfl, hl0, hl])
    exact h3.1
  have hloc := hs.eval xo
  rw [hv] at hloc
  obtain ⟨u1, q1, q2⟩ := loadA_sound (P := C.P) hs.hr hloc hy
  obtain ⟨_, a2⟩ := hloc
  obtain ⟨_, a3⟩ := a2 _ (show st.sig l = _ from hl)
  obtain ⟨b', c', a4, hptr⟩ := a3 rfl _ _ _ rfl
  rw [hsame, k2] at a4
  cases a4
  simp only [Nat.zero_mul, Nat.zero_add] at hptr
  have hcell : ∀ w', RowsH rows w' → ∀ (j : Nat) (v : Value), u.cells.toList[j]? = some v → w'.cell? ⟨b, j, none⟩ = some v := fun w' hR' j v hj => hR' _ k5 j v hj
  have hlen : u.cells.toList.length = sz := by rw [Array.length_toList, k4]
  have huniv : ∃ v, ∀ w', RowsH rows w' → (Instr.loadAt t (a.eval xo)).run C.P w' = .ok v w' := by
    cases bb with
    | true =>
      refine ⟨.agg ((u.cells.toList.drop off).take (C.P.cellsOf t)).toArray, fun w' hR' => ?_⟩
      rw [hptr]
      have := run_loadVar_agg (P := C.P) (w := w') hb (a := ⟨b, off, none⟩) (cs := (u.cells.toList.drop off).take (C.P.cellsOf t)) (fun j v hj => by
        rw [List.getElem?_take] at hj
        split at hj
        · rw [List.getElem?_drop] at hj
          rw [Addr.add_lit]
          exact hcell w' hR' _ v hj
        · cases hj) (by rw [List.length_take, List.length_drop]; omega)
      simpa [Instr.loadAt, Instr.sureAddr] using this
    | false =>
      have hoff : u.cells.toList[off]? = some (u.cells.toList[off]'(by omega)) := List.getElem?_eq_getElem _
      refine ⟨u.cells.toList[off]'(by omega), fun w' hR' => ?_⟩
      rw [hptr]
      have := run_loadVar_one (P := C.P) (w := w') hb (a := ⟨b, off, none⟩) (hcell w' hR' off _ hoff)
      simpa [Instr.loadAt, Instr.sureAddr] using this
  obtain ⟨v, hv'⟩ := huniv
  have := hv' w hR
  rw [q1] at this
  cases this
  refine ⟨u1, fun w' hR' => ?_, q2⟩
  obtain ⟨dst, op, ty, pos, af, gd⟩ := o
  simp only at ho
  subst ho
  have h1 := hv' w' hR'
  simp [execOp, h1]
/-- the address of a field -/
theorem tk_field {rows : List (Nat × List Value)} {s f : Nat} {y : AV} {o : Oper} {xo : Operand} (ho : o.op = .fieldAddr s xo f) (hy : fieldAddrA C.P s f (ev st.env xo) = some y) (hl : ∃ l g i off, ev st.env xo = .loc l g i off) :
    ∀ inj a w, SR C st inj a w → RowsH rows w → ∃ v, (∀ w', RowsH rows w' → (execOp a.eval o).run C.P w' = .ok (.value v) w') ∧ AR C.X inj st.sig w y v := by
  intro inj a w hs hR
  have hx := hs.eval xo
  obtain ⟨v, q1, q2⟩ := fieldAddrA_sound (P := C.P) hx hy
  refine ⟨v, fun w' hR' => ?_, q2⟩
  have hp : ∃ b, a.eval xo = .pointer (some b) := by
    obtain ⟨l, g, i, off, hl⟩ := hl
    rw [hl] at hx
    exact hx.1
  obtain ⟨b, hb⟩ := hp
  have h1 : (Instr.fieldAt s (a.eval xo) f).run C.P w' = .ok v w' := by
    rw [hb] at q1 ⊢
    unfold fieldAddrA fieldOff at hy
    cases hu : C.P.underlying s with
    | none => simp [hu] at hy
    | some d =>
      cases d with
      | struct fs =>
        cases hf : fs[f]? with
        | none => simp [hu, hf] at hy
        | some fd =>
          by_cases hz : C.P.cellsOf fd.type = 0
          · simp [hu, hf, hz] at hy
          · have hsz : ∀ w, (sizeOf fd.type).run C.P w = .ok (C.P.cellsOf fd.type) w := by
              intro w
              unfold Program.cellsOf at hz ⊢
              cases hi : C.P.info? fd.type with
              | none => simp [hi] at hz
              | some i => simp [sizeOf, typeInfo, hi]
            simp [Instr.fieldAt, run_underlying hu, hf, Instr.sureAddr, fieldPlace, hsz, hz] at q1 ⊢
            exact q1
      | _ => simp [hu] at hy
  obtain ⟨dst, op, ty, pos, af, gd⟩ := o
  simp only at ho
  subst ho
  simp [execOp, h1]
theorem tk_move {rows : List (Nat × List Value)} {y : AV} {o : Oper} {xo : Operand} (ho : o.op = .move xo ∨ o.op = .assign xo) (hy : ev st.env xo = y) :
    ∀ inj a w, SR C st inj a w → RowsH rows w → ∃ v, (∀ w', RowsH rows w' → (execOp a.eval o).run C.P w' = .ok (.value v) w') ∧ AR C.X inj st.sig w y v := by
  intro inj a w hs hR
  have hx := hs.eval xo
  rw [hy] at hx
  refine ⟨a.eval xo, fun w' hR' => ?_, hx⟩
  obtain ⟨dst, op, ty, pos, af, gd⟩ := o
  simp only at ho
  rcases ho with rfl | rfl <;> simp [execOp]
end Go.Ab
/-
  Part 45: short rules for drawn regions with calls that are walked in place.
-/
namespace Go.Ab
open Go
set_option linter.unusedVariables false
set_option linter.unusedSimpArgs false
variable {C : Cx} {Q : Exit → St → Prop} {st : St}
/-- an object of one element -/
def one1 : AO → Bool
  | .arr _ _ _ [_] => true
  | _ => false
theorem one1_arr (e sz g : Nat) (x : AV) : one1 (.arr e sz g [x]) = true := rfl
def ones1 (h : List (Nat × AO)) : List Nat → Prop
  | [] => True
  | p :: ps => one1 (hget h p) = true ∧ ones1 h ps
theorem ones1_spec {h : List (Nat × AO)} : ∀ {ps : List Nat}, ones1 h ps → ∀ p ∈ ps, ∃ e sz g x, hget h p = .arr e sz g [x]
  | [], _, _, hp => by cases hp
  | q :: ps, ho, p, hp => by
    rcases List.mem_cons.1 hp with rfl | hp
    · have := ho.1
      unfold one1 at this
      split at this
      · rename_i e sz g x hx; exact ⟨e, sz, g, x, hx⟩
      · cases this
    · exact ones1_spec ho.2 p hp
theorem ones1_nil (h : List (Nat × AO)) : ones1 h [] = True := rfl
theorem ones1_cons (h : List (Nat × AO)) (p : Nat) (ps : List Nat) : ones1 h (p :: ps) = (one1 (hget h p) = true ∧ ones1 h ps) := rfl
attribute [go_sem] one1_arr ones1_nil ones1_cons
theorem zH {id : Nat} {l : List Oper} (Ls : List Nat) {n : Nat} {fs : Array Bool} (hm : C.P.follows .mixedOrders = true)
    (h : ∀ inj w hT rows, (∀ p ∈ Ls, Lk ⟨C.P, C.N, C.B, C.X, st.heap, inj, w, C.D, hT⟩ rows p) → (∀ r ∈ rows, LkR ⟨C.P, C.N, C.B, C.X, st.heap, inj, w, C.D, hT⟩ Ls r) → HJ ⟨C.P, C.N, C.B, C.X, st.heap, inj, w, C.D, hT⟩ l.toArray rows Q n fs st)
    (hl : ones1 st.heap Ls := by simp only [go_sem, seval, *]; all_goals exact zF) (hn : l.toArray.size = n := by rfl) (hfs : Array.replicate n false = fs := by rfl) : AWp C (.region id l.toArray true) Q st := by
  subst hn
  subst hfs
  exact awp_held Ls hm (ones1_spec hl) h
def isLoc : AV → Bool
  | .loc _ _ _ _ => true
  | _ => false
theorem isLoc_loc (l g i off : Nat) : isLoc (.loc l g i off) = true := rfl
theorem isLoc_spec {v : AV} (h : isLoc v = true) : ∃ l g i off, v = .loc l g i off := by
  unfold isLoc at h
  split at h
  · exact ⟨_, _, _, _, rfl⟩
  · cases h
attribute [go_sem] isLoc_loc
/-- a load of a place that holds what it held -/
theorem zHl {ops : Array Oper} {rows : List (Nat × List Value)} {Ls : List Nat} {fuel : Nat} {listed listed' : Array Bool} {o : Oper} {e sz g off : Nat} {t : TypeId} {x y : AV} {xo : Operand} {bb : Bool} {st' : St}
    (i l : Nat) (hk : ∀ p ∈ Ls, Lk C rows p) (h : HJ C ops rows Q fuel listed' st') (hs : Region.noSelect ops = true := by kernel_rfl) (hi : ops[i]? = some o := by rfl) (ho : o.op = .load t xo := by rfl)
    (hf : Region.free .any ops listed i = true := by kernel_rfl) (hr : (Region.ready .any ops listed).contains i = true := by kernel_rfl) (hg : o.guard = none := by rfl) (hd : dstOk C.N o = true := by rfl) (hm : l ∈ Ls := by simp)
    (hv : ev st.env xo = .loc l g 0 off := by simp only [go_sem, seval, *]; all_goals exact zF) (hl0 : hget C.H0 l = .arr e sz g [x] := by simp only [go_sem, seval, *]; all_goals exact zF) (hl : hget st.heap l = .arr e sz g [x] := by simp only [go_sem, seval, *]; all_goals exact zF)
    (hy : (loadA C.P t (.loc l g 0 off)).run (hget st.heap) = some y := by simp only [go_sem, seval, *]; all_goals exact zF) (hle : off + C.P.cellsOf t ≤ sz := by simp only [go_sem, seval]; all_goals decide) (hlt : off < sz := by decide) (hb : isAggT C.P t = some bb := by simp only [isAggT, go_sem, seval]; all_goals exact rfl)
    (hlist : listed.setIfInBounds i true = listed' := by rfl) (hst : (⟨putE st.env o.dst y, st.heap⟩ : St) = st' := by rfl) : HJ C ops rows Q (fuel + 1) listed st := by
  subst hlist
  subst hst
  exact hj_take hi hs hf hr hg hd (tk_load (hk l hm) hl0 hl ho hv hy hle hlt hb) h
/-- an operation that yields its value in any world -/
theorem zHf {ops : Array Oper} {rows : List (Nat × List Value)} {fuel : Nat} {listed listed' : Array Bool} {o : Oper} {s f : Nat} {xo : Operand} {y : AV} {st' : St}
    (i : Nat) (h : HJ C ops rows Q fuel listed' st') (hs : Region.noSelect ops = true := by kernel_rfl) (hi : ops[i]? = some o := by rfl) (ho : o.op = .fieldAddr s xo f := by rfl)
    (hf : Region.free .any ops listed i = true := by kernel_rfl) (hr : (Region.ready .any ops listed).contains i = true := by kernel_rfl) (hg : o.guard = none := by rfl) (hd : dstOk C.N o = true := by rfl)
    (hl : isLoc (ev st.env xo) = true := by simp only [go_sem, seval, *]; done) (hy : fieldAddrA C.P s f (ev st.env xo) = some y := by simp only [go_sem, seval, *]; all_goals exact zF)
    (hlist : listed.setIfInBounds i true = listed' := by rfl) (hst : (⟨putE st.env o.dst y, st.heap⟩ : St) = st' := by rfl) : HJ C ops rows Q (fuel + 1) listed st := by
  subst hlist
  subst hst
  exact hj_take hi hs hf hr hg hd (tk_field ho hy (isLoc_spec hl)) h
theorem zHm {ops : Array Oper} {rows : List (Nat × List Value)} {fuel : Nat} {listed listed' : Array Bool} {o : Oper} {xo : Operand} {y : AV} {st' : St}
    (i : Nat) (h : HJ C ops rows Q fuel listed' st') (hs : Region.noSelect ops = true := by kernel_rfl) (hi : ops[i]? = some o := by rfl) (ho : o.op = .move xo ∨ o.op = .assign xo := by first | exact .inl rfl | exact .inr rfl)
    (hf : Region.free .any ops listed i = true := by kernel_rfl) (hr : (Region.ready .any ops listed).contains i = true := by kernel_rfl) (hg : o.guard = none := by rfl) (hd : dstOk C.N o = true := by rfl)
    (hy : ev st.env xo = y := by simp only [go_sem, seval, *]; all_goals exact rfl)
    (hlist : listed.setIfInBounds i true = listed' := by rfl) (hst : (⟨putE st.env o.dst y, st.heap⟩ : St) = st' := by rfl) : HJ C ops rows Q (fuel + 1) listed st := by
  subst hlist
  subst hst
  exact hj_take hi hs hf hr hg hd (tk_move ho hy) h
/-- what is to be shown behind an operation that comes alone -/
def HK (C : Cx) (ops : Array Oper) (rows : List (Nat × List Value)) (Ls : List Nat) (Q : Exit → St → Prop) (fuel : Nat) (listed : Array Bool) : Exit → St → Prop := fun ex s => ex = .normal ∧ (∀ p ∈ Ls, Stb C s p) ∧ HJ C ops rows Q fuel listed s
theorem zHs {ops : Array Oper} {rows : List (Nat × List Value)} {Ls : List Nat} {fuel : Nat} {listed listed' : Array Bool} {o : Oper} (i : Nat) (hk : ∀ r ∈ rows, LkR C Ls r) (h : AL C ops [o] (HK C ops rows Ls Q fuel listed') st)
    (hi : ops[i]? = some o := by rfl) (hr : Region.ready .any ops listed = [i] := by kernel_rfl) (hlist : listed.setIfInBounds i true = listed' := by rfl) : HJ C ops rows Q (fuel + 1) listed st := by
  subst hlist
  exact hj_step hi hr hk h
def stbL (C : Cx) (s : St) : List Nat → Prop
  | [] => True
  | p :: ps => Stb C s p ∧ stbL C s ps
theorem stbL_spec {s : St} : ∀ {ps : List Nat}, stbL C s ps → ∀ p ∈ ps, Stb C s p
  | [], _, _, hp => by cases hp
  | q :: ps, h, p, hp => by
    rcases List.mem_cons.1 hp with rfl | hp
    · exact h.1
    · exact stbL_spec h.2 p hp
theorem zHk {ops : Array Oper} {rows : List (Nat × List Value)} {Ls : List Nat} {fuel : Nat} {listed : Array Bool} (hb : stbL C st Ls) (h : HJ C ops rows Q fuel listed st) : HK C ops rows Ls Q fuel listed .normal st := ⟨rfl, stbL_spec hb, h⟩
theorem stb_loc {s : St} {p e sz g o g' off e1 sz1 : Nat} {es1 es2 : List AV} (h1 : hget C.H0 p = .arr e sz g [.loc o g' 0 off] := by simp only [go_sem, seval, *]; all_goals exact zF) (h2 : hget s.heap p = .arr e sz g [.loc o g' 0 off] := by simp only [go_sem, seval, *]; all_goals exact zF)
    (h3 : hget C.H0 o = .arr e1 sz1 g' es1 := by simp only [go_sem, seval, *]; all_goals exact zF) (h4 : hget s.heap o = .arr e1 sz1 g' es2 := by simp only [go_sem, seval, *]; all_goals exact zF) : Stb C s p := .inr ⟨e, sz, g, o, g', off, e1, sz1, es1, es2, h1, h2, h3, h4⟩
theorem stb_rig {s : St} {p e sz g : Nat} {pv : PV} (h1 : hget C.H0 p = .arr e sz g [.p pv] := by simp only [go_sem, seval, *]; all_goals exact zF) (h2 : hget s.heap p = .arr e sz g [.p pv] := by simp only [go_sem, seval, *]; all_goals exact zF)
    (h3 : rigidP pv = true := by first | rfl | (simp only [go_sem, seval, rigidP, rigidPs]; done) | (simp [go_sem, seval, rigidP, rigidPs]; done)) : Stb C s p := .inl ⟨e, sz, g, pv, h1, h2, h3⟩
theorem zHe {ops : Array Oper} {rows : List (Nat × List Value)} {fuel : Nat} {listed : Array Bool} (h : Q .normal st) (hr : Region.ready .any ops listed = [] := by kernel_rfl) : HJ C ops rows Q fuel listed st := hj_done hr h
section
variable {α : Type} {h h' H0 rest : List (Nat × AO)} {f f' k e sz G G' e' sz' : Nat} {o : AO} {enc : α → PV} {ll : List (List α)}
/-- a family, of whatever generation -/
def hasFamG (h : List (Nat × AO)) (f e sz : Nat) (enc : α → PV) (ll : List (List α)) : Prop := ∃ G, hasFam h f e sz G enc ll
theorem hasFamG_low (hk : k < 1048576) : hasFamG ((k, o) :: h) f e sz enc ll = hasFamG h f e sz enc ll := by simp only [hasFamG, hasFam_low hk]
theorem hasFamG_same : hasFamG (famL f e sz G enc ll rest) f e sz enc ll = True := by
  rw [eq_iff_iff, iff_true]
  exact ⟨G, by rw [hasFam_same]; trivial⟩
/-- a family of another generation -/
theorem leHeap_fam_gen (h1 : hasFamG h f e sz enc ll) (h2 : hasFam h' f e sz G enc ll) (hg : 1 ≤ G) (hk : famKeep H0 f G) : leHeap (hget h) (hget h') H0 (famL f e sz G enc ll rest) = leHeap (hget h) (hget h') H0 rest := by
  obtain ⟨G1, h1⟩ := h1
  exact leHeap_famL fun i x hx => leO_arr (h1 i x hx) (h2 i x hx) hg fun ha => .inr (hk i ha)
end
/-- a list has n elements at least -/
def keysLe {β : Type} (n : Nat) (ll : List β) : Prop := n ≤ ll.length
section
variable {β : Type} {f n e sz G : Nat} {ll ll' : List β}
theorem keysLe_self : keysLe ll.length ll = True := by simp [keysLe]
theorem keysLe_set {i : Nat} {y : β} : keysLe n (ll.set i y) = keysLe n ll := by simp [keysLe]
theorem keysLe_setL {γ : Type} {l : List γ} {i : Nat} {y : γ} : keysLe (l.set i y).length ll = keysLe l.length ll := by simp [keysLe]
theorem keysLe_app (h : keysLe n ll) : keysLe n (ll ++ ll') = True := by
  rw [eq_iff_iff, iff_true]
  unfold keysLe at *
  rw [List.length_append]; omega
theorem keysLe_app' {y : β} : keysLe (ll.length + 1) (ll ++ [y]) = True := by simp [keysLe]
end
def keysRest (rest : List (Nat × AO)) (f a n : Nat) : Prop := ∀ i, i < n → a ≤ i → (rest.any fun x => x.1 == fx f i) = true
theorem hasKeys_fam {α : Type} {f n e sz G : Nat} {enc : α → PV} {ll : List (List α)} {rest : List (Nat × AO)} : hasKeys (famL f e sz G enc ll rest) f n = (keysLe n ll ∨ keysRest rest f ll.length n) := by
  rw [eq_iff_iff]
  constructor
  · intro H
    by_cases hn : n ≤ ll.length
    · exact .inl hn
    · refine .inr fun i hi hl => ?_
      have := H i hi
      unfold famL at this
      rw [List.any_append, Bool.or_eq_true] at this
      rcases this with this | this
      · rw [List.any_eq_true] at this
        obtain ⟨x, hx, hx2⟩ := this
        obtain ⟨k, hk, rfl⟩ := List.mem_mapIdx.1 hx
        simp only [beq_iff_eq, fx_inj] at hx2
        omega
      · exact this
  · rintro (hk | hr) i hi
    · have h1 : hasKeys (famL f e sz G enc ll rest) f ll.length := by rw [hasKeys_same]; trivial
      exact h1 i (Nat.lt_of_lt_of_le hi hk)
    · by_cases hl : i < ll.length
      · have h1 : hasKeys (famL f e sz G enc ll rest) f ll.length := by rw [hasKeys_same]; trivial
        exact h1 i hl
      · unfold famL
        rw [List.any_append, Bool.or_eq_true]
        exact .inr (hr i hi (by omega))
theorem get_keysLe {β : Type} {l l2 : List β} (hk : keysLe l.length l2) : l[l2.length]? = none := List.getElem?_eq_none hk
attribute [go_sem] keysLe_self keysLe_set keysLe_setL keysLe_app keysLe_app' hasKeys_fam get_keysLe true_or
attribute [go_sem] hasFamG_low hasFamG_same leHeap_fam_gen
/-- objects at other places, at the code -/
theorem zSwA {c : Code} (x y : Nat) (h : AWp C c Q ⟨renE (swp x y) st.env, hren (swp x y) st.heap⟩)
    (h1 : RenOk (hget C.H0 x) (hget st.heap y) := by simp only [go_sem, seval, *]; all_goals first | exact fun h => h | (simp; done) | (simp [*]; done)) (h2 : RenOk (hget C.H0 y) (hget st.heap x) := by simp only [go_sem, seval, *]; all_goals first | exact fun h => h | (simp; done) | (simp [*]; done)) : AWp C c Q st := awp_swp x y h1 h2 h
end Go.Ab
/-
  Part 46: a drawn region whose last operation hands on a value that is known before: it may be taken first.
-/
namespace Go.Ab
open Go
set_option linter.unusedVariables false
set_option linter.unusedSimpArgs false
/-- no operation waits for one that lies behind, or asks for its result -/
def inner (ops : Array Oper) : Bool := ops.toList.all fun o => (o.after.toList.all fun e => decide (e.on < ops.size)) && (match o.guard with | some (g, _) => decide (g < ops.size) | none => true)
variable {C : Cx} {Q : Exit → St → Prop} {st : St}
end Go.Ab
namespace Go.Ab
open Go
theorem view6_own (D : Nat → Bool) (l g off len : Nat) : view D 6 (.own l g off len) = viewOwn D 5 l g off len := rfl
theorem view6_agg (D : Nat → Bool) (cs : List AV) : view D 6 (.agg cs) = (viewAll (view D 5) cs).bind fun xs => .ret (.agg xs) := rfl
theorem view5_p (D : Nat → Bool) (x : PV) : view D 5 (.p x) = .ret x := rfl
theorem view5_nils (D : Nat → Bool) : view D 5 .nils = .ret (.slc []) := rfl
theorem view5_own (D : Nat → Bool) (l g off len : Nat) : view D 5 (.own l g off len) = viewOwn D 4 l g off len := rfl
theorem viewAll5_p (D : Nat → Bool) (xs : List PV) : viewAll (view D 5) (xs.map .p) = .ret xs := viewAll_p D 4 xs
theorem view4_p (D : Nat → Bool) (x : PV) : view D 4 (.p x) = .ret x := rfl
attribute [go_sem] view6_own view6_agg view5_p view5_nils view5_own viewAll5_p view4_p
end Go.Ab
