/- An abstract logic for calls that only compute: what each operation does to values that are trees, and rules for walking a text. -/
import Derived.Test.YtimfcgdnogjlhaaGreatA2
/-
  Part 33: an own object that is cut to its first elements.
-/
namespace Go.Ab
open Go
set_option linter.unusedVariables false
set_option linter.unusedSimpArgs false
variable {C : Cx} {Q : Exit → St → Prop} {st : St} {inj : Inj} {a : Act} {w : World}

attribute [go_sem] List.map_replicate
@[go_sem, simp] theorem LeVs_rep (σ σ' : Nat → AO) (n : Nat) (x : PV) : LeVs σ σ' (List.replicate n (.p x)) (List.replicate n (.p x)) := by
  have := LeVs_p σ σ' (List.replicate n x)
  simpa only [List.map_replicate] using this

@[go_sem, simp] theorem LeVs_repn (σ σ' : Nat → AO) (n : Nat) : LeVs σ σ' (List.replicate n .nils) (List.replicate n (.p (.slc []))) := by
  induction n with
  | zero => rfl
  | succ n ih =>
    rw [List.replicate_succ, List.replicate_succ, LeVs_cons]
    exact ⟨by simp [LeV, view], ih⟩

theorem SR.shrink (h : SR C st inj a w) {t l g m e sz : Nat} {es : List AV} (hobj : hget st.heap l = .arr e sz g es) (ht : st.env.get t = .own l g 0 m) :
    SR C ⟨putE st.env (some t) (.own l (g + 1) 0 m), hset st.heap l (.arr e sz (g + 1) (es.take m))⟩ inj a w := by
  have hup := h.hr.update (D := C.D) (w' := w) (l := l) (o := .arr e sz g es) (o' := .arr e sz (g + 1) (es.take m)) (x := inj l) hobj rfl rfl rfl
    (fun _ => Nat.le_refl _) (Nat.le_refl _) (fun _ _ => rfl) (fun _ _ _ => rfl) (fun b c h1 => .inr ⟨rfl, _, h1⟩)
    ⟨Nat.le_succ _, fun _ hg => absurd hg (by simp [AO.gen])⟩
  obtain ⟨hev, hhr⟩ := hup
  have hinj : (fun k => if k = l then inj l else inj k) = inj := by
    funext k
    by_cases hk : k = l
    · rw [if_pos hk, hk]
    · rw [if_neg hk]
  rw [hinj] at hev hhr
  obtain ⟨vs, h1, h2, h3, h4⟩ := h.hr.obj l _ hobj
  have hs : (St.mk (putE st.env (some t) (.own l (g + 1) 0 m)) (hset st.heap l (.arr e sz (g + 1) (es.take m)))).sig = supd st.sig l (.arr e sz (g + 1) (es.take m)) := hget_hset _ _ _
  have hob := h.env t
  rw [ht] at hob
  obtain ⟨q1, q2⟩ := hob
  obtain ⟨q3, q4⟩ := q2 _ hobj
  obtain ⟨q5, q6⟩ := q4 rfl e sz es rfl
  rw [Nat.zero_add] at q5
  have hvl : vs.length = es.length := h1.length.symm
  have hor : OR C.X inj (supd st.sig l (.arr e sz (g + 1) (es.take m))) w l (.arr e sz (g + 1) (es.take m)) := by
    refine ⟨vs.take m, ARs.ev hev h.hr.xlt _ _ (h1.take m), fun v hv => h2 v (List.mem_of_mem_take hv), fun u hu => ?_, ?_⟩
    · rw [flat_take m h2] at hu
      exact h3 u (List.mem_of_mem_take hu)
    · rcases h4 with ⟨h4, h5⟩ | ⟨b, c, cur, i1, i2, i3, i4, i5, i6, i7⟩
      · exact .inl ⟨h4, by rw [h5, List.take_nil]⟩
      · refine .inr ⟨b, c, cur, i1, i2, i3, by rw [List.length_take]; omega, i5, i6, ?_⟩
        rw [flat_take m h2, ← i7, List.take_take, List.length_take]
        congr 1
        rw [Nat.min_eq_left q5, Nat.min_eq_left (Nat.mul_le_mul_right _ q5)]
  have hHR := hhr hor
  refine ⟨fun t' => ?_, h.size, h.defers, by rw [hs]; exact hHR, by rw [hs]; exact h.ev.trans hev⟩
  rw [hs]
  simp only [putE, Env.get]
  by_cases hte : t = t'
  · rw [if_pos hte, ← hte]
    refine ⟨q1, fun o ho => ?_⟩
    have ho' : o = .arr e sz (g + 1) (es.take m) := by rw [← ho]; simp [supd]
    subst ho'
    refine ⟨Nat.le_refl _, fun _ e' sz' es' heq => ?_⟩
    cases heq
    refine ⟨by rw [List.length_take]; omega, ?_⟩
    rcases q6 with ⟨q7, q8, q9, q10⟩ | ⟨b, c, a0, q7, q8, q9, q10⟩
    · exact .inl ⟨q7, q8, rfl, q10⟩
    · exact .inr ⟨b, c, a0, q7, q8, q9, q10⟩
  · rw [if_neg hte]
    exact AR.ev hev h.hr.xlt _ _ (h.env t')
end Go.Ab
/-
  Part 34: small facts.
-/
namespace Go.Ab
open Go
end Go.Ab
/-
  Part 35: lists of own lists: a family of own objects.
-/
namespace Go.Ab
open Go
set_option linter.unusedVariables false
set_option linter.unusedSimpArgs false

theorem fx_exists : ∃ g : Nat → Nat → Nat, (∀ f i k, k < 1048576 → k ≠ g f i) ∧ (∀ f i j, g f i = g f j → i = j) ∧ ∀ f f' i j, f < 1048576 → f' < 1048576 → f ≠ f' → g f i ≠ g f' j :=
  ⟨fun f i => 1048576 * (i + 1) + f, fun f i k h => by show k ≠ 1048576 * (i + 1) + f; omega, fun f i j h => by simp only at h; omega, fun f f' i j h h' hn => by show 1048576 * (i + 1) + f ≠ 1048576 * (j + 1) + f'; omega⟩
/-- the place of member i of family f (the kernel is not to reckon it) -/
noncomputable def fx : Nat → Nat → Nat := Classical.choose fx_exists
theorem fx_low {f i k : Nat} (h : k < 1048576) : k ≠ fx f i := (Classical.choose_spec fx_exists).1 f i k h
theorem lit_ne_fx {k f i : Nat} (h : k < 1048576) : (k = fx f i) = False := eq_false (fx_low h)
theorem fx_ne_lit {k f i : Nat} (h : k < 1048576) : (fx f i = k) = False := eq_false fun e => fx_low h e.symm
theorem fx_inj {f i j : Nat} : (fx f i = fx f j) = (i = j) := propext ⟨(Classical.choose_spec fx_exists).2.1 f i j, fun h => by rw [h]⟩
theorem fx_ne {f f' i j : Nat} (h : f < 1048576) (h' : f' < 1048576) (hn : f ≠ f') : (fx f i = fx f' j) = False := eq_false ((Classical.choose_spec fx_exists).2.2 f f' i j h h' hn)

variable {α : Type}
/-- the members of a family, as the outer array holds them -/
noncomputable def famR (f e sz G : Nat) (enc : α → PV) (ll : List (List α)) : List AV := ll.mapIdx fun i x => .own (fx f i) G 0 x.length
/-- the members of a family, as the heap holds them -/
noncomputable def famL (f e sz G : Nat) (enc : α → PV) (ll : List (List α)) (rest : List (Nat × AO)) : List (Nat × AO) :=
  (ll.mapIdx fun i x => (fx f i, AO.arr e sz G (List.map AV.p (List.map enc x)))) ++ rest

theorem famR_get (f e sz G : Nat) (enc : α → PV) (ll : List (List α)) (i : Nat) : (famR f e sz G enc ll)[i]? = (ll[i]?).map fun x => AV.own (fx f i) G 0 x.length := by
  simp [famR, List.getElem?_mapIdx]
theorem famR_len (f e sz G : Nat) (enc : α → PV) (ll : List (List α)) : (famR f e sz G enc ll).length = ll.length := by simp [famR]
theorem famR_nil (f e sz G : Nat) (enc : α → PV) : famR f e sz G enc [] = [] := rfl
theorem famL_nil (f e sz G : Nat) (enc : α → PV) (rest : List (Nat × AO)) : famL f e sz G enc [] rest = rest := rfl

theorem hget_in {a b : List (Nat × AO)} {l : Nat} (h : (a.any fun x => x.1 == l) = true) : hget (a ++ b) l = hget a l := by
  induction a with
  | nil => simp at h
  | cons x a ih =>
    obtain ⟨k, o⟩ := x
    simp only [List.cons_append, hget]
    by_cases hk : k = l
    · rw [if_pos hk, if_pos hk]
    · rw [if_neg hk, if_neg hk]
      rw [List.any_cons, Bool.or_eq_true] at h
      rcases h with h | h
      · exact absurd (by simpa using h) hk
      · exact ih h
theorem hget_out {a b : List (Nat × AO)} {l : Nat} (h : ¬ (a.any fun x => x.1 == l) = true) : hget (a ++ b) l = hget b l := by
  induction a with
  | nil => rfl
  | cons x a ih =>
    obtain ⟨k, o⟩ := x
    rw [List.any_cons, Bool.or_eq_true, not_or] at h
    have hk : ¬ k = l := by simpa using h.1
    simp only [List.cons_append, hget]
    rw [if_neg hk]
    exact ih h.2
theorem hget_mem {a : List (Nat × AO)} {l : Nat} {o : AO} (hm : (l, o) ∈ a) (hu : ∀ o', (l, o') ∈ a → o' = o) : hget a l = o := by
  induction a with
  | nil => cases hm
  | cons x a ih =>
    obtain ⟨k, o1⟩ := x
    simp only [hget]
    by_cases h : k = l
    · subst h
      rw [if_pos rfl]
      exact hu o1 List.mem_cons_self
    · rw [if_neg h]
      rcases List.mem_cons.1 hm with e | e
      · cases e; exact absurd rfl h
      · exact ih e fun o' ho => hu o' (List.mem_cons_of_mem _ ho)
theorem famL_low {f e sz G : Nat} {enc : α → PV} {ll : List (List α)} {rest : List (Nat × AO)} {l : Nat} (h : l < 1048576) : hget (famL f e sz G enc ll rest) l = hget rest l := by
  unfold famL
  rw [hget_out]
  simp only [List.any_eq_true, not_exists, not_and, List.mem_mapIdx]
  rintro x ⟨i, hi, rfl⟩
  simp only [beq_iff_eq, fx_ne_lit h]; exact fun h => h
theorem famL_fx (f e sz G : Nat) (enc : α → PV) (ll : List (List α)) (rest : List (Nat × AO)) (i : Nat) :
    hget (famL f e sz G enc ll rest) (fx f i) = (ll[i]?).elim (hget rest (fx f i)) fun x => .arr e sz G (List.map AV.p (List.map enc x)) := by
  unfold famL
  by_cases hi : i < ll.length
  · have hx : ll[i]? = some ll[i] := List.getElem?_eq_getElem hi
    rw [hget_in, hx]
    · refine hget_mem (List.mem_mapIdx.2 ⟨i, hi, rfl⟩) fun o' ho => ?_
      obtain ⟨j, hj, e⟩ := List.mem_mapIdx.1 ho
      simp only [Prod.mk.injEq] at e
      have : j = i := by have := e.1; rw [fx_inj] at this; exact this
      subst this
      exact e.2.symm
    · simp only [List.any_eq_true]
      exact ⟨_, List.mem_mapIdx.2 ⟨i, hi, rfl⟩, by simp⟩
  · have hx : ll[i]? = none := List.getElem?_eq_none (by omega)
    rw [hget_out, hx]
    · rfl
    · simp only [List.any_eq_true, not_exists, not_and, List.mem_mapIdx]
      rintro x ⟨j, hj, rfl⟩
      simp only [beq_iff_eq, fx_inj]; omega
theorem famL_other {f f' e sz G : Nat} {enc : α → PV} {ll : List (List α)} {rest : List (Nat × AO)} {i : Nat} (h : f < 1048576) (h' : f' < 1048576) (hn : (f' = f) = False) : hget (famL f' e sz G enc ll rest) (fx f i) = hget rest (fx f i) := by
  replace hn : f' ≠ f := of_eq_false hn
  unfold famL
  rw [hget_out]
  simp only [List.any_eq_true, not_exists, not_and, List.mem_mapIdx]
  rintro x ⟨j, hj, rfl⟩
  simp only [beq_iff_eq, fx_ne h' h hn]; exact fun h => h
theorem get_at_len {β : Type} (l : List β) : l[l.length]? = none := List.getElem?_eq_none (Nat.le_refl _)

/-! ### what a heap holds of a family -/
def hasFam (h : List (Nat × AO)) (f e sz G : Nat) (enc : α → PV) (ll : List (List α)) : Prop := ∀ i x, ll[i]? = some x → hget h (fx f i) = .arr e sz G (List.map AV.p (List.map enc x))
def hasFamX (h : List (Nat × AO)) (f i e sz G : Nat) (enc : α → PV) (ll : List (List α)) : Prop := ∀ j x, j ≠ i → ll[j]? = some x → hget h (fx f j) = .arr e sz G (List.map AV.p (List.map enc x))
def famDead (h : List (Nat × AO)) (f : Nat) : Prop := ∀ i, (hget h (fx f i)).alive = false
/-- the members that a call found have an older generation -/
def famKeep (h : List (Nat × AO)) (f G : Nat) : Prop := ∀ i, (hget h (fx f i)).alive = true → (hget h (fx f i)).gen < G
def hasKeys (h : List (Nat × AO)) (f n : Nat) : Prop := ∀ i, i < n → (h.any fun x => x.1 == fx f i) = true
def lenEq {β : Type} (m : Nat) (y : List β) : Prop := m = y.length
/-- nothing lies at the place -/
def noObj (h : List (Nat × AO)) (l : Nat) : Prop := (hget h l).alive = false
def memEq (es : List AV) (enc : α → PV) (y : List α) : Prop := es = List.map AV.p (List.map enc y)
def isMem (o : AO) (e sz : Nat) (enc : α → PV) (y : List α) : Prop := match o with
  | .arr e' sz' _ es => e' = e ∧ sz' = sz ∧ memEq es enc y
  | _ => False
section
variable {h h' H0 rest : List (Nat × AO)} {f f' i k e sz G G' e' sz' : Nat} {o : AO} {enc enc' : α → PV} {ll ll' : List (List α)}
theorem noObj_nil {l : Nat} : noObj [] l = True := by simp [noObj, hget, AO.alive]
theorem noObj_low (hk : k < 1048576) : noObj ((k, o) :: h) (fx f i) = noObj h (fx f i) := by simp only [noObj, hget, lit_ne_fx hk, if_false]
theorem noObj_fam : noObj (famL f e sz G enc ll rest) (fx f i) = (((ll[i]?).map (·.length)) = none ∧ noObj rest (fx f i)) := by
  unfold noObj
  rw [famL_fx]
  cases ll[i]? with
  | none => simp
  | some x => simp [AO.alive]
theorem noObj_other {β : Type} {enc' : β → PV} {ll' : List (List β)} (h1 : f < 1048576) (h2 : f' < 1048576) (hn : (f' = f) = False) : noObj (famL f' e' sz' G' enc' ll' rest) (fx f i) = noObj rest (fx f i) := by
  unfold noObj
  rw [famL_other h1 h2 hn]
theorem isMem_arr {g : Nat} {es : List AV} {y : List α} : isMem (.arr e' sz' g es) e sz enc y = (e' = e ∧ sz' = sz ∧ memEq es enc y) := propext Iff.rfl
theorem lenEq_self {β : Type} {x : List β} : lenEq x.length x = True := by simp [lenEq]
theorem lenEq_set {β : Type} {x : List β} {j : Nat} {v : β} : lenEq x.length (x.set j v) = True := by simp [lenEq]
theorem lenEq_set2 {β : Type} {x : List β} {j j' : Nat} {v v' : β} : lenEq x.length ((x.set j v).set j' v') = True := by simp [lenEq]
theorem lenEq_snoc {β : Type} {x : List β} {v : β} : lenEq (x.length + 1) (x ++ [v]) = True := by simp [lenEq]
theorem lenEq_app {β : Type} {x z : List β} : lenEq (x.length + z.length) (x ++ z) = True := by simp [lenEq]
theorem lenEq_rep {β : Type} {n : Nat} {v : β} : lenEq n (List.replicate n v) = True := by simp [lenEq]
theorem lenEq_one {β : Type} {v : β} : lenEq 1 [v] = True := by simp [lenEq]
theorem lenEq_nil {β : Type} : lenEq 0 ([] : List β) = True := by simp [lenEq]
theorem lenEq_of {β : Type} {m : Nat} {y : List β} (h : y.length = m) : lenEq m y = True := by simp [lenEq, h]
theorem memEq_self {x : List α} : memEq (List.map AV.p (List.map enc x)) enc x = True := by simp [memEq]
theorem memEq_nil : memEq [] enc [] = True := by simp [memEq]
theorem memEq_app {x z : List α} : memEq (List.map AV.p (List.map enc x) ++ List.map AV.p (List.map enc z)) enc (x ++ z) = True := by simp [memEq]
theorem memEq_snoc {x : List α} {v : PV} {y : α} (hv : v = enc y) : memEq (List.map AV.p (List.map enc x) ++ [AV.p v]) enc (x ++ [y]) = True := by simp [memEq, hv]
theorem memEq_one {v : PV} {y : α} (hv : v = enc y) : memEq [AV.p v] enc [y] = True := by simp [memEq, hv]
theorem memEq_set {x : List α} {v : PV} {y : α} {j : Nat} (hv : v = enc y) : memEq ((List.map AV.p (List.map enc x)).set j (AV.p v)) enc (x.set j y) = True := by
  simp only [memEq, hv, ← List.map_set]
theorem memEq_rep {n : Nat} {v : PV} {y : α} (hv : v = enc y) : memEq (List.replicate n (AV.p v)) enc (List.replicate n y) = True := by simp [memEq, hv]
theorem memEq_snoc' {x : List α} {v : PV} {y : α} (hv : v = enc y) : memEq (List.map AV.p (List.map enc x ++ [v])) enc (x ++ [y]) = True := by simp [memEq, hv]
theorem memEq_app' {x z : List α} : memEq (List.map AV.p (List.map enc x ++ List.map enc z)) enc (x ++ z) = True := by simp [memEq]
theorem memEq_set' {x : List α} {v : PV} {y : α} {j : Nat} (hv : v = enc y) : memEq (List.map AV.p ((List.map enc x).set j v)) enc (x.set j y) = True := by simp only [memEq, hv, ← List.map_set]
theorem hget_low_fx (hk : k < 1048576) : hget ((k, o) :: h) (fx f i) = hget h (fx f i) := by simp only [hget, lit_ne_fx hk, if_false]
theorem hasFam_low (hk : k < 1048576) : hasFam ((k, o) :: h) f e sz G enc ll = hasFam h f e sz G enc ll := by simp only [hasFam, hget_low_fx hk]
theorem hasFam_same : hasFam (famL f e sz G enc ll rest) f e sz G enc ll = True := by
  simp only [hasFam, famL_fx, eq_iff_iff, iff_true]
  intro i x hx; rw [hx]; rfl
theorem hasFam_other {β : Type} {enc' : β → PV} {ll' : List (List β)} (h1 : f < 1048576) (h2 : f' < 1048576) (hn : (f' = f) = False) : hasFam (famL f' e' sz' G' enc' ll' rest) f e sz G enc ll = hasFam rest f e sz G enc ll := by
  simp only [hasFam, famL_other h1 h2 hn]
theorem hasFam_none : hasFam h f e sz G enc [] = True := by simp [hasFam]
theorem hasFamX_low (hk : k < 1048576) : hasFamX ((k, o) :: h) f i e sz G enc ll = hasFamX h f i e sz G enc ll := by simp only [hasFamX, hget_low_fx hk]
theorem hasFamX_here : hasFamX ((fx f i, o) :: h) f i e sz G enc ll = hasFamX h f i e sz G enc ll := by
  simp only [hasFamX, eq_iff_iff]
  constructor <;> intro H j x hj hx
  · have := H j x hj hx
    simp only [hget, fx_inj] at this
    rwa [if_neg (fun e => hj e.symm)] at this
  · simp only [hget, fx_inj]
    rw [if_neg (fun e => hj e.symm)]; exact H j x hj hx
theorem hasFamX_same : hasFamX (famL f e sz G enc ll rest) f i e sz G enc ll = True := by
  simp only [hasFamX, famL_fx, eq_iff_iff, iff_true]
  intro j x _ hx; rw [hx]; rfl
theorem hasFamX_other {β : Type} {enc' : β → PV} {ll' : List (List β)} (h1 : f < 1048576) (h2 : f' < 1048576) (hn : (f' = f) = False) : hasFamX (famL f' e' sz' G' enc' ll' rest) f i e sz G enc ll = hasFamX rest f i e sz G enc ll := by
  simp only [hasFamX, famL_other h1 h2 hn]
theorem famDead_low (hk : k < 1048576) : famDead ((k, o) :: h) f = famDead h f := by simp only [famDead, hget_low_fx hk]
theorem famDead_nil : famDead [] f = True := by simp [famDead, hget, AO.alive]
theorem famDead_none : famDead (famL f e sz G enc [] rest) f = famDead rest f := rfl
theorem famDead_other {β : Type} {enc' : β → PV} {ll' : List (List β)} (h1 : f < 1048576) (h2 : f' < 1048576) (hn : (f' = f) = False) : famDead (famL f' e' sz' G' enc' ll' rest) f = famDead rest f := by
  simp only [famDead, famL_other h1 h2 hn]
theorem famKeep_low (hk : k < 1048576) : famKeep ((k, o) :: h) f G = famKeep h f G := by simp only [famKeep, hget_low_fx hk]
theorem famKeep_nil : famKeep [] f G = True := by simp [famKeep, hget, AO.alive]
theorem famKeep_same (hg : G' < G) : famKeep (famL f e sz G' enc ll rest) f G = ((∀ i, ll.length ≤ i → (hget rest (fx f i)).alive = true → (hget rest (fx f i)).gen < G)) := by
  simp only [famKeep, famL_fx, eq_iff_iff]
  constructor
  · intro H i hi
    have := H i
    rwa [List.getElem?_eq_none hi] at this
  · intro H i
    cases hx : ll[i]? with
    | none => exact H i (List.getElem?_eq_none_iff.1 hx)
    | some x => intro _; exact hg
theorem famKeep_other {β : Type} {enc' : β → PV} {ll' : List (List β)} (h1 : f < 1048576) (h2 : f' < 1048576) (hn : (f' = f) = False) : famKeep (famL f' e' sz' G' enc' ll' rest) f G = famKeep rest f G := by
  simp only [famKeep, famL_other h1 h2 hn]
theorem hasKeys_cons {n : Nat} (hr : hasKeys h f n) : hasKeys ((k, o) :: h) f n = True := by
  simp only [hasKeys, eq_iff_iff, iff_true]
  intro i hi
  rw [List.any_cons, hr i hi, Bool.or_true]
theorem hasKeys_same : hasKeys (famL f e sz G enc ll rest) f ll.length = True := by
  simp only [hasKeys, eq_iff_iff, iff_true, famL]
  intro i hi
  rw [List.any_append, Bool.or_eq_true]
  left
  rw [List.any_eq_true]
  exact ⟨_, List.mem_mapIdx.2 ⟨i, hi, rfl⟩, by simp⟩
theorem hasKeys_rest {β : Type} {enc' : β → PV} {ll' : List (List β)} {n : Nat} (hr : hasKeys rest f n) : hasKeys (famL f' e' sz' G' enc' ll' rest) f n = True := by
  simp only [hasKeys, eq_iff_iff, iff_true, famL]
  intro i hi
  rw [List.any_append, hr i hi, Bool.or_true]
theorem keysIn_app {a b : List (Nat × AO)} : keysIn h (a ++ b) ↔ keysIn h a ∧ keysIn h b := by
  induction a with
  | nil => simp [keysIn]
  | cons x a ih =>
    obtain ⟨l, o⟩ := x
    simp only [List.cons_append, keysIn, ih, and_assoc]
theorem keysIn_of_mem {a : List (Nat × AO)} (H : ∀ l o, (l, o) ∈ a → (h.any fun x => x.1 == l) = true ∧ o.alive = true) : keysIn h a := by
  induction a with
  | nil => trivial
  | cons x a ih =>
    obtain ⟨l, o⟩ := x
    obtain ⟨h1, h2⟩ := H l o List.mem_cons_self
    exact ⟨h1, h2, ih fun l o hm => H l o (List.mem_cons_of_mem _ hm)⟩
theorem keysIn_famL (hk : hasKeys h f ll.length) : keysIn h (famL f e sz G enc ll rest) = keysIn h rest := by
  unfold famL
  rw [eq_iff_iff, keysIn_app]
  refine ⟨fun h => h.2, fun hr => ⟨keysIn_of_mem fun l o hm => ?_, hr⟩⟩
  obtain ⟨i, hi, e⟩ := List.mem_mapIdx.1 hm
  simp only [Prod.mk.injEq] at e
  obtain ⟨rfl, rfl⟩ := e
  exact ⟨hk i hi, rfl⟩
theorem leHeap_app {σ σ' : Nat → AO} {a b : List (Nat × AO)} : leHeap σ σ' H0 (a ++ b) ↔ leHeap σ σ' H0 a ∧ leHeap σ σ' H0 b := by
  induction a with
  | nil => simp [leHeap]
  | cons x a ih =>
    obtain ⟨l, o⟩ := x
    simp only [List.cons_append, leHeap, ih, and_assoc]
theorem leHeap_of_mem {σ σ' : Nat → AO} {a : List (Nat × AO)} (H : ∀ l o, (l, o) ∈ a → LeO' σ σ' (hget H0 l).alive (hget H0 l).gen l) : leHeap σ σ' H0 a := by
  induction a with
  | nil => trivial
  | cons x a ih =>
    obtain ⟨l, o⟩ := x
    exact ⟨H l o List.mem_cons_self, ih fun l o hm => H l o (List.mem_cons_of_mem _ hm)⟩
/-- the check of a family, member by member -/
theorem leHeap_famL {σ σ' : Nat → AO} (H : ∀ i x, ll[i]? = some x → LeO' σ σ' (hget H0 (fx f i)).alive (hget H0 (fx f i)).gen (fx f i)) : leHeap σ σ' H0 (famL f e sz G enc ll rest) = leHeap σ σ' H0 rest := by
  unfold famL
  rw [eq_iff_iff, leHeap_app]
  refine ⟨fun h => h.2, fun hr => ⟨leHeap_of_mem fun l o hm => ?_, hr⟩⟩
  obtain ⟨i, hi, ee⟩ := List.mem_mapIdx.1 hm
  simp only [Prod.mk.injEq] at ee
  obtain ⟨rfl, rfl⟩ := ee
  exact H i _ (List.getElem?_eq_getElem hi)
theorem leO_arr {σ σ' : Nat → AO} {keep : Bool} {g0 l g g' : Nat} {xs : List PV} (h1 : σ l = .arr e sz g (xs.map .p)) (h2 : σ' l = .arr e sz g' (xs.map .p)) (hg : 1 ≤ g') (hk : keep = true → g' = g ∨ g0 < g') : LeO' σ σ' keep g0 l := by
  unfold LeO' LeObj
  rw [h1, h2]
  exact ⟨hg, rfl, rfl, LeVs_p _ _ _, hk⟩
theorem leO_new {σ σ' : Nat → AO} {keep : Bool} {g0 l g g' : Nat} (h1 : σ l = .dead g) (h2 : σ' l = .arr e sz g' []) (hg : 1 ≤ g') (hk : keep = false) : LeO' σ σ' keep g0 l := by
  unfold LeO' LeObj
  rw [h1, h2]
  exact ⟨hg, hk, rfl⟩
theorem leHeap_fam_eq (h1 : hasFam h f e sz G enc ll) (h2 : hasFam h' f e sz G enc ll) (hg : 1 ≤ G) : leHeap (hget h) (hget h') H0 (famL f e sz G enc ll rest) = leHeap (hget h) (hget h') H0 rest :=
  leHeap_famL fun i x hx => leO_arr (h1 i x hx) (h2 i x hx) hg fun _ => .inl rfl
theorem leHeap_fam_set {y : List α} (h1 : hasFamX h f i e sz G enc ll) (h2 : hasFam h' f e sz G enc (ll.set i y)) (hm : isMem (hget h (fx f i)) e sz enc y) (hg : 1 ≤ G) (hk : (hget h (fx f i)).gen = G ∨ famKeep H0 f G) :
    leHeap (hget h) (hget h') H0 (famL f e sz G enc (ll.set i y) rest) = leHeap (hget h) (hget h') H0 rest := by
  refine leHeap_famL fun j x hx => ?_
  have h3 := h2 j x hx
  by_cases hj : j = i
  · subst hj
    unfold isMem at hm
    split at hm
    · rename_i e' sz' g es ho
      obtain ⟨rfl, rfl, hme⟩ := hm
      unfold memEq at hme
      subst hme
      have hxy : x = y := by
        have hlt : j < ll.length := by have := (List.getElem?_eq_some_iff.1 hx).1; simpa using this
        rw [List.getElem?_set_self hlt] at hx; exact (Option.some.inj hx).symm
      subst hxy
      exact leO_arr ho h3 hg fun ha => by
        rcases hk with hk | hk
        · rw [ho] at hk; exact .inl hk.symm
        · exact .inr (hk j ha)
    · exact hm.elim
  · rw [List.getElem?_set_ne (fun e => hj e.symm)] at hx
    exact leO_arr (h1 j x hj hx) h3 hg fun _ => .inl rfl
theorem dead_of {o : AO} (h : o.alive = false) : ∃ g, o = .dead g := by
  cases o with
  | dead g => exact ⟨g, rfl⟩
  | arr _ _ _ _ => cases h
  | map _ _ _ => cases h
theorem leHeap_fam_snoc (h1 : hasFam h f e sz G enc ll) (h2 : hasFam h' f e sz G enc (ll ++ [[]])) (hd : (hget h (fx f ll.length)).alive = false) (hd0 : noObj H0 (fx f ll.length)) (hg : 1 ≤ G) :
    leHeap (hget h) (hget h') H0 (famL f e sz G enc (ll ++ [[]]) rest) = leHeap (hget h) (hget h') H0 rest := by
  refine leHeap_famL fun j x hx => ?_
  have h3 := h2 j x hx
  by_cases hj : j < ll.length
  · rw [List.getElem?_append_left hj] at hx
    exact leO_arr (h1 j x hx) h3 hg fun _ => .inl rfl
  · have hjl := (List.getElem?_eq_some_iff.1 hx).1
    simp only [List.length_append, List.length_singleton] at hjl
    have : j = ll.length := by omega
    subst this
    have hx' : x = [] := by
      rw [List.getElem?_append_right (Nat.le_refl _), Nat.sub_self] at hx
      exact (Option.some.inj hx).symm
    subst hx'
    obtain ⟨g, hg'⟩ := dead_of hd
    exact leO_new hg' h3 hg hd0
theorem leHeap_fam_init {n : Nat} (hd : famDead h f) (h2 : hasFam h' f e sz G enc (List.replicate n [])) (hd0 : famDead H0 f) (hg : 1 ≤ G) :
    leHeap (hget h) (hget h') H0 (famL f e sz G enc (List.replicate n []) rest) = leHeap (hget h) (hget h') H0 rest := by
  refine leHeap_famL fun j x hx => ?_
  have h3 := h2 j x hx
  have hx' : x = [] := by
    rw [List.getElem?_replicate] at hx
    split at hx
    · exact (Option.some.inj hx).symm
    · cases hx
  subst hx'
  obtain ⟨g, hg'⟩ := dead_of (hd j)
  exact leO_new hg' h3 hg (hd0 j)

theorem leHeap_fam_snocY {y : List α} (h1 : hasFam h f e sz G enc ll) (h2 : hasFam h' f e sz G enc (ll ++ [y])) (hm : isMem (hget h (fx f ll.length)) e sz enc y) (hg : 1 ≤ G) (hk : famKeep H0 f G) :
    leHeap (hget h) (hget h') H0 (famL f e sz G enc (ll ++ [y]) rest) = leHeap (hget h) (hget h') H0 rest := by
  refine leHeap_famL fun j x hx => ?_
  have h3 := h2 j x hx
  by_cases hj : j < ll.length
  · rw [List.getElem?_append_left hj] at hx
    exact leO_arr (h1 j x hx) h3 hg fun _ => .inl rfl
  · have hjl := (List.getElem?_eq_some_iff.1 hx).1
    simp only [List.length_append, List.length_singleton] at hjl
    have : j = ll.length := by omega
    subst this
    have hx' : x = y := by
      rw [List.getElem?_append_right (Nat.le_refl _), Nat.sub_self] at hx
      exact (Option.some.inj hx).symm
    subst hx'
    unfold isMem at hm
    split at hm
    · rename_i e' sz' g es ho
      obtain ⟨rfl, rfl, hme⟩ := hm
      unfold memEq at hme
      subst hme
      exact leO_arr ho h3 hg fun ha => .inr (hk _ ha)
    · exact hm.elim

/-! ### the outer array -/
theorem LeVs_iff {σ σ' : Nat → AO} : ∀ {cs cs' : List AV}, cs.length = cs'.length → (∀ (j : Nat) c c', cs[j]? = some c → cs'[j]? = some c' → LeV σ σ' c c') → LeVs σ σ' cs cs'
  | [], [], _, _ => rfl
  | [], _ :: _, h, _ => by simp at h
  | _ :: _, [], h, _ => by simp at h
  | c :: cs, c' :: cs', h, H => ⟨H 0 c c' rfl rfl, LeVs_iff (by simpa using h) fun j d d' h1 h2 => H (j + 1) d d' (by simpa using h1) (by simpa using h2)⟩
theorem LeV_own {σ σ' : Nat → AO} {l g g' off n : Nat} {es es' : List AV} {e sz e' sz' : Nat} (h1 : σ l = .arr e sz g es) (h2 : σ' l = .arr e' sz' g' es') : LeV σ σ' (.own l g off n) (.own l g' off n) := by
  refine .inl ⟨by rw [h1]; rfl, by rw [h2]; rfl, by rw [h2]; rfl, by rw [h1]; rfl⟩
theorem LeVs_fam_eq (h1 : hasFam h f e sz G enc ll) (h2 : hasFam h' f e sz G' enc ll) : LeVs (hget h) (hget h') (famR f e sz G enc ll) (famR f e sz G' enc ll) = True := by
  rw [eq_iff_iff, iff_true]
  refine LeVs_iff (by rw [famR_len, famR_len]) fun j c c' hc hc' => ?_
  rw [famR_get] at hc hc'
  cases hx : ll[j]? with
  | none => rw [hx] at hc; cases hc
  | some x =>
    rw [hx] at hc hc'
    cases hc; cases hc'
    exact LeV_own (h1 j x hx) (h2 j x hx)
theorem LeVs_fam_set {y : List α} {g m : Nat} (h1 : hasFamX h f i e sz G enc ll) (h2 : hasFam h' f e sz G enc (ll.set i y)) (hg : (hget h (fx f i)).gen = g) (ha : (hget h (fx f i)).alive = true) (hm : lenEq m y) :
    LeVs (hget h) (hget h') ((famR f e sz G enc ll).set i (.own (fx f i) g 0 m)) (famR f e sz G enc (ll.set i y)) = True := by
  rw [eq_iff_iff, iff_true]
  unfold lenEq at hm
  subst hm
  refine LeVs_iff (by rw [List.length_set, famR_len, famR_len, List.length_set]) fun j c c' hc hc' => ?_
  rw [famR_get] at hc'
  cases hx : (ll.set i y)[j]? with
  | none => rw [hx] at hc'; cases hc'
  | some x =>
    rw [hx] at hc'
    cases hc'
    have h3 := h2 j x hx
    have hlt : j < ll.length := by have := (List.getElem?_eq_some_iff.1 hx).1; simpa using this
    by_cases hj : j = i
    · subst hj
      rw [List.getElem?_set_self (by rw [famR_len]; exact hlt)] at hc
      cases hc
      rw [List.getElem?_set_self hlt] at hx
      cases hx
      exact .inl ⟨by rw [hg], by rw [h3]; rfl, by rw [h3]; rfl, ha⟩
    · rw [List.getElem?_set_ne (fun e => hj e.symm), famR_get] at hc
      rw [List.getElem?_set_ne (fun e => hj e.symm)] at hx
      rw [hx] at hc
      cases hc
      exact LeV_own (h1 j x hj hx) h3
theorem LeVs_fam_elem {y : List α} (h1 : hasFamX h f i e sz G enc ll) (h2 : hasFam h' f e sz G enc (ll.set i y)) (hg : (hget h (fx f i)).gen = G) (ha : (hget h (fx f i)).alive = true) (hm : (ll[i]?).elim False fun x => lenEq x.length y) :
    LeVs (hget h) (hget h') (famR f e sz G enc ll) (famR f e sz G enc (ll.set i y)) = True := by
  have := LeVs_fam_set (y := y) (m := y.length) h1 h2 hg ha rfl
  have e : (famR f e sz G enc ll).set i (.own (fx f i) G 0 y.length) = famR f e sz G enc ll := by
    apply List.ext_getElem?
    intro j
    by_cases hj : j = i
    · subst hj
      cases hx : ll[j]? with
      | none => rw [hx] at hm; exact hm.elim
      | some x =>
        have hlt := (List.getElem?_eq_some_iff.1 hx).1
        rw [hx] at hm
        replace hm : x.length = y.length := hm
        rw [List.getElem?_set_self (by rw [famR_len]; exact hlt), famR_get, hx]
        simp [hm]
    · rw [List.getElem?_set_ne (fun e => hj e.symm)]
  rw [e] at this
  exact this
theorem LeVs_fam_snoc (h1 : hasFam h f e sz G enc ll) (h2 : hasFam h' f e sz G enc (ll ++ [[]])) (hd : (hget h (fx f ll.length)).alive = false) :
    LeVs (hget h) (hget h') (famR f e sz G enc ll ++ [.nils]) (famR f e sz G enc (ll ++ [[]])) = True := by
  rw [eq_iff_iff, iff_true]
  refine LeVs_iff (by simp [famR_len]) fun j c c' hc hc' => ?_
  rw [famR_get] at hc'
  cases hx : (ll ++ [[]])[j]? with
  | none => rw [hx] at hc'; cases hc'
  | some x =>
    rw [hx] at hc'
    cases hc'
    have h3 := h2 j x hx
    by_cases hj : j < ll.length
    · rw [List.getElem?_append_left (by rw [famR_len]; exact hj), famR_get] at hc
      rw [List.getElem?_append_left hj] at hx
      rw [hx] at hc
      cases hc
      exact LeV_own (h1 j x hx) h3
    · have hjl := (List.getElem?_eq_some_iff.1 hx).1
      simp only [List.length_append, List.length_singleton] at hjl
      have : j = ll.length := by omega
      subst this
      rw [List.getElem?_append_right (by rw [famR_len]; exact Nat.le_refl _), famR_len, Nat.sub_self] at hc
      cases hc
      have hx' : x = [] := by
        rw [List.getElem?_append_right (Nat.le_refl _), Nat.sub_self] at hx
        exact (Option.some.inj hx).symm
      subst hx'
      exact .inr ⟨rfl, rfl, rfl, hd, by rw [h3]; rfl⟩
theorem LeVs_fam_snocY {y : List α} {g m : Nat} (h1 : hasFam h f e sz G enc ll) (h2 : hasFam h' f e sz G enc (ll ++ [y])) (hg : (hget h (fx f ll.length)).gen = g) (ha : (hget h (fx f ll.length)).alive = true) (hm : lenEq m y) :
    LeVs (hget h) (hget h') (famR f e sz G enc ll ++ [.own (fx f ll.length) g 0 m]) (famR f e sz G enc (ll ++ [y])) = True := by
  rw [eq_iff_iff, iff_true]
  unfold lenEq at hm
  subst hm
  refine LeVs_iff (by simp [famR_len]) fun j c c' hc hc' => ?_
  rw [famR_get] at hc'
  cases hx : (ll ++ [y])[j]? with
  | none => rw [hx] at hc'; cases hc'
  | some x =>
    rw [hx] at hc'
    cases hc'
    have h3 := h2 j x hx
    by_cases hj : j < ll.length
    · rw [List.getElem?_append_left (by rw [famR_len]; exact hj), famR_get] at hc
      rw [List.getElem?_append_left hj] at hx
      rw [hx] at hc
      cases hc
      exact LeV_own (h1 j x hx) h3
    · have hjl := (List.getElem?_eq_some_iff.1 hx).1
      simp only [List.length_append, List.length_singleton] at hjl
      have : j = ll.length := by omega
      subst this
      rw [List.getElem?_append_right (by rw [famR_len]; exact Nat.le_refl _), famR_len, Nat.sub_self] at hc
      cases hc
      have hx' : x = y := by
        rw [List.getElem?_append_right (Nat.le_refl _), Nat.sub_self] at hx
        exact (Option.some.inj hx).symm
      subst hx'
      exact .inl ⟨by rw [hg], by rw [h3]; rfl, by rw [h3]; rfl, ha⟩
theorem LeVs_fam_init {n : Nat} (hd : famDead h f) (h2 : hasFam h' f e sz G enc (List.replicate n [])) : LeVs (hget h) (hget h') (List.replicate n .nils) (famR f e sz G enc (List.replicate n [])) = True := by
  rw [eq_iff_iff, iff_true]
  refine LeVs_iff (by simp [famR_len]) fun j c c' hc hc' => ?_
  rw [famR_get] at hc'
  cases hx : (List.replicate n ([] : List α))[j]? with
  | none => rw [hx] at hc'; cases hc'
  | some x =>
    rw [hx] at hc'
    cases hc'
    have h3 := h2 j x hx
    have hx' : x = [] := by
      rw [List.getElem?_replicate] at hx
      split at hx
      · exact (Option.some.inj hx).symm
      · cases hx
    subst hx'
    have hc2 : c = .nils := by
      rw [List.getElem?_replicate] at hc
      split at hc
      · exact (Option.some.inj hc).symm
      · cases hc
    subst hc2
    exact .inr ⟨rfl, rfl, rfl, hd j, by rw [h3]; rfl⟩
/-- the whole family as a value -/
theorem viewAll_famR (D : Nat → Bool) (n : Nat) (h1 : hasFam h f e sz G enc ll) (hD : ∀ i, D (fx f i) = true) : (viewAll (view D (n + 2)) (famR f e sz G enc ll)).run (hget h) = some (List.map (encL enc) ll) := by
  have key : ∀ (r : List (List α)) (k : Nat), (∀ j x, r[j]? = some x → hget h (fx f (k + j)) = .arr e sz G (List.map AV.p (List.map enc x))) →
      (viewAll (view D (n + 2)) (r.mapIdx fun i x => AV.own (fx f (k + i)) G 0 x.length)).run (hget h) = some (List.map (encL enc) r) := by
    intro r
    induction r with
    | nil => intro k _; rfl
    | cons x r ih =>
      intro k H
      have h0 := H 0 x rfl
      rw [Nat.add_zero] at h0
      have h2 := ih (k + 1) fun j y hy => by
        have := H (j + 1) y (by simpa using hy)
        rwa [show k + (j + 1) = k + 1 + j by omega] at this
      rw [List.mapIdx_cons]
      simp only [viewAll, L.run_bind', Nat.add_zero]
      have e1 : (view D (n + 2) (.own (fx f k) G 0 x.length)).run (hget h) = some (encL enc x) := by
        simp only [view, hD, if_true, L.run_look, h0]
        rw [if_pos ⟨trivial, by simp⟩]
        rw [L.run_bind', List.drop_zero, List.take_of_length_le (by simp), viewAll_p]
        rfl
      rw [e1]
      have e2 : (fun i (y : List α) => AV.own (fx f (k + (i + 1))) G 0 y.length) = fun i (y : List α) => AV.own (fx f (k + 1 + i)) G 0 y.length := by
        funext i y
        rw [show k + (i + 1) = k + 1 + i by omega]
      simp only [Option.bind_some, e2, h2]
      rfl
  have := key ll 0 fun j x hx => by rw [Nat.zero_add]; exact h1 j x hx
  simpa only [famR, Nat.zero_add] using this
end
end Go.Ab
/-
  Part 36: objects at other places.
-/
namespace Go.Ab
open Go
set_option linter.unusedVariables false
set_option linter.unusedSimpArgs false

mutual
def renV (π : Nat → Nat) : AV → AV
  | .any => .any
  | .p x => .p x
  | .nils => .nils
  | .loc l g i off => .loc (π l) g i off
  | .own l g off n => .own (π l) g off n
  | .mapo l g => .mapo (π l) g
  | .func fn cs => .func fn (renVs π cs)
  | .agg cs => .agg (renVs π cs)
  | .tup cs => .tup (renVs π cs)
def renVs (π : Nat → Nat) : List AV → List AV
  | [] => []
  | c :: r => renV π c :: renVs π r
end
def renO (π : Nat → Nat) : AO → AO
  | .dead g => .dead g
  | .arr e sz g es => .arr e sz g (renVs π es)
  | .map g ks vs => .map g (renVs π ks) (renVs π vs)
theorem renVs_map (π : Nat → Nat) : ∀ l : List AV, renVs π l = l.map (renV π)
  | [] => rfl
  | c :: r => by simp only [renVs, List.map_cons, renVs_map π r]
theorem renVs_p (π : Nat → Nat) (xs : List PV) : renVs π (List.map AV.p xs) = List.map AV.p xs := by
  rw [renVs_map, List.map_map]; rfl
theorem renVs_rep (π : Nat → Nat) (n : Nat) (v : PV) : renVs π (List.replicate n (AV.p v)) = List.replicate n (AV.p v) := by
  rw [renVs_map, List.map_replicate]; rfl
theorem renVs_repn (π : Nat → Nat) (n : Nat) : renVs π (List.replicate n AV.nils) = List.replicate n AV.nils := by
  rw [renVs_map, List.map_replicate]; rfl
theorem renVs_len (π : Nat → Nat) (l : List AV) : (renVs π l).length = l.length := by rw [renVs_map, List.length_map]
theorem renVs_set (π : Nat → Nat) (l : List AV) (i : Nat) (v : AV) : renVs π (l.set i v) = (renVs π l).set i (renV π v) := by rw [renVs_map, renVs_map, List.map_set]
theorem renVs_app (π : Nat → Nat) (a b : List AV) : renVs π (a ++ b) = renVs π a ++ renVs π b := by rw [renVs_map, renVs_map, renVs_map, List.map_append]
theorem renO_gen (π : Nat → Nat) (o : AO) : (renO π o).gen = o.gen := by cases o <;> rfl
theorem renO_alive (π : Nat → Nat) (o : AO) : (renO π o).alive = o.alive := by cases o <;> rfl

section
variable {X : Nat → Prop} {inj : Inj} {σ : Nat → AO} {w : World} {π : Nat → Nat}
abbrev renS (π : Nat → Nat) (σ : Nat → AO) : Nat → AO := fun l => renO π (σ (π l))
abbrev renI (π : Nat → Nat) (inj : Inj) : Inj := fun l => inj (π l)
theorem renF (hπ : ∀ l, π (π l) = l) (D : Nat → Bool) (hD : ∀ l, D l = false) (b : Nat) : F (renI π inj) (renS π σ) b ↔ F inj σ b := by
  constructor
  · rintro ⟨l, c, o, h1, h2, _, h3⟩
    refine ⟨π l, c, σ (π l), rfl, ?_, rfl, h3⟩
    rw [← h1, renO_alive] at h2; exact h2
  · rintro ⟨l, c, o, h1, h2, _, h3⟩
    refine ⟨π l, c, renO π o, ?_, by rw [renO_alive]; exact h2, rfl, ?_⟩
    · show renO π (σ (π (π l))) = renO π o
      rw [hπ, h1]
    · show inj (π (π l)) = some (b, c)
      rw [hπ]; exact h3
theorem renO_arr {o : AO} {e sz g : Nat} {es : List AV} (h : renO π o = .arr e sz g es) : ∃ es0, o = .arr e sz g es0 ∧ es = renVs π es0 := by
  cases o with
  | dead _ => cases h
  | arr e' sz' g' es0 =>
    simp only [renO, AO.arr.injEq] at h
    obtain ⟨rfl, rfl, rfl, rfl⟩ := h
    exact ⟨es0, rfl, rfl⟩
  | map _ _ _ => cases h
theorem renO_map {o : AO} {g : Nat} {ks vs : List AV} (h : renO π o = .map g ks vs) : ∃ ks0 vs0, o = .map g ks0 vs0 := by
  cases o with
  | dead _ => cases h
  | arr _ _ _ _ => cases h
  | map g' ks0 vs0 =>
    simp only [renO, AO.map.injEq] at h
    obtain ⟨rfl, rfl, rfl⟩ := h
    exact ⟨ks0, vs0, rfl⟩
mutual
theorem AR.ren (hπ : ∀ l, π (π l) = l) : ∀ (v : AV) (val : Value), AR X inj σ w v val → AR X (renI π inj) (renS π σ) w (renV π v) val
  | .any, _, _ => trivial
  | .p x, val, h => by
    have e : (fun b => X b ∨ F inj σ b) = fun b => X b ∨ F (renI π inj) (renS π σ) b := by
      funext b
      rw [renF (inj := inj) (σ := σ) hπ (fun _ => false) (fun _ => rfl) b]
    simp only [renV, AR] at *
    rw [← e]; exact h
  | .nils, _, h => h
  | .loc l g i off, val, h => by
    obtain ⟨h1, h2⟩ := h
    refine ⟨h1, fun o ho => ?_⟩
    have ho : renO π (σ l) = o := by rw [← ho]; show _ = renO π (σ (π (π l))); rw [hπ]
    obtain ⟨h3, h4⟩ := h2 _ rfl
    rw [← ho, renO_gen]
    refine ⟨h3, fun hg e sz es he => ?_⟩
    obtain ⟨es0, he0, _⟩ := renO_arr he
    obtain ⟨b, c, h5, h6⟩ := h4 hg e sz es0 he0
    exact ⟨b, c, by show inj (π (π l)) = _; rw [hπ]; exact h5, h6⟩
  | .own l g off n, val, h => by
    obtain ⟨h1, h2⟩ := h
    refine ⟨h1, fun o ho => ?_⟩
    have ho : renO π (σ l) = o := by rw [← ho]; show _ = renO π (σ (π (π l))); rw [hπ]
    obtain ⟨h3, h4⟩ := h2 _ rfl
    rw [← ho, renO_gen]
    refine ⟨h3, fun hg e sz es he => ?_⟩
    obtain ⟨es0, he0, he1⟩ := renO_arr he
    have hi : renI π inj (π l) = inj l := by show inj (π (π l)) = _; rw [hπ]
    rw [he1, renVs_len, hi]
    exact h4 hg e sz es0 he0
  | .mapo l g, val, h => by
    obtain ⟨h1, h2⟩ := h
    refine ⟨h1, fun o ho => ?_⟩
    have ho : renO π (σ l) = o := by rw [← ho]; show _ = renO π (σ (π (π l))); rw [hπ]
    obtain ⟨h3, h4⟩ := h2 _ rfl
    rw [← ho, renO_gen]
    refine ⟨h3, fun hg ks vs he => ?_⟩
    obtain ⟨ks0, vs0, he0⟩ := renO_map he
    obtain ⟨b, c, h5, h6⟩ := h4 hg ks0 vs0 he0
    exact ⟨b, c, by show inj (π (π l)) = _; rw [hπ]; exact h5, h6⟩
  | .func fn cs, val, h => by
    obtain ⟨vs, h1, h2⟩ := h
    exact ⟨vs, h1, ARs.ren hπ cs vs h2⟩
  | .agg cs, val, h => by
    obtain ⟨vs, h1, h2, h3⟩ := h
    exact ⟨vs, h1, ARs.ren hπ cs vs h2, h3⟩
  | .tup cs, val, h => by
    obtain ⟨vs, h1, h2⟩ := h
    exact ⟨vs, h1, ARs.ren hπ cs vs h2⟩
theorem ARs.ren (hπ : ∀ l, π (π l) = l) : ∀ (vs : List AV) (vals : List Value), ARs X inj σ w vs vals → ARs X (renI π inj) (renS π σ) w (renVs π vs) vals
  | [], _, h => h
  | c :: r, _, h => by
    obtain ⟨v, rs, h1, h2, h3⟩ := h
    exact ⟨v, rs, h1, AR.ren hπ c v h2, ARs.ren hπ r rs h3⟩
end
theorem HR.ren (hπ : ∀ l, π (π l) = l) (h : HR X inj σ w) : HR X (renI π inj) (renS π σ) w := by
  refine ⟨fun l o ho => ?_, fun l l' o o' b c c' h1 h2 a1 a2 h3 h4 => ?_, h.xlt⟩
  · have h1 := h.obj (π l) _ rfl
    subst ho
    show OR X (renI π inj) (renS π σ) w l (renO π (σ (π l)))
    cases hs : σ (π l) with
    | dead g => trivial
    | arr e sz g es =>
      rw [hs] at h1
      obtain ⟨vs, q1, q2, q3, q4⟩ := h1
      refine ⟨vs, ARs.ren hπ es vs q1, q2, q3, ?_⟩
      rw [renVs_len]
      rcases q4 with ⟨q4, q5⟩ | q4
      · exact .inl ⟨q4, by rw [q5]; rfl⟩
      · exact .inr q4
    | map g ks vs =>
      rw [hs] at h1
      obtain ⟨b, c, ms, clock, q1, q2, q3, q4, q5⟩ := h1
      exact ⟨b, c, ms, clock, q1, q2, q3, ARs.ren hπ ks _ q4, ARs.ren hπ vs _ q5⟩
  · have := h.inj1 (π l) (π l') _ _ b c c' rfl rfl (by rw [← h1, renO_alive] at a1; exact a1) (by rw [← h2, renO_alive] at a2; exact a2) h3 h4
    have := congrArg π this
    rwa [hπ, hπ] at this
end

def hren (π : Nat → Nat) (h : List (Nat × AO)) : List (Nat × AO) := h.map fun x => (π x.1, renO π x.2)
def renE (π : Nat → Nat) (env : Env) : Env := env.map fun x => (x.1, renV π x.2)
theorem hget_hren {π : Nat → Nat} (hπ : ∀ l, π (π l) = l) (h : List (Nat × AO)) (l : Nat) : hget (hren π h) l = renO π (hget h (π l)) := by
  induction h with
  | nil => rfl
  | cons x h ih =>
    obtain ⟨k, o⟩ := x
    simp only [hren, List.map_cons, hget]
    by_cases hk : π k = l
    · have : k = π l := by rw [← hk, hπ]
      rw [if_pos hk, if_pos this]
    · have : ¬ k = π l := fun e => hk (by rw [e, hπ])
      rw [if_neg hk, if_neg this]; exact ih
theorem renE_get (π : Nat → Nat) (env : Env) (t : Nat) : (renE π env).get t = renV π (env.get t) := by
  induction env with
  | nil => rfl
  | cons x env ih =>
    obtain ⟨k, v⟩ := x
    simp only [renE, List.map_cons, Env.get]
    split
    · rfl
    · exact ih
/-- what may come to a place that held o0 when the call began -/
def RenOk (o0 o : AO) : Prop := o0.gen ≤ o.gen ∧ (o.alive = true → o0.gen < o.gen)
variable {C : Cx} {Q : Exit → St → Prop} {st : St} {inj : Inj} {a : Act} {w : World}
theorem SR.ren {π : Nat → Nat} (hπ : ∀ l, π (π l) = l) (hs : SR C st inj a w) (hm : ∀ l, π l ≠ l → RenOk (hget C.H0 l) (hget st.heap (π l))) :
    SR C ⟨renE π st.env, hren π st.heap⟩ (renI π inj) a w := by
  have hsig : (hget (hren π st.heap)) = renS π (hget st.heap) := by funext l; exact hget_hren hπ _ l
  refine ⟨fun t => ?_, hs.size, hs.defers, ?_, ?_⟩
  · show AR C.X (renI π inj) (hget (hren π st.heap)) w ((renE π st.env).get t) _
    rw [hsig, renE_get]
    exact AR.ren hπ _ _ (hs.env t)
  · show HR C.X (renI π inj) (hget (hren π st.heap)) w
    rw [hsig]
    exact HR.ren hπ hs.hr
  · show Ev C.D C.X C.inj0 (hget C.H0) C.w0 (renI π inj) (hget (hren π st.heap)) w
    rw [hsig]
    refine ⟨hs.ev.os, hs.ev.tape, hs.ev.output, hs.ev.dr, hs.ev.size, hs.ev.fz, hs.ev.blk, fun b hb => hs.ev.fp b ((renF hπ (fun _ => false) (fun _ => rfl) b).1 hb), fun l => ?_⟩
    by_cases hl : π l = l
    · have h0 := hs.ev.objs l
      show OEv (hget C.H0 l) (renO π (hget st.heap (π l))) (inj (π l) = C.inj0 l)
      rw [hl]
      refine ⟨by rw [renO_gen]; exact h0.1, fun ha hg => ?_⟩
      rw [renO_alive] at ha
      rw [renO_gen] at hg
      obtain ⟨h1, h2⟩ := h0.2 ha hg
      refine ⟨h1, ?_⟩
      rcases h2 with ⟨e, sz, es, es', q1, q2, q3⟩ | ⟨ks, vs, ks', vs', q1, q2⟩
      · exact .inl ⟨e, sz, es, renVs π es', q1, by rw [show st.sig l = hget st.heap l from rfl] at q2; rw [q2]; rfl, by rw [renVs_len]; exact q3⟩
      · exact .inr ⟨ks, vs, renVs π ks', renVs π vs', q1, by rw [show st.sig l = hget st.heap l from rfl] at q2; rw [q2]; rfl⟩
    · obtain ⟨h1, h2⟩ := hm l hl
      refine ⟨by show _ ≤ (renO π (hget st.heap (π l))).gen; rw [renO_gen]; exact h1, fun ha hg => ?_⟩
      have ha' : (hget st.heap (π l)).alive = true := by
        have : (renO π (hget st.heap (π l))).alive = true := ha
        rwa [renO_alive] at this
      have hg' : (hget C.H0 l).gen = (hget st.heap (π l)).gen := by
        have : (hget C.H0 l).gen = (renO π (hget st.heap (π l))).gen := hg
        rwa [renO_gen] at this
      have := h2 ha'
      omega
/-- two places change sides -/
def swp (a b l : Nat) : Nat := if l = a then b else if l = b then a else l
theorem swp_inv (a b l : Nat) : swp a b (swp a b l) = l := by
  unfold swp
  by_cases h1 : l = a
  · subst h1
    by_cases h2 : b = l
    · subst h2; simp
    · simp [h2]
  · by_cases h2 : l = b
    · subst h2; simp [h1]
    · simp [h1, h2]
theorem SR.swp {x y : Nat} (hs : SR C st inj a w) (h1 : RenOk (hget C.H0 x) (hget st.heap y)) (h2 : RenOk (hget C.H0 y) (hget st.heap x)) : SR C ⟨renE (swp x y) st.env, hren (swp x y) st.heap⟩ (renI (swp x y) inj) a w := by
  refine hs.ren (swp_inv x y) fun l hl => ?_
  unfold Ab.swp at hl ⊢
  by_cases e1 : l = x
  · subst e1; simpa using h1
  · by_cases e2 : l = y
    · subst e2
      by_cases e3 : l = x
      · exact absurd e3 e1
      · simpa [e3] using h2
    · simp [e1, e2] at hl
/-! ### families under an exchange of a plain place and a member -/
section
variable {α : Type} {h : List (Nat × AO)} {f i d e sz G : Nat} {enc : α → PV} {ll : List (List α)}
theorem hget_swp (x y : Nat) (h : List (Nat × AO)) (l : Nat) : hget (hren (swp x y) h) l = renO (swp x y) (hget h (swp x y l)) := hget_hren (swp_inv x y) h l
theorem swp_fx_ne {j : Nat} (hd : d < 1048576) (hj : j ≠ i) : swp d (fx f i) (fx f j) = fx f j := by
  unfold swp
  have h1 : ¬ fx f j = d := fun e => fx_low hd e.symm
  have h2 : ¬ fx f j = fx f i := by rw [fx_inj]; exact hj
  rw [if_neg h1, if_neg h2]
theorem renVs_p_inv {π : Nat → Nat} : ∀ {es : List AV} {xs : List PV}, renVs π es = List.map AV.p xs → es = List.map AV.p xs
  | [], [], _ => rfl
  | [], _ :: _, h => by simp [renVs] at h
  | _ :: _, [], h => by simp [renVs] at h
  | c :: es, x :: xs, h => by
    simp only [renVs, List.map_cons, List.cons.injEq] at h
    obtain ⟨h1, h2⟩ := h
    rw [renVs_p_inv h2, List.map_cons]
    congr 1
    cases c <;> simp_all [renV]
theorem renO_pure {π : Nat → Nat} {o : AO} {xs : List PV} : (renO π o = .arr e sz G (List.map AV.p xs)) = (o = .arr e sz G (List.map AV.p xs)) := by
  rw [eq_iff_iff]
  constructor
  · intro h
    obtain ⟨es0, rfl, h2⟩ := renO_arr h
    rw [renVs_p_inv h2.symm]
  · rintro rfl
    simp only [renO, renVs_p]
theorem swp_hasFamX (hd : d < 1048576) : hasFamX (hren (swp d (fx f i)) h) f i e sz G enc ll = hasFamX h f i e sz G enc ll := by
  unfold hasFamX
  rw [eq_iff_iff]
  constructor
  · intro H j x hj hx
    have := H j x hj hx
    rw [hget_swp, swp_fx_ne hd hj, renO_pure] at this
    exact this
  · intro H j x hj hx
    rw [hget_swp, swp_fx_ne hd hj, renO_pure]
    exact H j x hj hx
theorem swp_hasFam_len (hd : d < 1048576) : hasFam (hren (swp d (fx f ll.length)) h) f e sz G enc ll = hasFam h f e sz G enc ll := by
  unfold hasFam
  rw [eq_iff_iff]
  constructor
  · intro H j x hx
    have hj := (List.getElem?_eq_some_iff.1 hx).1
    have := H j x hx
    rw [hget_swp, swp_fx_ne hd (by omega), renO_pure] at this
    exact this
  · intro H j x hx
    have hj := (List.getElem?_eq_some_iff.1 hx).1
    rw [hget_swp, swp_fx_ne hd (by omega), renO_pure]
    exact H j x hx
theorem swp_famR_set (hd : d < 1048576) (v : AV) : (renVs (swp d (fx f i)) (famR f e sz G enc ll)).set i v = (famR f e sz G enc ll).set i v := by
  apply List.ext_getElem?
  intro j
  by_cases hj : j = i
  · subst hj
    rw [List.getElem?_set, List.getElem?_set, renVs_len]
    simp
  · rw [List.getElem?_set_ne (fun e => hj e.symm), List.getElem?_set_ne (fun e => hj e.symm), renVs_map, List.getElem?_map, famR_get]
    cases ll[j]? with
    | none => rfl
    | some x => simp only [Option.map_some, renV, swp_fx_ne hd hj]
theorem swp_famR_len (hd : d < 1048576) : renVs (swp d (fx f ll.length)) (famR f e sz G enc ll) = famR f e sz G enc ll := by
  apply List.ext_getElem?
  intro j
  rw [renVs_map, List.getElem?_map, famR_get]
  cases hx : ll[j]? with
  | none => rfl
  | some x =>
    have hj := (List.getElem?_eq_some_iff.1 hx).1
    simp only [Option.map_some, renV, swp_fx_ne hd (show j ≠ ll.length by omega)]
theorem swp_low {k : Nat} (h1 : (k = d) = False) (h2 : k < 1048576) : swp d (fx f i) k = k := by
  replace h1 : ¬ k = d := of_eq_false h1
  unfold swp
  have : ¬ k = fx f i := fx_low h2
  rw [if_neg h1, if_neg this]
theorem swp_here : swp d (fx f i) (fx f i) = d := by unfold swp; split <;> simp_all
theorem swp_there : swp d (fx f i) d = fx f i := by unfold swp; simp
end
end Go.Ab
/-
  Part 37: how families are reckoned.
-/
namespace Go.Ab
open Go
set_option linter.unusedVariables false
section
variable {α : Type} {h : List (Nat × AO)} {f e sz G : Nat} {enc : α → PV} {ll : List (List α)}
theorem viewAll8_fam (D : Nat → Bool) (h1 : hasFam h f e sz G enc ll) (hD : ∀ i, D (fx f i) = true) : (viewAll (view D 8) (famR f e sz G enc ll)).run (hget h) = some (List.map (encL enc) ll) := viewAll_famR D 6 h1 hD
theorem viewAll7_fam (D : Nat → Bool) (h1 : hasFam h f e sz G enc ll) (hD : ∀ i, D (fx f i) = true) : (viewAll (view D 7) (famR f e sz G enc ll)).run (hget h) = some (List.map (encL enc) ll) := viewAll_famR D 5 h1 hD
theorem viewAll6_fam (D : Nat → Bool) (h1 : hasFam h f e sz G enc ll) (hD : ∀ i, D (fx f i) = true) : (viewAll (view D 6) (famR f e sz G enc ll)).run (hget h) = some (List.map (encL enc) ll) := viewAll_famR D 4 h1 hD
theorem famR_take : (famR f e sz G enc ll).take ll.length = famR f e sz G enc ll := List.take_of_length_le (by rw [famR_len]; exact Nat.le_refl _)
theorem gen_ite (c : Prop) [Decidable c] (a b : AO) : (if c then a else b).gen = if c then a.gen else b.gen := by split <;> rfl
theorem alive_ite (c : Prop) [Decidable c] (a b : AO) : (if c then a else b).alive = if c then a.alive else b.alive := by split <;> rfl
theorem lt_cast_succ (n : Nat) : ((n : Int) < ((n + 1 : Nat) : Int)) = True := by simp; omega
theorem ite_same {β : Type} (c : Prop) [Decidable c] (a : β) : (if c then a else a) = a := ite_self a
end
theorem renE_cons (π : Nat → Nat) (t : Nat) (v : AV) (r : Env) : renE π ((t, v) :: r) = (t, renV π v) :: renE π r := rfl
theorem renE_nil (π : Nat → Nat) : renE π [] = [] := rfl
theorem take_all_of {β : Type} {l : List β} {n : Nat} (h : l.length = n) : l.take n = l := List.take_of_length_le (by omega)
theorem slc_encL {β : Type} (l : List PV) (f : β → PV) (x : List β) : (PV.slc l = encL f x) = (l = List.map f x) := by simp [encL]
attribute [simp] slc_encL
attribute [go_sem] take_all_of slc_encL lit_ne_fx fx_ne_lit fx_inj famR_get famR_len famR_nil famR_take famL_nil famL_low famL_fx famL_other get_at_len Option.elim_some Option.elim_none
  hasFam_low hasFam_same hasFam_other hasFam_none hasFamX_low hasFamX_here hasFamX_same hasFamX_other famDead_low famDead_nil famDead_none famDead_other famKeep_low famKeep_nil famKeep_same famKeep_other
  hasKeys_cons hasKeys_same hasKeys_rest noObj_nil noObj_low noObj_fam noObj_other isMem_arr lenEq_self lenEq_set lenEq_set2 lenEq_snoc lenEq_app lenEq_rep lenEq_one lenEq_nil lenEq_of memEq_self memEq_nil memEq_app memEq_snoc memEq_one memEq_set memEq_rep memEq_snoc' memEq_app' memEq_set' keysIn_famL leHeap_fam_eq leHeap_fam_set leHeap_fam_snoc leHeap_fam_snocY leHeap_fam_init LeVs_fam_eq LeVs_fam_set LeVs_fam_elem LeVs_fam_snoc LeVs_fam_snocY LeVs_fam_init
  viewAll8_fam viewAll7_fam viewAll6_fam gen_ite alive_ite ite_same lt_cast_succ
  hget_swp renV renVs renO renVs_p renVs_set renVs_app renVs_rep renVs_repn renE_cons renE_nil swp_hasFamX swp_hasFam_len swp_famR_set swp_famR_len swp_low swp_here swp_there RenOk
variable {C : Cx} {Q : Exit → St → Prop} {st : St}
end Go.Ab
namespace Go.Ab
open Go
section
variable {α : Type} {h h' H0 rest : List (Nat × AO)} {f e sz G : Nat} {enc : α → PV}
theorem leHeap_fam_one (h2 : hasFam h' f e sz G enc [[]]) (hd : (hget h (fx f 0)).alive = false) (hd0 : noObj H0 (fx f 0)) (hg : 1 ≤ G) :
    leHeap (hget h) (hget h') H0 (famL f e sz G enc [[]] rest) = leHeap (hget h) (hget h') H0 rest := leHeap_fam_snoc (ll := []) (fun _ _ h => by simp at h) h2 hd hd0 hg
theorem LeVs_fam_one (h2 : hasFam h' f e sz G enc [[]]) (hd : (hget h (fx f 0)).alive = false) : LeVs (hget h) (hget h') [.nils] (famR f e sz G enc [[]]) = True :=
  LeVs_fam_snoc (ll := []) (fun _ _ h => by simp at h) h2 hd
end
attribute [go_sem] leHeap_fam_one LeVs_fam_one
end Go.Ab
namespace Go.Ab
open Go
section
variable {α : Type} {h h' H0 rest : List (Nat × AO)} {f e sz G : Nat} {enc : α → PV} {ll : List (List α)}
/-- the members become values -/
theorem LeVs_fam_view (h1 : hasFam h f e sz G enc ll) (h2 : famDead h' f) : LeVs (hget h) (hget h') (famR f e sz G enc ll) (List.map AV.p (List.map (encL enc) ll)) = True := by
  rw [eq_iff_iff, iff_true]
  refine LeVs_iff (by simp [famR_len]) fun j c c' hc hc' => ?_
  rw [famR_get] at hc
  cases hx : ll[j]? with
  | none => rw [hx] at hc; cases hc
  | some x =>
    rw [hx] at hc
    cases hc
    rw [List.getElem?_map, List.getElem?_map, hx] at hc'
    cases hc'
    show (view (fun l => !(hget h' l).alive) 9 (.own (fx f j) G 0 x.length)).run (hget h) = some (encL enc x)
    have hD : (!(hget h' (fx f j)).alive) = true := by rw [h2 j]; rfl
    simp only [view, hD, if_true, L.run_look, h1 j x hx]
    rw [if_pos ⟨trivial, by simp⟩]
    rw [L.run_bind', List.drop_zero, List.take_of_length_le (by simp), viewAll_p]
    rfl
end
attribute [go_sem] LeVs_fam_view
end Go.Ab
namespace Go.Ab
open Go
set_option linter.unusedVariables false
section
variable {C : Cx} {Q : Exit → St → Prop} {st : St}
theorem LeVs_app2 {σ σ' : Nat → AO} : ∀ {a a' b b' : List AV}, LeVs σ σ' a a' → LeVs σ σ' b b' → LeVs σ σ' (a ++ b) (a' ++ b')
  | [], [], _, _, _, h => h
  | [], _ :: _, _, _, h, _ => h.elim
  | _ :: _, [], _, _, h, _ => by simp [LeVs] at h
  | c :: a, c' :: a', b, b', h, k => ⟨h.1, LeVs_app2 h.2 k⟩
theorem LeVs_cut {α : Type} {σ σ' : Nat → AO} {f : α → PV} {a b : List α} {n : Nat} {z : α} (hz : f z = .slc []) :
    LeVs σ σ' (List.map AV.p (List.map f a) ++ List.replicate n .nils ++ List.map AV.p (List.map f b)) (List.map AV.p (List.map f (a ++ List.replicate n z ++ b))) = True := by
  rw [eq_iff_iff, iff_true]
  simp only [List.map_append, List.map_replicate, hz]
  exact LeVs_app2 (LeVs_app2 (LeVs_p _ _ _) (LeVs_repn _ _ _)) (LeVs_p _ _ _)
theorem LeVs_cut' {α : Type} {σ σ' : Nat → AO} {f : α → PV} {a b : List α} {n : Nat} {z : α} (hz : f z = .slc []) :
    LeVs σ σ' (List.map AV.p (List.map f a) ++ (List.replicate n .nils ++ List.map AV.p (List.map f b))) (List.map AV.p (List.map f (a ++ List.replicate n z ++ b))) = True := by
  rw [← List.append_assoc]; exact LeVs_cut hz
theorem encL_nil {α : Type} (f : α → PV) : (encL f [] = .slc []) = True := by simp [encL]
end
attribute [go_sem] LeVs_cut LeVs_cut' encL_nil
end Go.Ab
/-
  Part 38: drawn regions that touch families: what the events touch, in numbers.
-/
namespace Go.Ab
open Go
set_option linter.unusedVariables false
variable {C : Cx} {Q : Exit → St → Prop} {st : St}
theorem set_at {β : Type} (l : List β) (i : Nat) (a : β) : (l.set i a)[i]? = (l[i]?).map fun _ => a := by
  rw [List.getElem?_set]
  by_cases h : i < l.length
  · simp [h]
  · simp [h]
attribute [go_sem] set_at
end Go.Ab
/-
  Part 39: what the library collects of an iterator over a slice of structs is a new own object.
-/
namespace Go.Ab
variable {D : Prop}
open Go
set_option linter.unusedVariables false
set_option linter.unusedSimpArgs false

/-- the slice value sv holds n elements with the cells news, in a block below n₀; or there are none -/
def CellsAt (n₀ : Nat) (W : World) (sv : Value) (n : Nat) (news : List Value) : Prop :=
  (∃ a cap, sv = .slice a 0 cap ∧ n = 0) ∨ ∃ b off cap, sv = .slice (some ⟨b, off, none⟩) n cap ∧ b < n₀ ∧ ∀ j u, news[j]? = some u → W.cell? ⟨b, off + j, none⟩ = some u
theorem CellsAt.below {n₀ n : Nat} {A B : World} (h : RowKit.Below n₀ A B) {sv : Value} {news : List Value} : CellsAt n₀ A sv n news → CellsAt n₀ B sv n news
  | .inl e => .inl e
  | .inr ⟨b, off, cap, e, hb, hc⟩ => .inr ⟨b, off, cap, e, hb, fun j u hj => (h.cell (p := ⟨b, off + j, none⟩) hb).trans (hc j u hj)⟩

/-- function k hands back a new slice with what the iterator kv over a slice gives -/
structure CollG (P : Program) (k kv : FuncId) (e sz : Nat) : Prop where
  body : HasBody P k
  rows : ∀ (Bs bo : Nat) (sv : Value) (n : Nat) (news : List Value) (w : World), news.length = n * sz → n ≤ 1000000000000 → (∀ u ∈ news, u.oneCell' = true) → Bs < w.heap.size → w.cell? ⟨Bs, bo, none⟩ = some sv → CellsAt w.heap.size w sv n news →
    Calls P k #[.func (.func kv) #[] #[.pointer (some ⟨Bs, bo, none⟩)]] w fun e' w' => ∃ v, e' = .returned v ∧ w'.ownsRow w.heap.size e sz v n news ∧ RowKit.Below w.heap.size w w'

variable {C : Cx} {Q : Exit → St → Prop} {st : St}
theorem AL_collG {ops : Array Oper} {o : Oper} {rest : List Oper} {f : Operand} {args : Array Operand} {ats : Array TypeId} {k kv : FuncId} {e sz K g : Nat} {xs : List PV}
    (S : CollG C.P k kv e sz) (hD : C.D → False) (hl : xs.length ≤ 1000000000000) (hel : (xs.map AV.p).all (elemOk sz) = true)
    (ho : o.op = .call ⟨.value f, args, ats⟩) (hg : guardA ops st.env o = some true) (hd : dstOk C.N o = true)
    (hk : callArgs st.env f args.toList = some (k, [.p (.func (.func kv) [.imm [.slc xs]])]))
    (hobj : hget st.heap K = .dead g)
    (h : AL C ops rest Q ⟨putE st.env o.dst (.own K (g + 1) 0 xs.length), hset st.heap K (.arr e sz (g + 1) (xs.map AV.p))⟩) : AL C ops (o :: rest) Q st := by
  intro inj a w hs
  simp only [wpList, guard_sound hs hg, if_true]
  refine .inl ?_
  obtain ⟨vs, hrun, hars⟩ := call_run hs ho S.body hk
  unfold Oper.wp
  rw [hrun]
  simp only [Oper.upon]
  obtain ⟨v1, r1, rfl, ha1, rfl⟩ := hars
  have hp : PR (fun b => C.X b ∨ F inj st.sig b) w (.func (.func kv) [.imm [.slc xs]]) v1 := ha1
  obtain ⟨cvs, rfl, hcs⟩ := hp
  obtain ⟨c1, r1, rfl, hc1, rfl⟩ := hcs
  obtain ⟨b, o0, us, rfl, hus, _, hb1, hb2, hb3⟩ := hc1
  obtain ⟨sv, r2, rfl, hsv, rfl⟩ := hus
  obtain ⟨sa, cap, vs2, rfl, hcap, hvs2, hsl⟩ := hsv
  have hcell := hb3 0 _ rfl
  rw [Nat.add_zero] at hcell
  have hus' : ARs C.X inj st.sig w (xs.map AV.p) vs2 := ARs_map_p.2 hvs2
  obtain ⟨hsz, hone⟩ := all_elemOk hel hus'
  have hlen : vs2.length = xs.length := by have := hus'.length; simpa using this.symm
  have hfl : (flat vs2).length = xs.length * sz := by rw [flat_length hsz, hlen]
  have hI : CellsAt w.heap.size w (.slice sa xs.length cap) xs.length (flat vs2) := by
    rcases hsl with hsl | ⟨b', o', sz', rfl, _, _, hr1, hr2, hr3⟩
    · have hl0 : xs.length = 0 := by rw [← hlen, hsl]; rfl
      exact .inl ⟨sa, cap, by rw [hl0], hl0⟩
    · exact .inr ⟨b', o', cap, rfl, hr1, fun j u hj => hr3 j u hj⟩
  refine (S.rows b o0 _ xs.length (flat vs2) w hfl hl hone hb1 hcell hI).mono ?_
  rintro e' w' ⟨v, rfl, hrow, hbel⟩
  have hfz : ∀ a : Addr, a.block < w.heap.size → w'.frozen? a = w.frozen? a := fun a ha => by unfold World.frozen?; rw [hbel.block _ ha]
  obtain ⟨_, hrow⟩ := hrow
  rcases hrow with ⟨rfl, hz⟩ | ⟨gb, cp, cur, rfl, hbase, hgb, q1, q2, q3, q4⟩
  · have hxs : xs = [] := List.length_eq_zero_iff.1 hz
    subst hxs
    have hup := hs.hr.update (D := C.D) (w' := w') (l := K) (o := .dead g) (o' := .arr e sz (g + 1) []) (x := none) hobj hbel.os hbel.tape hbel.output (fun d => (hD d).elim) hbel.size hfz
      (fun b hb _ => hbel.block b hb) (fun b1 c1 h1 => by cases h1) ⟨by simp [AO.gen], fun _ he => by simp [AO.gen] at he⟩
    obtain ⟨hev, hhr⟩ := hup
    refine h _ _ _ (hs.put (u := some (K, .arr e sz (g + 1) [])) hd (hhr ⟨[], rfl, by simp, by simp [flat, oneAll], .inl ⟨by simp, rfl⟩⟩) hev ?_)
    refine ⟨⟨_, _, _, rfl⟩, fun oo hoo => ?_⟩
    have : oo = .arr e sz (g + 1) [] := by rw [← hoo]; exact supd_same _ _ _
    subst this
    exact ⟨Nat.le_refl _, fun _ e1 sz1 es1 he => by cases he; exact ⟨by simp, .inl ⟨by simp, rfl, rfl, rfl⟩⟩⟩
  · have hup := hs.hr.update (D := C.D) (w' := w') (l := K) (o := .dead g) (o' := .arr e sz (g + 1) (xs.map AV.p)) (x := some (gb, cp)) hobj hbel.os hbel.tape hbel.output (fun d => (hD d).elim) hbel.size hfz
      (fun b hb _ => hbel.block b hb) (fun b1 c1 h1 => by cases h1; exact .inl hbase) ⟨by simp [AO.gen], fun _ he => by simp [AO.gen] at he⟩
    obtain ⟨hev, hhr⟩ := hup
    have hH := hhr ⟨vs2, ARs.ev hev hs.hr.xlt _ vs2 hus', hsz, hone, .inr ⟨gb, cp, cur, by simp, fun hX => by have := hs.hr.xlt gb hX; omega, hgb, by simpa using q1, q2, q3, by simpa using q4⟩⟩
    refine h _ _ _ (hs.put (u := some (K, .arr e sz (g + 1) (xs.map AV.p))) hd hH hev ?_)
    have hown : OwnR (fun q => if q = K then some (gb, cp) else inj q) (supd st.sig K (.arr e sz (g + 1) (xs.map AV.p))) K (g + 1) 0 xs.length (.slice (some ⟨gb, 0, none⟩) xs.length cp) := OwnR_new (supd_same _ _ _) (if_pos rfl) (by simp) q1
    exact hown
theorem zQg {ops : Array Oper} {o : Oper} {rest : List Oper} {f : Operand} {args : Array Operand} {ats : Array TypeId} {k kv : FuncId} {e sz g : Nat} {α : Type}
    (S : CollG C.P k kv e sz) (K : Nat) (enc : α → PV) (l : List α) (hl : l.length ≤ 1000000000000)
    (h : AL C ops rest Q ⟨putE st.env o.dst (.own K (g + 1) 0 l.length), hset st.heap K (.arr e sz (g + 1) ((l.map enc).map AV.p))⟩)
    (hel : ((l.map enc).map AV.p).all (elemOk sz) = true := by exact elemOkAll_map _ _ _ fun _ => ⟨rfl, rfl⟩)
    (hD : C.D → False := by exact id) (ho : o.op = .call ⟨.value f, args, ats⟩ := by rfl) (hg : guardA ops st.env o = some true := by first | exact guard_none rfl | exact guard_true' rfl rfl (by exact rfl) (by exact rfl)) (hd : dstOk C.N o = true := by rfl)
    (hk : callArgs st.env f args.toList = some (k, [.p (.func (.func kv) [.imm [.slc (l.map enc)]])]) := by simp only [go_sem, seval, *]; all_goals first | exact rfl | exact ⟨rfl, rfl⟩)
    (hobj : hget st.heap K = .dead g := by simp only [go_sem, seval, *]; first | exact rfl | exact hget_none rfl) : AL C ops (o :: rest) Q st :=
  AL_collG S hD (by rw [List.length_map]; exact hl) hel ho hg hd hk hobj (by rw [List.length_map]; exact h)
end Go.Ab
