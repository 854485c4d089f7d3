/- An abstract logic for calls that only compute: what each operation does to values that are trees, and rules for walking a text. -/
import Derived.Below
import Derived.Lib.Repeat
import Derived.Shelf.Strings.Builder1
import Derived.Lib.AppendStr
import Derived.ProofKit
import Derived.Test.YtjcdclpfeflfkaaGreatDoorA2
/-
  Part 32: strings.Repeat by its contract; math/bits.Add64, Sub64.
-/
namespace Go.Ab
open Go
set_option linter.unusedVariables false
set_option linter.unusedSimpArgs false
variable {C : Cx} {Q : Exit → St → Prop} {st : St}

theorem Fr.of_below {w w' : World} (h : RowKit.Below w.heap.size w w') : Fr False w w' :=
  ⟨h.os, h.tape, h.output, fun h => h.elim, h.size, fun a ha => by unfold World.frozen?; rw [h.block _ ha], h.block⟩

def addF (x y c : Int) : Option (Int × Int) :=
  if 0 ≤ x ∧ x < 18446744073709551616 ∧ 0 ≤ y ∧ y < 18446744073709551616 ∧ 0 ≤ c ∧ c ≤ 1 then some ((x + y + c) % 18446744073709551616, (x + y + c) / 18446744073709551616) else none
def subF (x y c : Int) : Option (Int × Int) :=
  if 0 ≤ x ∧ x < 18446744073709551616 ∧ 0 ≤ y ∧ y < 18446744073709551616 ∧ 0 ≤ c ∧ c ≤ 1 then some ((x - y - c) % 18446744073709551616, if x < y + c then 1 else 0) else none
theorem add_run {P : Program} {k : FuncId} (h : ∀ (x y c : Nat), c ≤ 1 → ∀ w, (callFunc k #[.int .u64 x, .int .u64 y, .int .u64 c]).run P w = .ok (.value (.tuple #[.int .u64 (((x + y + c) % 18446744073709551616 : Nat) : Int), .int .u64 (((x + y + c) / 18446744073709551616 : Nat) : Int)])) w)
    {x y c : Int} {r : Int × Int} (hr : addF x y c = some r) (w : World) : (callFunc k #[.int .u64 x, .int .u64 y, .int .u64 c]).run P w = .ok (.value (.tuple #[.int .u64 r.1, .int .u64 r.2])) w := by
  unfold addF at hr
  split at hr
  case isFalse => cases hr
  rename_i hc
  obtain ⟨a1, a2, a3, a4, a5, a6⟩ := hc
  cases hr
  obtain ⟨x, rfl⟩ := Int.eq_ofNat_of_zero_le a1
  obtain ⟨y, rfl⟩ := Int.eq_ofNat_of_zero_le a3
  obtain ⟨c, rfl⟩ := Int.eq_ofNat_of_zero_le a5
  rw [h x y c (by omega) w]
  simp
theorem sub_run {P : Program} {k : FuncId} (h : ∀ (x y b : Nat), b ≤ 1 → ∀ w, (callFunc k #[.int .u64 x, .int .u64 y, .int .u64 b]).run P w = .ok (.value (.tuple #[.int .u64 (((x + 18446744073709551616 - y - b) % 18446744073709551616 : Nat) : Int), .int .u64 ((if x < y + b then 1 else 0 : Nat) : Int)])) w)
    {x y c : Int} {r : Int × Int} (hr : subF x y c = some r) (w : World) : (callFunc k #[.int .u64 x, .int .u64 y, .int .u64 c]).run P w = .ok (.value (.tuple #[.int .u64 r.1, .int .u64 r.2])) w := by
  unfold subF at hr
  split at hr
  case isFalse => cases hr
  rename_i hc
  obtain ⟨a1, a2, a3, a4, a5, a6⟩ := hc
  cases hr
  obtain ⟨x, rfl⟩ := Int.eq_ofNat_of_zero_le a1
  obtain ⟨y, rfl⟩ := Int.eq_ofNat_of_zero_le a3
  obtain ⟨c, rfl⟩ := Int.eq_ofNat_of_zero_le a5
  rw [h x y c (by omega) w]
  have e1 : (((x + 18446744073709551616 - y - c) % 18446744073709551616 : Nat) : Int) = ((x : Int) - y - c) % 18446744073709551616 := by omega
  have e2 : ((if x < y + c then 1 else 0 : Nat) : Int) = if (x : Int) < (y : Int) + (c : Int) then 1 else 0 := by
    split <;> split <;> first | rfl | omega
  rw [e1, e2]
theorem zE3 {ops : Array Oper} {d : Option Tmp} {k : FuncId} {x y z : Operand} {ats : Array TypeId} {ty : TypeId} {pos : String} {af : Array Edge} {rest : List Oper} {a b c : Int} {r : Int × Int}
    (hk : ∀ w, (callFunc k #[.int .u64 a, .int .u64 b, .int .u64 c]).run C.P w = .ok (.value (.tuple #[.int .u64 r.1, .int .u64 r.2])) w)
    (h : AL C ops rest Q ⟨putE st.env d (.p (.tup [.int .u64 r.1, .int .u64 r.2])), st.heap⟩)
    (hx : ev st.env x = .p (.int .u64 a) := by simp only [go_sem, seval, *]) (hy : ev st.env y = .p (.int .u64 b) := by simp only [go_sem, seval, *]) (hz : ev st.env z = .p (.int .u64 c) := by simp only [go_sem, seval, *])
    (hd : dstOk C.N ⟨d, .call ⟨.value (.func k), #[x, y, z], ats⟩, ty, pos, af, none⟩ = true := by rfl) :
    AL C ops (⟨d, .call ⟨.value (.func k), #[x, y, z], ats⟩, ty, pos, af, none⟩ :: rest) Q st := by
  intro inj act w hs
  simp only [wpList, guard_sound (ops := ops) (o := ⟨d, .call ⟨.value (.func k), #[x, y, z], ats⟩, ty, pos, af, none⟩) hs (guard_none rfl), if_true]
  refine .inl ?_
  have e1 := hs.eval x
  have e2 := hs.eval y
  have e3 := hs.eval z
  rw [hx] at e1
  rw [hy] at e2
  rw [hz] at e3
  simp only [AR, PR] at e1 e2 e3
  have hrun : (execOp act.eval ⟨d, .call ⟨.value (.func k), #[x, y, z], ats⟩, ty, pos, af, none⟩).run C.P w = .ok (.value (.tuple #[.int .u64 r.1, .int .u64 r.2])) w := by
    simp only [execOp, resolve, Deferred.ofValue, Act.eval, Sem.run_bind, Sem.run_pure, Result.andThen_ok, invoke]
    have : (#[] ++ #[x, y, z].map act.eval ++ #[] : Array Value) = #[.int .u64 a, .int .u64 b, .int .u64 c] := by simp [e1, e2, e3]
    rw [this]
    exact hk w
  unfold Oper.wp
  rw [hrun]
  simp only [Oper.upon]
  exact h inj _ _ (hs.put (u := none) hd hs.hr (Ev.refl _ _ _ _) (v := .p (.tup [.int .u64 r.1, .int .u64 r.2])) ⟨_, rfl, _, _, rfl, rfl, _, _, rfl, rfl, rfl⟩)
end Go.Ab
/-
  Part 33: an own object that is cut to its first elements.
-/
namespace Go.Ab
open Go
set_option linter.unusedVariables false
set_option linter.unusedSimpArgs false
variable {C : Cx} {Q : Exit → St → Prop} {st : St} {inj : Inj} {a : Act} {w : World}

attribute [go_sem] List.map_replicate
@[go_sem, simp] theorem LeVs_rep (σ σ' : Nat → AO) (n : Nat) (x : PV) : LeVs σ σ' (List.replicate n (.p x)) (List.replicate n (.p x)) := by
  have := LeVs_p σ σ' (List.replicate n x)
  simpa only [List.map_replicate] using this

@[go_sem, simp] theorem LeVs_repn (σ σ' : Nat → AO) (n : Nat) : LeVs σ σ' (List.replicate n .nils) (List.replicate n (.p (.slc []))) := by
  induction n with
  | zero => rfl
  | succ n ih =>
    rw [List.replicate_succ, List.replicate_succ, LeVs_cons]
    exact ⟨by simp [LeV, view], ih⟩

theorem SR.shrink (h : SR C st inj a w) {t l g m e sz : Nat} {es : List AV} (hobj : hget st.heap l = .arr e sz g es) (ht : st.env.get t = .own l g 0 m) :
    SR C ⟨putE st.env (some t) (.own l (g + 1) 0 m), hset st.heap l (.arr e sz (g + 1) (es.take m))⟩ inj a w := by
  have hup := h.hr.update (D := C.D) (w' := w) (l := l) (o := .arr e sz g es) (o' := .arr e sz (g + 1) (es.take m)) (x := inj l) hobj rfl rfl rfl
    (fun _ => Nat.le_refl _) (Nat.le_refl _) (fun _ _ => rfl) (fun _ _ _ => rfl) (fun b c h1 => .inr ⟨rfl, _, h1⟩)
    ⟨Nat.le_succ _, fun _ hg => absurd hg (by simp [AO.gen])⟩
  obtain ⟨hev, hhr⟩ := hup
  have hinj : (fun k => if k = l then inj l else inj k) = inj := by
    funext k
    by_cases hk : k = l
    · rw [if_pos hk, hk]
    · rw [if_neg hk]
  rw [hinj] at hev hhr
  obtain ⟨vs, h1, h2, h3, h4⟩ := h.hr.obj l _ hobj
  have hs : (St.mk (putE st.env (some t) (.own l (g + 1) 0 m)) (hset st.heap l (.arr e sz (g + 1) (es.take m)))).sig = supd st.sig l (.arr e sz (g + 1) (es.take m)) := hget_hset _ _ _
  have hob := h.env t
  rw [ht] at hob
  obtain ⟨q1, q2⟩ := hob
  obtain ⟨q3, q4⟩ := q2 _ hobj
  obtain ⟨q5, q6⟩ := q4 rfl e sz es rfl
  rw [Nat.zero_add] at q5
  have hvl : vs.length = es.length := h1.length.symm
  have hor : OR C.X inj (supd st.sig l (.arr e sz (g + 1) (es.take m))) w l (.arr e sz (g + 1) (es.take m)) := by
    refine ⟨vs.take m, ARs.ev hev h.hr.xlt _ _ (h1.take m), fun v hv => h2 v (List.mem_of_mem_take hv), fun u hu => ?_, ?_⟩
    · rw [flat_take m h2] at hu
      exact h3 u (List.mem_of_mem_take hu)
    · rcases h4 with ⟨h4, h5⟩ | ⟨b, c, cur, i1, i2, i3, i4, i5, i6, i7⟩
      · exact .inl ⟨h4, by rw [h5, List.take_nil]⟩
      · refine .inr ⟨b, c, cur, i1, i2, i3, by rw [List.length_take]; omega, i5, i6, ?_⟩
        rw [flat_take m h2, ← i7, List.take_take, List.length_take]
        congr 1
        rw [Nat.min_eq_left q5, Nat.min_eq_left (Nat.mul_le_mul_right _ q5)]
  have hHR := hhr hor
  refine ⟨fun t' => ?_, h.size, h.defers, by rw [hs]; exact hHR, by rw [hs]; exact h.ev.trans hev⟩
  rw [hs]
  simp only [putE, Env.get]
  by_cases hte : t = t'
  · rw [if_pos hte, ← hte]
    refine ⟨q1, fun o ho => ?_⟩
    have ho' : o = .arr e sz (g + 1) (es.take m) := by rw [← ho]; simp [supd]
    subst ho'
    refine ⟨Nat.le_refl _, fun _ e' sz' es' heq => ?_⟩
    cases heq
    refine ⟨by rw [List.length_take]; omega, ?_⟩
    rcases q6 with ⟨q7, q8, q9, q10⟩ | ⟨b, c, a0, q7, q8, q9, q10⟩
    · exact .inl ⟨q7, q8, rfl, q10⟩
    · exact .inr ⟨b, c, a0, q7, q8, q9, q10⟩
  · rw [if_neg hte]
    exact AR.ev hev h.hr.xlt _ _ (h.env t')
theorem awp_shrink {c : Code} (t l g m e sz : Nat) {es es' : List AV} {st' : St} (hobj : hget st.heap l = .arr e sz g es) (ht : st.env.get t = .own l g 0 m) (he : es.take m = es')
    (hs : (⟨putE st.env (some t) (.own l (g + 1) 0 m), hset st.heap l (.arr e sz (g + 1) es')⟩ : St) = st') (h : AWp C c Q st') : AWp C c Q st := by
  subst he; subst hs
  exact fun inj a w hs => h inj a w (hs.shrink hobj ht)
end Go.Ab
/-
  Part 34: small facts.
-/
namespace Go.Ab
open Go
theorem nat_get {α : Type} {l : List α} {n : Nat} {x : α} (h : l[((n : Nat) : Int).toNat]? = some x) : l[n]? = some x := h
end Go.Ab
/-
  Part 35: lists of own lists: a family of own objects.
-/
namespace Go.Ab
open Go
set_option linter.unusedVariables false
set_option linter.unusedSimpArgs false

theorem fx_exists : ∃ g : Nat → Nat → Nat, (∀ f i k, k < 1048576 → k ≠ g f i) ∧ (∀ f i j, g f i = g f j → i = j) ∧ ∀ f f' i j, f < 1048576 → f' < 1048576 → f ≠ f' → g f i ≠ g f' j :=
  ⟨fun f i => 1048576 * (i + 1) + f, fun f i k h => by show k ≠ 1048576 * (i + 1) + f; omega, fun f i j h => by simp only at h; omega, fun f f' i j h h' hn => by show 1048576 * (i + 1) + f ≠ 1048576 * (j + 1) + f'; omega⟩
/-- the place of member i of family f (the kernel is not to reckon it) -/
noncomputable def fx : Nat → Nat → Nat := Classical.choose fx_exists
theorem fx_low {f i k : Nat} (h : k < 1048576) : k ≠ fx f i := (Classical.choose_spec fx_exists).1 f i k h
theorem lit_ne_fx {k f i : Nat} (h : k < 1048576) : (k = fx f i) = False := eq_false (fx_low h)
theorem fx_ne_lit {k f i : Nat} (h : k < 1048576) : (fx f i = k) = False := eq_false fun e => fx_low h e.symm
theorem fx_inj {f i j : Nat} : (fx f i = fx f j) = (i = j) := propext ⟨(Classical.choose_spec fx_exists).2.1 f i j, fun h => by rw [h]⟩
theorem fx_ne {f f' i j : Nat} (h : f < 1048576) (h' : f' < 1048576) (hn : f ≠ f') : (fx f i = fx f' j) = False := eq_false ((Classical.choose_spec fx_exists).2.2 f f' i j h h' hn)

variable {α : Type}
/-- the members of a family, as the outer array holds them -/
noncomputable def famR (f e sz G : Nat) (enc : α → PV) (ll : List (List α)) : List AV := ll.mapIdx fun i x => .own (fx f i) G 0 x.length
/-- the members of a family, as the heap holds them -/
noncomputable def famL (f e sz G : Nat) (enc : α → PV) (ll : List (List α)) (rest : List (Nat × AO)) : List (Nat × AO) :=
  (ll.mapIdx fun i x => (fx f i, AO.arr e sz G (List.map AV.p (List.map enc x)))) ++ rest

theorem famR_get (f e sz G : Nat) (enc : α → PV) (ll : List (List α)) (i : Nat) : (famR f e sz G enc ll)[i]? = (ll[i]?).map fun x => AV.own (fx f i) G 0 x.length := by
  simp [famR, List.getElem?_mapIdx]
theorem famR_len (f e sz G : Nat) (enc : α → PV) (ll : List (List α)) : (famR f e sz G enc ll).length = ll.length := by simp [famR]
theorem famR_nil (f e sz G : Nat) (enc : α → PV) : famR f e sz G enc [] = [] := rfl
theorem famL_nil (f e sz G : Nat) (enc : α → PV) (rest : List (Nat × AO)) : famL f e sz G enc [] rest = rest := rfl

theorem hget_in {a b : List (Nat × AO)} {l : Nat} (h : (a.any fun x => x.1 == l) = true) : hget (a ++ b) l = hget a l := by
  induction a with
  | nil => simp at h
  | cons x a ih =>
    obtain ⟨k, o⟩ := x
    simp only [List.cons_append, hget]
    by_cases hk : k = l
    · rw [if_pos hk, if_pos hk]
    · rw [if_neg hk, if_neg hk]
      rw [List.any_cons, Bool.or_eq_true] at h
      rcases h with h | h
      · exact absurd (by simpa using h) hk
      · exact ih h
theorem hget_out {a b : List (Nat × AO)} {l : Nat} (h : ¬ (a.any fun x => x.1 == l) = true) : hget (a ++ b) l = hget b l := by
  induction a with
  | nil => rfl
  | cons x a ih =>
    obtain ⟨k, o⟩ := x
    rw [List.any_cons, Bool.or_eq_true, not_or] at h
    have hk : ¬ k = l := by simpa using h.1
    simp only [List.cons_append, hget]
    rw [if_neg hk]
    exact ih h.2
theorem hget_mem {a : List (Nat × AO)} {l : Nat} {o : AO} (hm : (l, o) ∈ a) (hu : ∀ o', (l, o') ∈ a → o' = o) : hget a l = o := by
  induction a with
  | nil => cases hm
  | cons x a ih =>
    obtain ⟨k, o1⟩ := x
    simp only [hget]
    by_cases h : k = l
    · subst h
      rw [if_pos rfl]
      exact hu o1 List.mem_cons_self
    · rw [if_neg h]
      rcases List.mem_cons.1 hm with e | e
      · cases e; exact absurd rfl h
      · exact ih e fun o' ho => hu o' (List.mem_cons_of_mem _ ho)
theorem famL_low {f e sz G : Nat} {enc : α → PV} {ll : List (List α)} {rest : List (Nat × AO)} {l : Nat} (h : l < 1048576) : hget (famL f e sz G enc ll rest) l = hget rest l := by
  unfold famL
  rw [hget_out]
  simp only [List.any_eq_true, not_exists, not_and, List.mem_mapIdx]
  rintro x ⟨i, hi, rfl⟩
  simp only [beq_iff_eq, fx_ne_lit h]; exact fun h => h
theorem famL_fx (f e sz G : Nat) (enc : α → PV) (ll : List (List α)) (rest : List (Nat × AO)) (i : Nat) :
    hget (famL f e sz G enc ll rest) (fx f i) = (ll[i]?).elim (hget rest (fx f i)) fun x => .arr e sz G (List.map AV.p (List.map enc x)) := by
  unfold famL
  by_cases hi : i < ll.length
  · have hx : ll[i]? = some ll[i] := List.getElem?_eq_getElem hi
    rw [hget_in, hx]
    · refine hget_mem (List.mem_mapIdx.2 ⟨i, hi, rfl⟩) fun o' ho => ?_
      obtain ⟨j, hj, e⟩ := List.mem_mapIdx.1 ho
      simp only [Prod.mk.injEq] at e
      have : j = i := by have := e.1; rw [fx_inj] at this; exact this
      subst this
      exact e.2.symm
    · simp only [List.any_eq_true]
      exact ⟨_, List.mem_mapIdx.2 ⟨i, hi, rfl⟩, by simp⟩
  · have hx : ll[i]? = none := List.getElem?_eq_none (by omega)
    rw [hget_out, hx]
    · rfl
    · simp only [List.any_eq_true, not_exists, not_and, List.mem_mapIdx]
      rintro x ⟨j, hj, rfl⟩
      simp only [beq_iff_eq, fx_inj]; omega
theorem famL_other {f f' e sz G : Nat} {enc : α → PV} {ll : List (List α)} {rest : List (Nat × AO)} {i : Nat} (h : f < 1048576) (h' : f' < 1048576) (hn : (f' = f) = False) : hget (famL f' e sz G enc ll rest) (fx f i) = hget rest (fx f i) := by
  replace hn : f' ≠ f := of_eq_false hn
  unfold famL
  rw [hget_out]
  simp only [List.any_eq_true, not_exists, not_and, List.mem_mapIdx]
  rintro x ⟨j, hj, rfl⟩
  simp only [beq_iff_eq, fx_ne h' h hn]; exact fun h => h
theorem get_at_len {β : Type} (l : List β) : l[l.length]? = none := List.getElem?_eq_none (Nat.le_refl _)

/-! ### what a heap holds of a family -/
def hasFam (h : List (Nat × AO)) (f e sz G : Nat) (enc : α → PV) (ll : List (List α)) : Prop := ∀ i x, ll[i]? = some x → hget h (fx f i) = .arr e sz G (List.map AV.p (List.map enc x))
def hasFamX (h : List (Nat × AO)) (f i e sz G : Nat) (enc : α → PV) (ll : List (List α)) : Prop := ∀ j x, j ≠ i → ll[j]? = some x → hget h (fx f j) = .arr e sz G (List.map AV.p (List.map enc x))
def famDead (h : List (Nat × AO)) (f : Nat) : Prop := ∀ i, (hget h (fx f i)).alive = false
/-- the members that a call found have an older generation -/
def famKeep (h : List (Nat × AO)) (f G : Nat) : Prop := ∀ i, (hget h (fx f i)).alive = true → (hget h (fx f i)).gen < G
def hasKeys (h : List (Nat × AO)) (f n : Nat) : Prop := ∀ i, i < n → (h.any fun x => x.1 == fx f i) = true
def lenEq {β : Type} (m : Nat) (y : List β) : Prop := m = y.length
/-- nothing lies at the place -/
def noObj (h : List (Nat × AO)) (l : Nat) : Prop := (hget h l).alive = false
def memEq (es : List AV) (enc : α → PV) (y : List α) : Prop := es = List.map AV.p (List.map enc y)
def isMem (o : AO) (e sz : Nat) (enc : α → PV) (y : List α) : Prop := match o with
  | .arr e' sz' _ es => e' = e ∧ sz' = sz ∧ memEq es enc y
  | _ => False
section
variable {h h' H0 rest : List (Nat × AO)} {f f' i k e sz G G' e' sz' : Nat} {o : AO} {enc enc' : α → PV} {ll ll' : List (List α)}
theorem noObj_nil {l : Nat} : noObj [] l = True := by simp [noObj, hget, AO.alive]
theorem noObj_low (hk : k < 1048576) : noObj ((k, o) :: h) (fx f i) = noObj h (fx f i) := by simp only [noObj, hget, lit_ne_fx hk, if_false]
theorem noObj_fam : noObj (famL f e sz G enc ll rest) (fx f i) = (((ll[i]?).map (·.length)) = none ∧ noObj rest (fx f i)) := by
  unfold noObj
  rw [famL_fx]
  cases ll[i]? with
  | none => simp
  | some x => simp [AO.alive]
theorem noObj_other {β : Type} {enc' : β → PV} {ll' : List (List β)} (h1 : f < 1048576) (h2 : f' < 1048576) (hn : (f' = f) = False) : noObj (famL f' e' sz' G' enc' ll' rest) (fx f i) = noObj rest (fx f i) := by
  unfold noObj
  rw [famL_other h1 h2 hn]
theorem isMem_arr {g : Nat} {es : List AV} {y : List α} : isMem (.arr e' sz' g es) e sz enc y = (e' = e ∧ sz' = sz ∧ memEq es enc y) := propext Iff.rfl
theorem lenEq_self {β : Type} {x : List β} : lenEq x.length x = True := by simp [lenEq]
theorem lenEq_set {β : Type} {x : List β} {j : Nat} {v : β} : lenEq x.length (x.set j v) = True := by simp [lenEq]
theorem lenEq_set2 {β : Type} {x : List β} {j j' : Nat} {v v' : β} : lenEq x.length ((x.set j v).set j' v') = True := by simp [lenEq]
theorem lenEq_snoc {β : Type} {x : List β} {v : β} : lenEq (x.length + 1) (x ++ [v]) = True := by simp [lenEq]
theorem lenEq_app {β : Type} {x z : List β} : lenEq (x.length + z.length) (x ++ z) = True := by simp [lenEq]
theorem lenEq_rep {β : Type} {n : Nat} {v : β} : lenEq n (List.replicate n v) = True := by simp [lenEq]
theorem lenEq_one {β : Type} {v : β} : lenEq 1 [v] = True := by simp [lenEq]
theorem lenEq_nil {β : Type} : lenEq 0 ([] : List β) = True := by simp [lenEq]
theorem lenEq_of {β : Type} {m : Nat} {y : List β} (h : y.length = m) : lenEq m y = True := by simp [lenEq, h]
theorem memEq_self {x : List α} : memEq (List.map AV.p (List.map enc x)) enc x = True := by simp [memEq]
theorem memEq_nil : memEq [] enc [] = True := by simp [memEq]
theorem memEq_app {x z : List α} : memEq (List.map AV.p (List.map enc x) ++ List.map AV.p (List.map enc z)) enc (x ++ z) = True := by simp [memEq]
theorem memEq_snoc {x : List α} {v : PV} {y : α} (hv : v = enc y) : memEq (List.map AV.p (List.map enc x) ++ [AV.p v]) enc (x ++ [y]) = True := by simp [memEq, hv]
theorem memEq_one {v : PV} {y : α} (hv : v = enc y) : memEq [AV.p v] enc [y] = True := by simp [memEq, hv]
theorem memEq_set {x : List α} {v : PV} {y : α} {j : Nat} (hv : v = enc y) : memEq ((List.map AV.p (List.map enc x)).set j (AV.p v)) enc (x.set j y) = True := by
  simp only [memEq, hv, ← List.map_set]
theorem memEq_rep {n : Nat} {v : PV} {y : α} (hv : v = enc y) : memEq (List.replicate n (AV.p v)) enc (List.replicate n y) = True := by simp [memEq, hv]
theorem memEq_snoc' {x : List α} {v : PV} {y : α} (hv : v = enc y) : memEq (List.map AV.p (List.map enc x ++ [v])) enc (x ++ [y]) = True := by simp [memEq, hv]
theorem memEq_app' {x z : List α} : memEq (List.map AV.p (List.map enc x ++ List.map enc z)) enc (x ++ z) = True := by simp [memEq]
theorem memEq_set' {x : List α} {v : PV} {y : α} {j : Nat} (hv : v = enc y) : memEq (List.map AV.p ((List.map enc x).set j v)) enc (x.set j y) = True := by simp only [memEq, hv, ← List.map_set]
theorem hget_low_fx (hk : k < 1048576) : hget ((k, o) :: h) (fx f i) = hget h (fx f i) := by simp only [hget, lit_ne_fx hk, if_false]
theorem hasFam_low (hk : k < 1048576) : hasFam ((k, o) :: h) f e sz G enc ll = hasFam h f e sz G enc ll := by simp only [hasFam, hget_low_fx hk]
theorem hasFam_same : hasFam (famL f e sz G enc ll rest) f e sz G enc ll = True := by
  simp only [hasFam, famL_fx, eq_iff_iff, iff_true]
  intro i x hx; rw [hx]; rfl
theorem hasFam_other {β : Type} {enc' : β → PV} {ll' : List (List β)} (h1 : f < 1048576) (h2 : f' < 1048576) (hn : (f' = f) = False) : hasFam (famL f' e' sz' G' enc' ll' rest) f e sz G enc ll = hasFam rest f e sz G enc ll := by
  simp only [hasFam, famL_other h1 h2 hn]
theorem hasFam_none : hasFam h f e sz G enc [] = True := by simp [hasFam]
theorem hasFamX_low (hk : k < 1048576) : hasFamX ((k, o) :: h) f i e sz G enc ll = hasFamX h f i e sz G enc ll := by simp only [hasFamX, hget_low_fx hk]
theorem hasFamX_here : hasFamX ((fx f i, o) :: h) f i e sz G enc ll = hasFamX h f i e sz G enc ll := by
  simp only [hasFamX, eq_iff_iff]
  constructor <;> intro H j x hj hx
  · have := H j x hj hx
    simp only [hget, fx_inj] at this
    rwa [if_neg (fun e => hj e.symm)] at this
  · simp only [hget, fx_inj]
    rw [if_neg (fun e => hj e.symm)]; exact H j x hj hx
theorem hasFamX_same : hasFamX (famL f e sz G enc ll rest) f i e sz G enc ll = True := by
  simp only [hasFamX, famL_fx, eq_iff_iff, iff_true]
  intro j x _ hx; rw [hx]; rfl
theorem hasFamX_other {β : Type} {enc' : β → PV} {ll' : List (List β)} (h1 : f < 1048576) (h2 : f' < 1048576) (hn : (f' = f) = False) : hasFamX (famL f' e' sz' G' enc' ll' rest) f i e sz G enc ll = hasFamX rest f i e sz G enc ll := by
  simp only [hasFamX, famL_other h1 h2 hn]
theorem famDead_low (hk : k < 1048576) : famDead ((k, o) :: h) f = famDead h f := by simp only [famDead, hget_low_fx hk]
theorem famDead_nil : famDead [] f = True := by simp [famDead, hget, AO.alive]
theorem famDead_none : famDead (famL f e sz G enc [] rest) f = famDead rest f := rfl
theorem famDead_other {β : Type} {enc' : β → PV} {ll' : List (List β)} (h1 : f < 1048576) (h2 : f' < 1048576) (hn : (f' = f) = False) : famDead (famL f' e' sz' G' enc' ll' rest) f = famDead rest f := by
  simp only [famDead, famL_other h1 h2 hn]
theorem famKeep_low (hk : k < 1048576) : famKeep ((k, o) :: h) f G = famKeep h f G := by simp only [famKeep, hget_low_fx hk]
theorem famKeep_nil : famKeep [] f G = True := by simp [famKeep, hget, AO.alive]
theorem famKeep_same (hg : G' < G) : famKeep (famL f e sz G' enc ll rest) f G = ((∀ i, ll.length ≤ i → (hget rest (fx f i)).alive = true → (hget rest (fx f i)).gen < G)) := by
  simp only [famKeep, famL_fx, eq_iff_iff]
  constructor
  · intro H i hi
    have := H i
    rwa [List.getElem?_eq_none hi] at this
  · intro H i
    cases hx : ll[i]? with
    | none => exact H i (List.getElem?_eq_none_iff.1 hx)
    | some x => intro _; exact hg
theorem famKeep_other {β : Type} {enc' : β → PV} {ll' : List (List β)} (h1 : f < 1048576) (h2 : f' < 1048576) (hn : (f' = f) = False) : famKeep (famL f' e' sz' G' enc' ll' rest) f G = famKeep rest f G := by
  simp only [famKeep, famL_other h1 h2 hn]
theorem hasKeys_cons {n : Nat} (hr : hasKeys h f n) : hasKeys ((k, o) :: h) f n = True := by
  simp only [hasKeys, eq_iff_iff, iff_true]
  intro i hi
  rw [List.any_cons, hr i hi, Bool.or_true]
theorem hasKeys_same : hasKeys (famL f e sz G enc ll rest) f ll.length = True := by
  simp only [hasKeys, eq_iff_iff, iff_true, famL]
  intro i hi
  rw [List.any_append, Bool.or_eq_true]
  left
  rw [List.any_eq_true]
  exact ⟨_, List.mem_mapIdx.2 ⟨i, hi, rfl⟩, by simp⟩
theorem hasKeys_rest {β : Type} {enc' : β → PV} {ll' : List (List β)} {n : Nat} (hr : hasKeys rest f n) : hasKeys (famL f' e' sz' G' enc' ll' rest) f n = True := by
  simp only [hasKeys, eq_iff_iff, iff_true, famL]
  intro i hi
  rw [List.any_append, hr i hi, Bool.or_true]
theorem keysIn_app {a b : List (Nat × AO)} : keysIn h (a ++ b) ↔ keysIn h a ∧ keysIn h b := by
  induction a with
  | nil => simp [keysIn]
  | cons x a ih =>
    obtain ⟨l, o⟩ := x
    simp only [List.cons_append, keysIn, ih, and_assoc]
theorem keysIn_of_mem {a : List (Nat × AO)} (H : ∀ l o, (l, o) ∈ a → (h.any fun x => x.1 == l) = true ∧ o.alive = true) : keysIn h a := by
  induction a with
  | nil => trivial
  | cons x a ih =>
    obtain ⟨l, o⟩ := x
    obtain ⟨h1, h2⟩ := H l o List.mem_cons_self
    exact ⟨h1, h2, ih fun l o hm => H l o (List.mem_cons_of_mem _ hm)⟩
theorem keysIn_famL (hk : hasKeys h f ll.length) : keysIn h (famL f e sz G enc ll rest) = keysIn h rest := by
  unfold famL
  rw [eq_iff_iff, keysIn_app]
  refine ⟨fun h => h.2, fun hr => ⟨keysIn_of_mem fun l o hm => ?_, hr⟩⟩
  obtain ⟨i, hi, e⟩ := List.mem_mapIdx.1 hm
  simp only [Prod.mk.injEq] at e
  obtain ⟨rfl, rfl⟩ := e
  exact ⟨hk i hi, rfl⟩
theorem leHeap_app {σ σ' : Nat → AO} {a b : List (Nat × AO)} : leHeap σ σ' H0 (a ++ b) ↔ leHeap σ σ' H0 a ∧ leHeap σ σ' H0 b := by
  induction a with
  | nil => simp [leHeap]
  | cons x a ih =>
    obtain ⟨l, o⟩ := x
    simp only [List.cons_append, leHeap, ih, and_assoc]
theorem leHeap_of_mem {σ σ' : Nat → AO} {a : List (Nat × AO)} (H : ∀ l o, (l, o) ∈ a → LeO' σ σ' (hget H0 l).alive (hget H0 l).gen l) : leHeap σ σ' H0 a := by
  induction a with
  | nil => trivial
  | cons x a ih =>
    obtain ⟨l, o⟩ := x
    exact ⟨H l o List.mem_cons_self, ih fun l o hm => H l o (List.mem_cons_of_mem _ hm)⟩
/-- the check of a family, member by member -/
theorem leHeap_famL {σ σ' : Nat → AO} (H : ∀ i x, ll[i]? = some x → LeO' σ σ' (hget H0 (fx f i)).alive (hget H0 (fx f i)).gen (fx f i)) : leHeap σ σ' H0 (famL f e sz G enc ll rest) = leHeap σ σ' H0 rest := by
  unfold famL
  rw [eq_iff_iff, leHeap_app]
  refine ⟨fun h => h.2, fun hr => ⟨leHeap_of_mem fun l o hm => ?_, hr⟩⟩
  obtain ⟨i, hi, ee⟩ := List.mem_mapIdx.1 hm
  simp only [Prod.mk.injEq] at ee
  obtain ⟨rfl, rfl⟩ := ee
  exact H i _ (List.getElem?_eq_getElem hi)
theorem leO_arr {σ σ' : Nat → AO} {keep : Bool} {g0 l g g' : Nat} {xs : List PV} (h1 : σ l = .arr e sz g (xs.map .p)) (h2 : σ' l = .arr e sz g' (xs.map .p)) (hg : 1 ≤ g') (hk : keep = true → g' = g ∨ g0 < g') : LeO' σ σ' keep g0 l := by
  unfold LeO' LeObj
  rw [h1, h2]
  exact ⟨hg, rfl, rfl, LeVs_p _ _ _, hk⟩
theorem leO_new {σ σ' : Nat → AO} {keep : Bool} {g0 l g g' : Nat} (h1 : σ l = .dead g) (h2 : σ' l = .arr e sz g' []) (hg : 1 ≤ g') (hk : keep = false) : LeO' σ σ' keep g0 l := by
  unfold LeO' LeObj
  rw [h1, h2]
  exact ⟨hg, hk, rfl⟩
theorem leHeap_fam_eq (h1 : hasFam h f e sz G enc ll) (h2 : hasFam h' f e sz G enc ll) (hg : 1 ≤ G) : leHeap (hget h) (hget h') H0 (famL f e sz G enc ll rest) = leHeap (hget h) (hget h') H0 rest :=
  leHeap_famL fun i x hx => leO_arr (h1 i x hx) (h2 i x hx) hg fun _ => .inl rfl
theorem leHeap_fam_set {y : List α} (h1 : hasFamX h f i e sz G enc ll) (h2 : hasFam h' f e sz G enc (ll.set i y)) (hm : isMem (hget h (fx f i)) e sz enc y) (hg : 1 ≤ G) (hk : (hget h (fx f i)).gen = G ∨ famKeep H0 f G) :
    leHeap (hget h) (hget h') H0 (famL f e sz G enc (ll.set i y) rest) = leHeap (hget h) (hget h') H0 rest := by
  refine leHeap_famL fun j x hx => ?_
  have h3 := h2 j x hx
  by_cases hj : j = i
  · subst hj
    unfold isMem at hm
    split at hm
    · rename_i e' sz' g es ho
      obtain ⟨rfl, rfl, hme⟩ := hm
      unfold memEq at hme
      subst hme
      have hxy : x = y := by
        have hlt : j < ll.length := by have := (List.getElem?_eq_some_iff.1 hx).1; simpa using this
        rw [List.getElem?_set_self hlt] at hx; exact (Option.some.inj hx).symm
      subst hxy
      exact leO_arr ho h3 hg fun ha => by
        rcases hk with hk | hk
        · rw [ho] at hk; exact .inl hk.symm
        · exact .inr (hk j ha)
    · exact hm.elim
  · rw [List.getElem?_set_ne (fun e => hj e.symm)] at hx
    exact leO_arr (h1 j x hj hx) h3 hg fun _ => .inl rfl
theorem dead_of {o : AO} (h : o.alive = false) : ∃ g, o = .dead g := by
  cases o with
  | dead g => exact ⟨g, rfl⟩
  | arr _ _ _ _ => cases h
  | map _ _ _ => cases h
theorem leHeap_fam_snoc (h1 : hasFam h f e sz G enc ll) (h2 : hasFam h' f e sz G enc (ll ++ [[]])) (hd : (hget h (fx f ll.length)).alive = false) (hd0 : noObj H0 (fx f ll.length)) (hg : 1 ≤ G) :
    leHeap (hget h) (hget h') H0 (famL f e sz G enc (ll ++ [[]]) rest) = leHeap (hget h) (hget h') H0 rest := by
  refine leHeap_famL fun j x hx => ?_
  have h3 := h2 j x hx
  by_cases hj : j < ll.length
  · rw [List.getElem?_append_left hj] at hx
    exact leO_arr (h1 j x hx) h3 hg fun _ => .inl rfl
  · have hjl := (List.getElem?_eq_some_iff.1 hx).1
    simp only [List.length_append, List.length_singleton] at hjl
    have : j = ll.length := by omega
    subst this
    have hx' : x = [] := by
      rw [List.getElem?_append_right (Nat.le_refl _), Nat.sub_self] at hx
      exact (Option.some.inj hx).symm
    subst hx'
    obtain ⟨g, hg'⟩ := dead_of hd
    exact leO_new hg' h3 hg hd0
theorem leHeap_fam_init {n : Nat} (hd : famDead h f) (h2 : hasFam h' f e sz G enc (List.replicate n [])) (hd0 : famDead H0 f) (hg : 1 ≤ G) :
    leHeap (hget h) (hget h') H0 (famL f e sz G enc (List.replicate n []) rest) = leHeap (hget h) (hget h') H0 rest := by
  refine leHeap_famL fun j x hx => ?_
  have h3 := h2 j x hx
  have hx' : x = [] := by
    rw [List.getElem?_replicate] at hx
    split at hx
    · exact (Option.some.inj hx).symm
    · cases hx
  subst hx'
  obtain ⟨g, hg'⟩ := dead_of (hd j)
  exact leO_new hg' h3 hg (hd0 j)

theorem leHeap_fam_snocY {y : List α} (h1 : hasFam h f e sz G enc ll) (h2 : hasFam h' f e sz G enc (ll ++ [y])) (hm : isMem (hget h (fx f ll.length)) e sz enc y) (hg : 1 ≤ G) (hk : famKeep H0 f G) :
    leHeap (hget h) (hget h') H0 (famL f e sz G enc (ll ++ [y]) rest) = leHeap (hget h) (hget h') H0 rest := by
  refine leHeap_famL fun j x hx => ?_
  have h3 := h2 j x hx
  by_cases hj : j < ll.length
  · rw [List.getElem?_append_left hj] at hx
    exact leO_arr (h1 j x hx) h3 hg fun _ => .inl rfl
  · have hjl := (List.getElem?_eq_some_iff.1 hx).1
    simp only [List.length_append, List.length_singleton] at hjl
    have : j = ll.length := by omega
    subst this
    have hx' : x = y := by
      rw [List.getElem?_append_right (Nat.le_refl _), Nat.sub_self] at hx
      exact (Option.some.inj hx).symm
    subst hx'
    unfold isMem at hm
    split at hm
    · rename_i e' sz' g es ho
      obtain ⟨rfl, rfl, hme⟩ := hm
      unfold memEq at hme
      subst hme
      exact leO_arr ho h3 hg fun ha => .inr (hk _ ha)
    · exact hm.elim

/-! ### the outer array -/
theorem LeVs_iff {σ σ' : Nat → AO} : ∀ {cs cs' : List AV}, cs.length = cs'.length → (∀ (j : Nat) c c', cs[j]? = some c → cs'[j]? = some c' → LeV σ σ' c c') → LeVs σ σ' cs cs'
  | [], [], _, _ => rfl
  | [], _ :: _, h, _ => by simp at h
  | _ :: _, [], h, _ => by simp at h
  | c :: cs, c' :: cs', h, H => ⟨H 0 c c' rfl rfl, LeVs_iff (by simpa using h) fun j d d' h1 h2 => H (j + 1) d d' (by simpa using h1) (by simpa using h2)⟩
theorem LeV_own {σ σ' : Nat → AO} {l g g' off n : Nat} {es es' : List AV} {e sz e' sz' : Nat} (h1 : σ l = .arr e sz g es) (h2 : σ' l = .arr e' sz' g' es') : LeV σ σ' (.own l g off n) (.own l g' off n) := by
  refine .inl ⟨by rw [h1]; rfl, by rw [h2]; rfl, by rw [h2]; rfl, by rw [h1]; rfl⟩
theorem LeVs_fam_eq (h1 : hasFam h f e sz G enc ll) (h2 : hasFam h' f e sz G' enc ll) : LeVs (hget h) (hget h') (famR f e sz G enc ll) (famR f e sz G' enc ll) = True := by
  rw [eq_iff_iff, iff_true]
  refine LeVs_iff (by rw [famR_len, famR_len]) fun j c c' hc hc' => ?_
  rw [famR_get] at hc hc'
  cases hx : ll[j]? with
  | none => rw [hx] at hc; cases hc
  | some x =>
    rw [hx] at hc hc'
    cases hc; cases hc'
    exact LeV_own (h1 j x hx) (h2 j x hx)
theorem LeVs_fam_set {y : List α} {g m : Nat} (h1 : hasFamX h f i e sz G enc ll) (h2 : hasFam h' f e sz G enc (ll.set i y)) (hg : (hget h (fx f i)).gen = g) (ha : (hget h (fx f i)).alive = true) (hm : lenEq m y) :
    LeVs (hget h) (hget h') ((famR f e sz G enc ll).set i (.own (fx f i) g 0 m)) (famR f e sz G enc (ll.set i y)) = True := by
  rw [eq_iff_iff, iff_true]
  unfold lenEq at hm
  subst hm
  refine LeVs_iff (by rw [List.length_set, famR_len, famR_len, List.length_set]) fun j c c' hc hc' => ?_
  rw [famR_get] at hc'
  cases hx : (ll.set i y)[j]? with
  | none => rw [hx] at hc'; cases hc'
  | some x =>
    rw [hx] at hc'
    cases hc'
    have h3 := h2 j x hx
    have hlt : j < ll.length := by have := (List.getElem?_eq_some_iff.1 hx).1; simpa using this
    by_cases hj : j = i
    · subst hj
      rw [List.getElem?_set_self (by rw [famR_len]; exact hlt)] at hc
      cases hc
      rw [List.getElem?_set_self hlt] at hx
      cases hx
      exact .inl ⟨by rw [hg], by rw [h3]; rfl, by rw [h3]; rfl, ha⟩
    · rw [List.getElem?_set_ne (fun e => hj e.symm), famR_get] at hc
      rw [List.getElem?_set_ne (fun e => hj e.symm)] at hx
      rw [hx] at hc
      cases hc
      exact LeV_own (h1 j x hj hx) h3
theorem LeVs_fam_elem {y : List α} (h1 : hasFamX h f i e sz G enc ll) (h2 : hasFam h' f e sz G enc (ll.set i y)) (hg : (hget h (fx f i)).gen = G) (ha : (hget h (fx f i)).alive = true) (hm : (ll[i]?).elim False fun x => lenEq x.length y) :
    LeVs (hget h) (hget h') (famR f e sz G enc ll) (famR f e sz G enc (ll.set i y)) = True := by
  have := LeVs_fam_set (y := y) (m := y.length) h1 h2 hg ha rfl
  have e : (famR f e sz G enc ll).set i (.own (fx f i) G 0 y.length) = famR f e sz G enc ll := by
    apply List.ext_getElem?
    intro j
    by_cases hj : j = i
    · subst hj
      cases hx : ll[j]? with
      | none => rw [hx] at hm; exact hm.elim
      | some x =>
        have hlt := (List.getElem?_eq_some_iff.1 hx).1
        rw [hx] at hm
        replace hm : x.length = y.length := hm
        rw [List.getElem?_set_self (by rw [famR_len]; exact hlt), famR_get, hx]
        simp [hm]
    · rw [List.getElem?_set_ne (fun e => hj e.symm)]
  rw [e] at this
  exact this
theorem LeVs_fam_snoc (h1 : hasFam h f e sz G enc ll) (h2 : hasFam h' f e sz G enc (ll ++ [[]])) (hd : (hget h (fx f ll.length)).alive = false) :
    LeVs (hget h) (hget h') (famR f e sz G enc ll ++ [.nils]) (famR f e sz G enc (ll ++ [[]])) = True := by
  rw [eq_iff_iff, iff_true]
  refine LeVs_iff (by simp [famR_len]) fun j c c' hc hc' => ?_
  rw [famR_get] at hc'
  cases hx : (ll ++ [[]])[j]? with
  | none => rw [hx] at hc'; cases hc'
  | some x =>
    rw [hx] at hc'
    cases hc'
    have h3 := h2 j x hx
    by_cases hj : j < ll.length
    · rw [List.getElem?_append_left (by rw [famR_len]; exact hj), famR_get] at hc
      rw [List.getElem?_append_left hj] at hx
      rw [hx] at hc
      cases hc
      exact LeV_own (h1 j x hx) h3
    · have hjl := (List.getElem?_eq_some_iff.1 hx).1
      simp only [List.length_append, List.length_singleton] at hjl
      have : j = ll.length := by omega
      subst this
      rw [List.getElem?_append_right (by rw [famR_len]; exact Nat.le_refl _), famR_len, Nat.sub_self] at hc
      cases hc
      have hx' : x = [] := by
        rw [List.getElem?_append_right (Nat.le_refl _), Nat.sub_self] at hx
        exact (Option.some.inj hx).symm
      subst hx'
      exact .inr ⟨rfl, rfl, rfl, hd, by rw [h3]; rfl⟩
theorem LeVs_fam_snocY {y : List α} {g m : Nat} (h1 : hasFam h f e sz G enc ll) (h2 : hasFam h' f e sz G enc (ll ++ [y])) (hg : (hget h (fx f ll.length)).gen = g) (ha : (hget h (fx f ll.length)).alive = true) (hm : lenEq m y) :
    LeVs (hget h) (hget h') (famR f e sz G enc ll ++ [.own (fx f ll.length) g 0 m]) (famR f e sz G enc (ll ++ [y])) = True := by
  rw [eq_iff_iff, iff_true]
  unfold lenEq at hm
  subst hm
  refine LeVs_iff (by simp [famR_len]) fun j c c' hc hc' => ?_
  rw [famR_get] at hc'
  cases hx : (ll ++ [y])[j]? with
  | none => rw [hx] at hc'; cases hc'
  | some x =>
    rw [hx] at hc'
    cases hc'
    have h3 := h2 j x hx
    by_cases hj : j < ll.length
    · rw [List.getElem?_append_left (by rw [famR_len]; exact hj), famR_get] at hc
      rw [List.getElem?_append_left hj] at hx
      rw [hx] at hc
      cases hc
      exact LeV_own (h1 j x hx) h3
    · have hjl := (List.getElem?_eq_some_iff.1 hx).1
      simp only [List.length_append, List.length_singleton] at hjl
      have : j = ll.length := by omega
      subst this
      rw [List.getElem?_append_right (by rw [famR_len]; exact Nat.le_refl _), famR_len, Nat.sub_self] at hc
      cases hc
      have hx' : x = y := by
        rw [List.getElem?_append_right (Nat.le_refl _), Nat.sub_self] at hx
        exact (Option.some.inj hx).symm
      subst hx'
      exact .inl ⟨by rw [hg], by rw [h3]; rfl, by rw [h3]; rfl, ha⟩
theorem LeVs_fam_init {n : Nat} (hd : famDead h f) (h2 : hasFam h' f e sz G enc (List.replicate n [])) : LeVs (hget h) (hget h') (List.replicate n .nils) (famR f e sz G enc (List.replicate n [])) = True := by
  rw [eq_iff_iff, iff_true]
  refine LeVs_iff (by simp [famR_len]) fun j c c' hc hc' => ?_
  rw [famR_get] at hc'
  cases hx : (List.replicate n ([] : List α))[j]? with
  | none => rw [hx] at hc'; cases hc'
  | some x =>
    rw [hx] at hc'
    cases hc'
    have h3 := h2 j x hx
    have hx' : x = [] := by
      rw [List.getElem?_replicate] at hx
      split at hx
      · exact (Option.some.inj hx).symm
      · cases hx
    subst hx'
    have hc2 : c = .nils := by
      rw [List.getElem?_replicate] at hc
      split at hc
      · exact (Option.some.inj hc).symm
      · cases hc
    subst hc2
    exact .inr ⟨rfl, rfl, rfl, hd j, by rw [h3]; rfl⟩
/-- the whole family as a value -/
theorem viewAll_famR (D : Nat → Bool) (n : Nat) (h1 : hasFam h f e sz G enc ll) (hD : ∀ i, D (fx f i) = true) : (viewAll (view D (n + 2)) (famR f e sz G enc ll)).run (hget h) = some (List.map (encL enc) ll) := by
  have key : ∀ (r : List (List α)) (k : Nat), (∀ j x, r[j]? = some x → hget h (fx f (k + j)) = .arr e sz G (List.map AV.p (List.map enc x))) →
      (viewAll (view D (n + 2)) (r.mapIdx fun i x => AV.own (fx f (k + i)) G 0 x.length)).run (hget h) = some (List.map (encL enc) r) := by
    intro r
    induction r with
    | nil => intro k _; rfl
    | cons x r ih =>
      intro k H
      have h0 := H 0 x rfl
      rw [Nat.add_zero] at h0
      have h2 := ih (k + 1) fun j y hy => by
        have := H (j + 1) y (by simpa using hy)
        rwa [show k + (j + 1) = k + 1 + j by omega] at this
      rw [List.mapIdx_cons]
      simp only [viewAll, L.run_bind', Nat.add_zero]
      have e1 : (view D (n + 2) (.own (fx f k) G 0 x.length)).run (hget h) = some (encL enc x) := by
        simp only [view, hD, if_true, L.run_look, h0]
        rw [if_pos ⟨trivial, by simp⟩]
        rw [L.run_bind', List.drop_zero, List.take_of_length_le (by simp), viewAll_p]
        rfl
      rw [e1]
      have e2 : (fun i (y : List α) => AV.own (fx f (k + (i + 1))) G 0 y.length) = fun i (y : List α) => AV.own (fx f (k + 1 + i)) G 0 y.length := by
        funext i y
        rw [show k + (i + 1) = k + 1 + i by omega]
      simp only [Option.bind_some, e2, h2]
      rfl
  have := key ll 0 fun j x hx => by rw [Nat.zero_add]; exact h1 j x hx
  simpa only [famR, Nat.zero_add] using this
end
end Go.Ab
/-
  Part 36: objects at other places.
-/
namespace Go.Ab
open Go
set_option linter.unusedVariables false
set_option linter.unusedSimpArgs false

mutual
def renV (π : Nat → Nat) : AV → AV
  | .any => .any
  | .p x => .p x
  | .nils => .nils
  | .loc l g i off => .loc (π l) g i off
  | .own l g off n => .own (π l) g off n
  | .mapo l g => .mapo (π l) g
  | .func fn cs => .func fn (renVs π cs)
  | .agg cs => .agg (renVs π cs)
  | .tup cs => .tup (renVs π cs)
def renVs (π : Nat → Nat) : List AV → List AV
  | [] => []
  | c :: r => renV π c :: renVs π r
end
def renO (π : Nat → Nat) : AO → AO
  | .dead g => .dead g
  | .arr e sz g es => .arr e sz g (renVs π es)
  | .map g ks vs => .map g (renVs π ks) (renVs π vs)
theorem renVs_map (π : Nat → Nat) : ∀ l : List AV, renVs π l = l.map (renV π)
  | [] => rfl
  | c :: r => by simp only [renVs, List.map_cons, renVs_map π r]
theorem renVs_p (π : Nat → Nat) (xs : List PV) : renVs π (List.map AV.p xs) = List.map AV.p xs := by
  rw [renVs_map, List.map_map]; rfl
theorem renVs_rep (π : Nat → Nat) (n : Nat) (v : PV) : renVs π (List.replicate n (AV.p v)) = List.replicate n (AV.p v) := by
  rw [renVs_map, List.map_replicate]; rfl
theorem renVs_repn (π : Nat → Nat) (n : Nat) : renVs π (List.replicate n AV.nils) = List.replicate n AV.nils := by
  rw [renVs_map, List.map_replicate]; rfl
theorem renVs_len (π : Nat → Nat) (l : List AV) : (renVs π l).length = l.length := by rw [renVs_map, List.length_map]
theorem renVs_set (π : Nat → Nat) (l : List AV) (i : Nat) (v : AV) : renVs π (l.set i v) = (renVs π l).set i (renV π v) := by rw [renVs_map, renVs_map, List.map_set]
theorem renVs_app (π : Nat → Nat) (a b : List AV) : renVs π (a ++ b) = renVs π a ++ renVs π b := by rw [renVs_map, renVs_map, renVs_map, List.map_append]
theorem renO_gen (π : Nat → Nat) (o : AO) : (renO π o).gen = o.gen := by cases o <;> rfl
theorem renO_alive (π : Nat → Nat) (o : AO) : (renO π o).alive = o.alive := by cases o <;> rfl

section
variable {X : Nat → Prop} {inj : Inj} {σ : Nat → AO} {w : World} {π : Nat → Nat}
abbrev renS (π : Nat → Nat) (σ : Nat → AO) : Nat → AO := fun l => renO π (σ (π l))
abbrev renI (π : Nat → Nat) (inj : Inj) : Inj := fun l => inj (π l)
theorem renF (hπ : ∀ l, π (π l) = l) (D : Nat → Bool) (hD : ∀ l, D l = false) (b : Nat) : F (renI π inj) (renS π σ) b ↔ F inj σ b := by
  constructor
  · rintro ⟨l, c, o, h1, h2, _, h3⟩
    refine ⟨π l, c, σ (π l), rfl, ?_, rfl, h3⟩
    rw [← h1, renO_alive] at h2; exact h2
  · rintro ⟨l, c, o, h1, h2, _, h3⟩
    refine ⟨π l, c, renO π o, ?_, by rw [renO_alive]; exact h2, rfl, ?_⟩
    · show renO π (σ (π (π l))) = renO π o
      rw [hπ, h1]
    · show inj (π (π l)) = some (b, c)
      rw [hπ]; exact h3
theorem renO_arr {o : AO} {e sz g : Nat} {es : List AV} (h : renO π o = .arr e sz g es) : ∃ es0, o = .arr e sz g es0 ∧ es = renVs π es0 := by
  cases o with
  | dead _ => cases h
  | arr e' sz' g' es0 =>
    simp only [renO, AO.arr.injEq] at h
    obtain ⟨rfl, rfl, rfl, rfl⟩ := h
    exact ⟨es0, rfl, rfl⟩
  | map _ _ _ => cases h
theorem renO_map {o : AO} {g : Nat} {ks vs : List AV} (h : renO π o = .map g ks vs) : ∃ ks0 vs0, o = .map g ks0 vs0 := by
  cases o with
  | dead _ => cases h
  | arr _ _ _ _ => cases h
  | map g' ks0 vs0 =>
    simp only [renO, AO.map.injEq] at h
    obtain ⟨rfl, rfl, rfl⟩ := h
    exact ⟨ks0, vs0, rfl⟩
mutual
theorem AR.ren (hπ : ∀ l, π (π l) = l) : ∀ (v : AV) (val : Value), AR X inj σ w v val → AR X (renI π inj) (renS π σ) w (renV π v) val
  | .any, _, _ => trivial
  | .p x, val, h => by
    have e : (fun b => X b ∨ F inj σ b) = fun b => X b ∨ F (renI π inj) (renS π σ) b := by
      funext b
      rw [renF (inj := inj) (σ := σ) hπ (fun _ => false) (fun _ => rfl) b]
    simp only [renV, AR] at *
    rw [← e]; exact h
  | .nils, _, h => h
  | .loc l g i off, val, h => by
    obtain ⟨h1, h2⟩ := h
    refine ⟨h1, fun o ho => ?_⟩
    have ho : renO π (σ l) = o := by rw [← ho]; show _ = renO π (σ (π (π l))); rw [hπ]
    obtain ⟨h3, h4⟩ := h2 _ rfl
    rw [← ho, renO_gen]
    refine ⟨h3, fun hg e sz es he => ?_⟩
    obtain ⟨es0, he0, _⟩ := renO_arr he
    obtain ⟨b, c, h5, h6⟩ := h4 hg e sz es0 he0
    exact ⟨b, c, by show inj (π (π l)) = _; rw [hπ]; exact h5, h6⟩
  | .own l g off n, val, h => by
    obtain ⟨h1, h2⟩ := h
    refine ⟨h1, fun o ho => ?_⟩
    have ho : renO π (σ l) = o := by rw [← ho]; show _ = renO π (σ (π (π l))); rw [hπ]
    obtain ⟨h3, h4⟩ := h2 _ rfl
    rw [← ho, renO_gen]
    refine ⟨h3, fun hg e sz es he => ?_⟩
    obtain ⟨es0, he0, he1⟩ := renO_arr he
    have hi : renI π inj (π l) = inj l := by show inj (π (π l)) = _; rw [hπ]
    rw [he1, renVs_len, hi]
    exact h4 hg e sz es0 he0
  | .mapo l g, val, h => by
    obtain ⟨h1, h2⟩ := h
    refine ⟨h1, fun o ho => ?_⟩
    have ho : renO π (σ l) = o := by rw [← ho]; show _ = renO π (σ (π (π l))); rw [hπ]
    obtain ⟨h3, h4⟩ := h2 _ rfl
    rw [← ho, renO_gen]
    refine ⟨h3, fun hg ks vs he => ?_⟩
    obtain ⟨ks0, vs0, he0⟩ := renO_map he
    obtain ⟨b, c, h5, h6⟩ := h4 hg ks0 vs0 he0
    exact ⟨b, c, by show inj (π (π l)) = _; rw [hπ]; exact h5, h6⟩
  | .func fn cs, val, h => by
    obtain ⟨vs, h1, h2⟩ := h
    exact ⟨vs, h1, ARs.ren hπ cs vs h2⟩
  | .agg cs, val, h => by
    obtain ⟨vs, h1, h2, h3⟩ := h
    exact ⟨vs, h1, ARs.ren hπ cs vs h2, h3⟩
  | .tup cs, val, h => by
    obtain ⟨vs, h1, h2⟩ := h
    exact ⟨vs, h1, ARs.ren hπ cs vs h2⟩
theorem ARs.ren (hπ : ∀ l, π (π l) = l) : ∀ (vs : List AV) (vals : List Value), ARs X inj σ w vs vals → ARs X (renI π inj) (renS π σ) w (renVs π vs) vals
  | [], _, h => h
  | c :: r, _, h => by
    obtain ⟨v, rs, h1, h2, h3⟩ := h
    exact ⟨v, rs, h1, AR.ren hπ c v h2, ARs.ren hπ r rs h3⟩
end
theorem HR.ren (hπ : ∀ l, π (π l) = l) (h : HR X inj σ w) : HR X (renI π inj) (renS π σ) w := by
  refine ⟨fun l o ho => ?_, fun l l' o o' b c c' h1 h2 a1 a2 h3 h4 => ?_, h.xlt⟩
  · have h1 := h.obj (π l) _ rfl
    subst ho
    show OR X (renI π inj) (renS π σ) w l (renO π (σ (π l)))
    cases hs : σ (π l) with
    | dead g => trivial
    | arr e sz g es =>
      rw [hs] at h1
      obtain ⟨vs, q1, q2, q3, q4⟩ := h1
      refine ⟨vs, ARs.ren hπ es vs q1, q2, q3, ?_⟩
      rw [renVs_len]
      rcases q4 with ⟨q4, q5⟩ | q4
      · exact .inl ⟨q4, by rw [q5]; rfl⟩
      · exact .inr q4
    | map g ks vs =>
      rw [hs] at h1
      obtain ⟨b, c, ms, clock, q1, q2, q3, q4, q5⟩ := h1
      exact ⟨b, c, ms, clock, q1, q2, q3, ARs.ren hπ ks _ q4, ARs.ren hπ vs _ q5⟩
  · have := h.inj1 (π l) (π l') _ _ b c c' rfl rfl (by rw [← h1, renO_alive] at a1; exact a1) (by rw [← h2, renO_alive] at a2; exact a2) h3 h4
    have := congrArg π this
    rwa [hπ, hπ] at this
end

def hren (π : Nat → Nat) (h : List (Nat × AO)) : List (Nat × AO) := h.map fun x => (π x.1, renO π x.2)
def renE (π : Nat → Nat) (env : Env) : Env := env.map fun x => (x.1, renV π x.2)
theorem hget_hren {π : Nat → Nat} (hπ : ∀ l, π (π l) = l) (h : List (Nat × AO)) (l : Nat) : hget (hren π h) l = renO π (hget h (π l)) := by
  induction h with
  | nil => rfl
  | cons x h ih =>
    obtain ⟨k, o⟩ := x
    simp only [hren, List.map_cons, hget]
    by_cases hk : π k = l
    · have : k = π l := by rw [← hk, hπ]
      rw [if_pos hk, if_pos this]
    · have : ¬ k = π l := fun e => hk (by rw [e, hπ])
      rw [if_neg hk, if_neg this]; exact ih
theorem renE_get (π : Nat → Nat) (env : Env) (t : Nat) : (renE π env).get t = renV π (env.get t) := by
  induction env with
  | nil => rfl
  | cons x env ih =>
    obtain ⟨k, v⟩ := x
    simp only [renE, List.map_cons, Env.get]
    split
    · rfl
    · exact ih
/-- what may come to a place that held o0 when the call began -/
def RenOk (o0 o : AO) : Prop := o0.gen ≤ o.gen ∧ (o.alive = true → o0.gen < o.gen)
variable {C : Cx} {Q : Exit → St → Prop} {st : St} {inj : Inj} {a : Act} {w : World}
theorem SR.ren {π : Nat → Nat} (hπ : ∀ l, π (π l) = l) (hs : SR C st inj a w) (hm : ∀ l, π l ≠ l → RenOk (hget C.H0 l) (hget st.heap (π l))) :
    SR C ⟨renE π st.env, hren π st.heap⟩ (renI π inj) a w := by
  have hsig : (hget (hren π st.heap)) = renS π (hget st.heap) := by funext l; exact hget_hren hπ _ l
  refine ⟨fun t => ?_, hs.size, hs.defers, ?_, ?_⟩
  · show AR C.X (renI π inj) (hget (hren π st.heap)) w ((renE π st.env).get t) _
    rw [hsig, renE_get]
    exact AR.ren hπ _ _ (hs.env t)
  · show HR C.X (renI π inj) (hget (hren π st.heap)) w
    rw [hsig]
    exact HR.ren hπ hs.hr
  · show Ev C.D C.X C.inj0 (hget C.H0) C.w0 (renI π inj) (hget (hren π st.heap)) w
    rw [hsig]
    refine ⟨hs.ev.os, hs.ev.tape, hs.ev.output, hs.ev.dr, hs.ev.size, hs.ev.fz, hs.ev.blk, fun b hb => hs.ev.fp b ((renF hπ (fun _ => false) (fun _ => rfl) b).1 hb), fun l => ?_⟩
    by_cases hl : π l = l
    · have h0 := hs.ev.objs l
      show OEv (hget C.H0 l) (renO π (hget st.heap (π l))) (inj (π l) = C.inj0 l)
      rw [hl]
      refine ⟨by rw [renO_gen]; exact h0.1, fun ha hg => ?_⟩
      rw [renO_alive] at ha
      rw [renO_gen] at hg
      obtain ⟨h1, h2⟩ := h0.2 ha hg
      refine ⟨h1, ?_⟩
      rcases h2 with ⟨e, sz, es, es', q1, q2, q3⟩ | ⟨ks, vs, ks', vs', q1, q2⟩
      · exact .inl ⟨e, sz, es, renVs π es', q1, by rw [show st.sig l = hget st.heap l from rfl] at q2; rw [q2]; rfl, by rw [renVs_len]; exact q3⟩
      · exact .inr ⟨ks, vs, renVs π ks', renVs π vs', q1, by rw [show st.sig l = hget st.heap l from rfl] at q2; rw [q2]; rfl⟩
    · obtain ⟨h1, h2⟩ := hm l hl
      refine ⟨by show _ ≤ (renO π (hget st.heap (π l))).gen; rw [renO_gen]; exact h1, fun ha hg => ?_⟩
      have ha' : (hget st.heap (π l)).alive = true := by
        have : (renO π (hget st.heap (π l))).alive = true := ha
        rwa [renO_alive] at this
      have hg' : (hget C.H0 l).gen = (hget st.heap (π l)).gen := by
        have : (hget C.H0 l).gen = (renO π (hget st.heap (π l))).gen := hg
        rwa [renO_gen] at this
      have := h2 ha'
      omega
/-- two places change sides -/
def swp (a b l : Nat) : Nat := if l = a then b else if l = b then a else l
theorem swp_inv (a b l : Nat) : swp a b (swp a b l) = l := by
  unfold swp
  by_cases h1 : l = a
  · subst h1
    by_cases h2 : b = l
    · subst h2; simp
    · simp [h2]
  · by_cases h2 : l = b
    · subst h2; simp [h1]
    · simp [h1, h2]
theorem SR.swp {x y : Nat} (hs : SR C st inj a w) (h1 : RenOk (hget C.H0 x) (hget st.heap y)) (h2 : RenOk (hget C.H0 y) (hget st.heap x)) : SR C ⟨renE (swp x y) st.env, hren (swp x y) st.heap⟩ (renI (swp x y) inj) a w := by
  refine hs.ren (swp_inv x y) fun l hl => ?_
  unfold Ab.swp at hl ⊢
  by_cases e1 : l = x
  · subst e1; simpa using h1
  · by_cases e2 : l = y
    · subst e2
      by_cases e3 : l = x
      · exact absurd e3 e1
      · simpa [e3] using h2
    · simp [e1, e2] at hl
/-! ### families under an exchange of a plain place and a member -/
section
variable {α : Type} {h : List (Nat × AO)} {f i d e sz G : Nat} {enc : α → PV} {ll : List (List α)}
theorem hget_swp (x y : Nat) (h : List (Nat × AO)) (l : Nat) : hget (hren (swp x y) h) l = renO (swp x y) (hget h (swp x y l)) := hget_hren (swp_inv x y) h l
theorem swp_fx_ne {j : Nat} (hd : d < 1048576) (hj : j ≠ i) : swp d (fx f i) (fx f j) = fx f j := by
  unfold swp
  have h1 : ¬ fx f j = d := fun e => fx_low hd e.symm
  have h2 : ¬ fx f j = fx f i := by rw [fx_inj]; exact hj
  rw [if_neg h1, if_neg h2]
theorem renVs_p_inv {π : Nat → Nat} : ∀ {es : List AV} {xs : List PV}, renVs π es = List.map AV.p xs → es = List.map AV.p xs
  | [], [], _ => rfl
  | [], _ :: _, h => by simp [renVs] at h
  | _ :: _, [], h => by simp [renVs] at h
  | c :: es, x :: xs, h => by
    simp only [renVs, List.map_cons, List.cons.injEq] at h
    obtain ⟨h1, h2⟩ := h
    rw [renVs_p_inv h2, List.map_cons]
    congr 1
    cases c <;> simp_all [renV]
theorem renO_pure {π : Nat → Nat} {o : AO} {xs : List PV} : (renO π o = .arr e sz G (List.map AV.p xs)) = (o = .arr e sz G (List.map AV.p xs)) := by
  rw [eq_iff_iff]
  constructor
  · intro h
    obtain ⟨es0, rfl, h2⟩ := renO_arr h
    rw [renVs_p_inv h2.symm]
  · rintro rfl
    simp only [renO, renVs_p]
theorem swp_hasFamX (hd : d < 1048576) : hasFamX (hren (swp d (fx f i)) h) f i e sz G enc ll = hasFamX h f i e sz G enc ll := by
  unfold hasFamX
  rw [eq_iff_iff]
  constructor
  · intro H j x hj hx
    have := H j x hj hx
    rw [hget_swp, swp_fx_ne hd hj, renO_pure] at this
    exact this
  · intro H j x hj hx
    rw [hget_swp, swp_fx_ne hd hj, renO_pure]
    exact H j x hj hx
theorem swp_hasFam_len (hd : d < 1048576) : hasFam (hren (swp d (fx f ll.length)) h) f e sz G enc ll = hasFam h f e sz G enc ll := by
  unfold hasFam
  rw [eq_iff_iff]
  constructor
  · intro H j x hx
    have hj := (List.getElem?_eq_some_iff.1 hx).1
    have := H j x hx
    rw [hget_swp, swp_fx_ne hd (by omega), renO_pure] at this
    exact this
  · intro H j x hx
    have hj := (List.getElem?_eq_some_iff.1 hx).1
    rw [hget_swp, swp_fx_ne hd (by omega), renO_pure]
    exact H j x hx
theorem swp_famR_set (hd : d < 1048576) (v : AV) : (renVs (swp d (fx f i)) (famR f e sz G enc ll)).set i v = (famR f e sz G enc ll).set i v := by
  apply List.ext_getElem?
  intro j
  by_cases hj : j = i
  · subst hj
    rw [List.getElem?_set, List.getElem?_set, renVs_len]
    simp
  · rw [List.getElem?_set_ne (fun e => hj e.symm), List.getElem?_set_ne (fun e => hj e.symm), renVs_map, List.getElem?_map, famR_get]
    cases ll[j]? with
    | none => rfl
    | some x => simp only [Option.map_some, renV, swp_fx_ne hd hj]
theorem swp_famR_len (hd : d < 1048576) : renVs (swp d (fx f ll.length)) (famR f e sz G enc ll) = famR f e sz G enc ll := by
  apply List.ext_getElem?
  intro j
  rw [renVs_map, List.getElem?_map, famR_get]
  cases hx : ll[j]? with
  | none => rfl
  | some x =>
    have hj := (List.getElem?_eq_some_iff.1 hx).1
    simp only [Option.map_some, renV, swp_fx_ne hd (show j ≠ ll.length by omega)]
theorem swp_low {k : Nat} (h1 : (k = d) = False) (h2 : k < 1048576) : swp d (fx f i) k = k := by
  replace h1 : ¬ k = d := of_eq_false h1
  unfold swp
  have : ¬ k = fx f i := fx_low h2
  rw [if_neg h1, if_neg this]
theorem swp_here : swp d (fx f i) (fx f i) = d := by unfold swp; split <;> simp_all
theorem swp_there : swp d (fx f i) d = fx f i := by unfold swp; simp
end
end Go.Ab
/-
  Part 37: how families are reckoned.
-/
namespace Go.Ab
open Go
set_option linter.unusedVariables false
section
variable {α : Type} {h : List (Nat × AO)} {f e sz G : Nat} {enc : α → PV} {ll : List (List α)}
theorem viewAll8_fam (D : Nat → Bool) (h1 : hasFam h f e sz G enc ll) (hD : ∀ i, D (fx f i) = true) : (viewAll (view D 8) (famR f e sz G enc ll)).run (hget h) = some (List.map (encL enc) ll) := viewAll_famR D 6 h1 hD
theorem viewAll7_fam (D : Nat → Bool) (h1 : hasFam h f e sz G enc ll) (hD : ∀ i, D (fx f i) = true) : (viewAll (view D 7) (famR f e sz G enc ll)).run (hget h) = some (List.map (encL enc) ll) := viewAll_famR D 5 h1 hD
theorem viewAll6_fam (D : Nat → Bool) (h1 : hasFam h f e sz G enc ll) (hD : ∀ i, D (fx f i) = true) : (viewAll (view D 6) (famR f e sz G enc ll)).run (hget h) = some (List.map (encL enc) ll) := viewAll_famR D 4 h1 hD
theorem famR_take : (famR f e sz G enc ll).take ll.length = famR f e sz G enc ll := List.take_of_length_le (by rw [famR_len]; exact Nat.le_refl _)
theorem gen_ite (c : Prop) [Decidable c] (a b : AO) : (if c then a else b).gen = if c then a.gen else b.gen := by split <;> rfl
theorem alive_ite (c : Prop) [Decidable c] (a b : AO) : (if c then a else b).alive = if c then a.alive else b.alive := by split <;> rfl
theorem lt_cast_succ (n : Nat) : ((n : Int) < ((n + 1 : Nat) : Int)) = True := by simp; omega
theorem ite_same {β : Type} (c : Prop) [Decidable c] (a : β) : (if c then a else a) = a := ite_self a
end
theorem renE_cons (π : Nat → Nat) (t : Nat) (v : AV) (r : Env) : renE π ((t, v) :: r) = (t, renV π v) :: renE π r := rfl
theorem renE_nil (π : Nat → Nat) : renE π [] = [] := rfl
theorem take_all_of {β : Type} {l : List β} {n : Nat} (h : l.length = n) : l.take n = l := List.take_of_length_le (by omega)
theorem slc_encL {β : Type} (l : List PV) (f : β → PV) (x : List β) : (PV.slc l = encL f x) = (l = List.map f x) := by simp [encL]
attribute [simp] slc_encL
attribute [go_sem] take_all_of slc_encL lit_ne_fx fx_ne_lit fx_inj famR_get famR_len famR_nil famR_take famL_nil famL_low famL_fx famL_other get_at_len Option.elim_some Option.elim_none
  hasFam_low hasFam_same hasFam_other hasFam_none hasFamX_low hasFamX_here hasFamX_same hasFamX_other famDead_low famDead_nil famDead_none famDead_other famKeep_low famKeep_nil famKeep_same famKeep_other
  hasKeys_cons hasKeys_same hasKeys_rest noObj_nil noObj_low noObj_fam noObj_other isMem_arr lenEq_self lenEq_set lenEq_set2 lenEq_snoc lenEq_app lenEq_rep lenEq_one lenEq_nil lenEq_of memEq_self memEq_nil memEq_app memEq_snoc memEq_one memEq_set memEq_rep memEq_snoc' memEq_app' memEq_set' keysIn_famL leHeap_fam_eq leHeap_fam_set leHeap_fam_snoc leHeap_fam_snocY leHeap_fam_init LeVs_fam_eq LeVs_fam_set LeVs_fam_elem LeVs_fam_snoc LeVs_fam_snocY LeVs_fam_init
  viewAll8_fam viewAll7_fam viewAll6_fam gen_ite alive_ite ite_same lt_cast_succ
  hget_swp renV renVs renO renVs_p renVs_set renVs_app renVs_rep renVs_repn renE_cons renE_nil swp_hasFamX swp_hasFam_len swp_famR_set swp_famR_len swp_low swp_here swp_there RenOk
variable {C : Cx} {Q : Exit → St → Prop} {st : St}
end Go.Ab
namespace Go.Ab
open Go
section
variable {α : Type} {h h' H0 rest : List (Nat × AO)} {f e sz G : Nat} {enc : α → PV}
theorem leHeap_fam_one (h2 : hasFam h' f e sz G enc [[]]) (hd : (hget h (fx f 0)).alive = false) (hd0 : noObj H0 (fx f 0)) (hg : 1 ≤ G) :
    leHeap (hget h) (hget h') H0 (famL f e sz G enc [[]] rest) = leHeap (hget h) (hget h') H0 rest := leHeap_fam_snoc (ll := []) (fun _ _ h => by simp at h) h2 hd hd0 hg
theorem LeVs_fam_one (h2 : hasFam h' f e sz G enc [[]]) (hd : (hget h (fx f 0)).alive = false) : LeVs (hget h) (hget h') [.nils] (famR f e sz G enc [[]]) = True :=
  LeVs_fam_snoc (ll := []) (fun _ _ h => by simp at h) h2 hd
end
attribute [go_sem] leHeap_fam_one LeVs_fam_one
end Go.Ab
namespace Go.Ab
open Go
section
variable {α : Type} {h h' H0 rest : List (Nat × AO)} {f e sz G : Nat} {enc : α → PV} {ll : List (List α)}
/-- the members become values -/
theorem LeVs_fam_view (h1 : hasFam h f e sz G enc ll) (h2 : famDead h' f) : LeVs (hget h) (hget h') (famR f e sz G enc ll) (List.map AV.p (List.map (encL enc) ll)) = True := by
  rw [eq_iff_iff, iff_true]
  refine LeVs_iff (by simp [famR_len]) fun j c c' hc hc' => ?_
  rw [famR_get] at hc
  cases hx : ll[j]? with
  | none => rw [hx] at hc; cases hc
  | some x =>
    rw [hx] at hc
    cases hc
    rw [List.getElem?_map, List.getElem?_map, hx] at hc'
    cases hc'
    show (view (fun l => !(hget h' l).alive) 9 (.own (fx f j) G 0 x.length)).run (hget h) = some (encL enc x)
    have hD : (!(hget h' (fx f j)).alive) = true := by rw [h2 j]; rfl
    simp only [view, hD, if_true, L.run_look, h1 j x hx]
    rw [if_pos ⟨trivial, by simp⟩]
    rw [L.run_bind', List.drop_zero, List.take_of_length_le (by simp), viewAll_p]
    rfl
end
attribute [go_sem] LeVs_fam_view
end Go.Ab
namespace Go.Ab
open Go
set_option linter.unusedVariables false
section
variable {C : Cx} {Q : Exit → St → Prop} {st : St}
/-- clearing a part of an own array of slices -/
theorem zCn {α : Type} (f : α → PV) (l : List α) (K off len : Nat) (hle : off + len ≤ l.length) {ops : Array Oper} {o : Oper} {rest : List Oper} {g e sz : Nat} {t : TypeId} {x : Operand} {st' : St}
    (h : AL C ops rest Q st') (ho : o.op = .call ⟨.builtin .clear, #[x], #[t]⟩ := by rfl) (hg : guardA ops st.env o = some true := by first | exact guard_none rfl | exact guard_true' rfl rfl (by exact rfl) (by exact rfl)) (hd : dstOk C.N o = true := by rfl)
    (hu : C.P.underlying t = some (.slice e) := by simp only [go_sem, seval]; all_goals exact rfl) (hx : ev st.env x = .own K g off len := by simp only [go_sem, seval, *]; all_goals exact zF)
    (hs : hget st.heap K = .arr e sz g ((l.map f).map .p) := by simp only [go_sem, seval, *]; all_goals exact zF) (hsz : sz = C.P.cellsOf e := by simp only [go_sem, seval]; all_goals rfl) (hz : zeroOf C.P e = some .nils := by simp only [go_sem, seval]; all_goals rfl)
    (hok : elemOk sz .nils = true := by rfl)
    (hst : (⟨putE st.env o.dst (.p (.tup [])), putH st.heap (some (K, .arr e sz g (List.map AV.p (List.map f (l.take off)) ++ List.replicate len .nils ++ List.map AV.p (List.map f (l.drop (off + len))))))⟩ : St) = st' := by exact rfl) : AL C ops (o :: rest) Q st := by
  obtain ⟨dst, op, type, pos, after, guard⟩ := o
  simp only at ho
  subst ho
  subst hsz
  have hr : (aop C.P C.B (ev st.env) ⟨dst, .call ⟨.builtin .clear, #[x], #[t]⟩, type, pos, after, guard⟩).run (hget st.heap) = some (.p (.tup []), some (K, .arr e (C.P.cellsOf e) g (List.map AV.p (List.map f (l.take off)) ++ List.replicate len .nils ++ List.map AV.p (List.map f (l.drop (off + len)))))) := by
    show (clearA C.P t (ev st.env x)).run (hget st.heap) = _
    unfold clearA
    rw [hu, hx]
    simp only [L.run, hs]
    rw [if_pos ⟨trivial, trivial, trivial, by simpa using hle⟩, hz]
    simp only [hok, if_true, L.run_ret]
    simp only [List.map_take, List.map_drop]
  subst hst
  refine AL_gt' hg hd ?_ h
  rw [hr]; rfl
theorem LeVs_app2 {σ σ' : Nat → AO} : ∀ {a a' b b' : List AV}, LeVs σ σ' a a' → LeVs σ σ' b b' → LeVs σ σ' (a ++ b) (a' ++ b')
  | [], [], _, _, _, h => h
  | [], _ :: _, _, _, h, _ => h.elim
  | _ :: _, [], _, _, h, _ => by simp [LeVs] at h
  | c :: a, c' :: a', b, b', h, k => ⟨h.1, LeVs_app2 h.2 k⟩
theorem LeVs_cut {α : Type} {σ σ' : Nat → AO} {f : α → PV} {a b : List α} {n : Nat} {z : α} (hz : f z = .slc []) :
    LeVs σ σ' (List.map AV.p (List.map f a) ++ List.replicate n .nils ++ List.map AV.p (List.map f b)) (List.map AV.p (List.map f (a ++ List.replicate n z ++ b))) = True := by
  rw [eq_iff_iff, iff_true]
  simp only [List.map_append, List.map_replicate, hz]
  exact LeVs_app2 (LeVs_app2 (LeVs_p _ _ _) (LeVs_repn _ _ _)) (LeVs_p _ _ _)
theorem LeVs_cut' {α : Type} {σ σ' : Nat → AO} {f : α → PV} {a b : List α} {n : Nat} {z : α} (hz : f z = .slc []) :
    LeVs σ σ' (List.map AV.p (List.map f a) ++ (List.replicate n .nils ++ List.map AV.p (List.map f b))) (List.map AV.p (List.map f (a ++ List.replicate n z ++ b))) = True := by
  rw [← List.append_assoc]; exact LeVs_cut hz
theorem encL_nil {α : Type} (f : α → PV) : (encL f [] = .slc []) = True := by simp [encL]
end
attribute [go_sem] LeVs_cut LeVs_cut' encL_nil
end Go.Ab
/-
  Part 38: drawn regions that touch families: what the events touch, in numbers.
-/
namespace Go.Ab
open Go
set_option linter.unusedVariables false
theorem plc_exists : ∃ p : Nat → Nat, (∀ k, k < 1048576 → p k = k) ∧ ∀ f i, f < 1048576 → p (fx f i) = 1048576 + f := by
  refine ⟨fun l => open Classical in if l < 1048576 then l else if h : ∃ f i, f < 1048576 ∧ l = fx f i then 1048576 + h.choose else 0, fun k hk => if_pos hk, fun f i hf => ?_⟩
  have h1 : ¬ fx f i < 1048576 := fun h => fx_low h rfl
  have h2 : ∃ f' i', f' < 1048576 ∧ fx f i = fx f' i' := ⟨f, i, hf, rfl⟩
  simp only [h1, if_false]
  rw [dif_pos h2]
  obtain ⟨i', h3, h4⟩ := h2.choose_spec
  by_cases hn : f = h2.choose
  · rw [← hn]
  · rw [fx_ne hf h3 hn] at h4; exact h4.elim
noncomputable def plc : Nat → Nat := Classical.choose plc_exists
theorem plc_lit {k : Nat} (h : k < 1048576) : plc k = k := (Classical.choose_spec plc_exists).1 k h
theorem plc_fx {f i : Nat} (h : f < 1048576) : plc (fx f i) = 1048576 + f := (Classical.choose_spec plc_exists).2 f i h
def shOf (p : Nat → Nat) (e : Evt) : Option Nat × List Nat := (e.wr.map p, e.reads.map p)
def shOkB (x y : Option Nat × List Nat) : Bool :=
  (match x.1 with
   | some l => !y.2.contains l && y.1 != some l
   | none => true) && (match y.1 with
   | some l => !x.2.contains l
   | none => true)
def shsOk (ops : Array Oper) (es : List (Option Nat × List Nat)) : Bool :=
  let A := ancN ops ops.size
  (List.range ops.size).all fun j => (List.range j).all fun i => isAnc A j i ||
    (match es[i]?, es[j]? with
     | some x, some y => shOkB x y
     | _, _ => true)
theorem shOkB_ev {p : Nat → Nat} {x y : Evt} (h : shOkB (shOf p x) (shOf p y) = true) : evOkB x y = true := by
  unfold shOkB shOf at h
  unfold evOkB
  simp only [Bool.and_eq_true] at h ⊢
  obtain ⟨h1, h2⟩ := h
  constructor
  · cases hx : x.wr with
    | none => rfl
    | some l =>
      rw [hx] at h1
      simp only [Option.map_some, Bool.and_eq_true, Bool.not_eq_true', bne_iff_ne, ne_eq] at h1 ⊢
      obtain ⟨q1, q2⟩ := h1
      refine ⟨?_, fun e => q2 (by rw [e]; rfl)⟩
      cases hc : y.reads.contains l with
      | false => rfl
      | true =>
        have : (y.reads.map p).contains (p l) = true := by
          simp only [List.contains_iff_mem, List.mem_map] at hc ⊢
          exact ⟨l, hc, rfl⟩
        rw [this] at q1; cases q1
  · cases hy : y.wr with
    | none => rfl
    | some l =>
      rw [hy] at h2
      simp only [Option.map_some, Bool.not_eq_true'] at h2 ⊢
      cases hc : x.reads.contains l with
      | false => rfl
      | true =>
        have : (x.reads.map p).contains (p l) = true := by
          simp only [List.contains_iff_mem, List.mem_map] at hc ⊢
          exact ⟨l, hc, rfl⟩
        rw [this] at h2; cases h2
theorem evsOk_sh {ops : Array Oper} {es : List Evt} {p : Nat → Nat} (h : shsOk ops (es.map (shOf p)) = true) : evsOk ops es = true := by
  simp only [shsOk, evsOk, List.all_eq_true, List.mem_range, Bool.or_eq_true] at h ⊢
  intro j hj i hi
  rcases h j hj i hi with h1 | h1
  · exact .inl h1
  · right
    rw [List.getElem?_map, List.getElem?_map] at h1
    cases hx : es[i]? with
    | none => rfl
    | some x =>
      cases hy : es[j]? with
      | none => rfl
      | some y =>
        rw [hx, hy] at h1
        exact shOkB_ev h1
theorem evsOk_acc {ops : Array Oper} {acc : List Evt} {sh : List (Option Nat × List Nat)} (hsh : acc.map (shOf plc) = sh) (hev : shsOk ops sh.reverse = true) : evsOk ops acc.reverse = true := by
  subst hsh
  rw [← List.map_reverse] at hev
  exact evsOk_sh hev
variable {C : Cx} {Q : Exit → St → Prop} {st : St}
theorem ydS {l : Array Oper} {acc : List Evt} {sh : List (Option Nat × List Nat)} (h : Q .normal st) (hsh : acc.map (shOf plc) = sh := by simp only [List.map_cons, List.map_nil, shOf, Evt.wr, Option.map_some, Option.map_none, plc_lit, plc_fx, seval, go_sem]; exact rfl) (hev : shsOk l sh.reverse = true := by kernel_rfl) : DGo C l [] st acc (DK C l Q) := DGo.fin (evsOk_acc hsh hev) h
theorem ydlS {l : Array Oper} {r : List Oper} {acc : List Evt} {sh : List (Option Nat × List Nat)} (h : AL C l r Q st) (hsh : acc.map (shOf plc) = sh := by simp only [List.map_cons, List.map_nil, shOf, Evt.wr, Option.map_some, Option.map_none, plc_lit, plc_fx, seval, go_sem]; exact rfl) (hev : shsOk l sh.reverse = true := by kernel_rfl) : DGo C l [] st acc (DKL C l r Q) := DGo.done ⟨evsOk_acc hsh hev, h⟩
theorem set_at {β : Type} (l : List β) (i : Nat) (a : β) : (l.set i a)[i]? = (l[i]?).map fun _ => a := by
  rw [List.getElem?_set]
  by_cases h : i < l.length
  · simp [h]
  · simp [h]
attribute [go_sem] set_at
end Go.Ab
/-
  Part 39: what the library collects of an iterator over a slice of structs is a new own object.
-/
namespace Go.Ab
variable {D : Prop}
open Go
set_option linter.unusedVariables false
set_option linter.unusedSimpArgs false

/-- the slice value sv holds n elements with the cells news, in a block below n₀; or there are none -/
def CellsAt (n₀ : Nat) (W : World) (sv : Value) (n : Nat) (news : List Value) : Prop :=
  (∃ a cap, sv = .slice a 0 cap ∧ n = 0) ∨ ∃ b off cap, sv = .slice (some ⟨b, off, none⟩) n cap ∧ b < n₀ ∧ ∀ j u, news[j]? = some u → W.cell? ⟨b, off + j, none⟩ = some u
theorem CellsAt.below {n₀ n : Nat} {A B : World} (h : RowKit.Below n₀ A B) {sv : Value} {news : List Value} : CellsAt n₀ A sv n news → CellsAt n₀ B sv n news
  | .inl e => .inl e
  | .inr ⟨b, off, cap, e, hb, hc⟩ => .inr ⟨b, off, cap, e, hb, fun j u hj => (h.cell (p := ⟨b, off + j, none⟩) hb).trans (hc j u hj)⟩

variable {C : Cx} {Q : Exit → St → Prop} {st : St}
end Go.Ab
/-
  Part 40: a builder of a string: what its methods do, exactly.
-/
set_option linter.unusedVariables false
set_option linter.unusedSimpArgs false
namespace Go.Lib
open Go.RowKit
/-- what is frozen stays so -/
structure FzK (w w' : World) : Prop where
  fz : ∀ a : Addr, a.block < w.heap.size → w'.frozen? a = w.frozen? a
section
variable {P : Program} (w : World)
/-- appending a string's bytes, and where the new row lies -/
theorem run_append_own_string_x (t u ty e : TypeId) (i : TypeInfo) (ht : P.underlying t = some (.slice e)) (hu : P.underlying u = some .string) (hi : P.info? e = some i) (hz : i.zero = some (.int .u8 0))
    (hsize : i.size = 1) (hby : i.bytes = 1) (v : Value) (n : Nat) (xs : List Value) (hown : w.ownsRow 0 e 1 v n xs) (s : ByteArray) (hbytes : n + s.size ≤ 140737488355328) :
    ∃ v' w', (Builtin.append_ #[t, u] ty #[v, .string s]).run P w = .ok v' w' ∧ w'.ownsRow 0 e 1 v' (n + s.size) (xs ++ strCells s) ∧ w.grownBy w' v.ownBlock ∧
      (∀ g, v'.ownBlock = some g → v.ownBlock = some g ∨ w.heap.size ≤ g) ∧ FzK w w' := by
  have h63 : n + s.size ≤ maxLen := by unfold maxLen; omega
  have hxl : xs.length = n := by simpa using hown.1
  obtain ⟨v', w', hr, h2, h3, _⟩ := run_append_own_string (P := P) w 0 t u ty e i ht hu hi hz hsize hby v n xs hown s h63 hbytes (Nat.zero_le _)
  refine ⟨v', w', hr, h2, h3, ?_⟩
  rcases hown.2 with ⟨rfl, rfl⟩ | ⟨g, cap, cur, rfl, hbg, hg, hnc, hcm, hcs, htake⟩
  · have hx : xs = [] := List.eq_nil_of_length_eq_zero hxl
    subst hx
    obtain ⟨v1, w1, hr1, k2, k3, _⟩ := run_append_own_string (P := P) w w.heap.size t u ty e i ht hu hi hz hsize hby _ 0 [] (World.ownsRow_nil w w.heap.size e 1) s h63 hbytes (Nat.le_refl _)
    have e1 := hr.symm.trans hr1
    cases e1
    exact ⟨fun g hg => .inr (k2.lt g hg).1, ⟨fun a ha => World.frozen?_of_block (k3.block _ ha (by simp [Value.ownBlock]))⟩⟩
  · by_cases hroom : n + s.size ≤ cap
    · have hcs' : cur.size = cap := by simpa using hcs
      have hr1 := run_append_room_string (P := P) w t u ty e i ht hu hi hsize g n cap cur hg s hroom (by omega)
      have e1 := hr.symm.trans hr1
      cases e1
      exact ⟨fun k hk => .inl hk, ⟨fun a _ => Ab.frozen_setRow w g _ a⟩⟩
    · have holds : ∀ j u, xs[j]? = some u → w.cell? ((⟨g, 0, none⟩ : Addr).add j) = some u := hown.cells (g := g) rfl
      have hr1 := run_append_grow_string (P := P) w t u ty e i (.int .u8 0) ht hu hi hz ⟨g, 0, none⟩ n cap xs (by rw [hsize]; simpa using hxl) holds s (by omega) (by omega) (by rw [hby]; exact growslice_fits (by omega) (by omega))
      have e1 := hr.symm.trans hr1
      cases e1
      refine ⟨fun k hk => .inr ?_, ⟨fun a ha => World.frozen?_of_block (heap_alloc_old w.drew _ ha)⟩⟩
      simp only [Value.ownBlock, Option.some.injEq] at hk
      omega
theorem wpList_append_own_string_x {ops : Array Oper} {rest : List Oper} {o : Oper} {a : Act} {Q : Exit → Act → World → Prop} (hgd : o.guard = none) (sl x : Operand) (t u : TypeId)
    (ho : o.op = .call { callee := .builtin .append, args := #[sl, x], argTypes := #[t, u] })
    (e : TypeId) (i : TypeInfo) (ht : P.underlying t = some (.slice e)) (hu : P.underlying u = some .string) (hi : P.info? e = some i) (hz : i.zero = some (.int .u8 0))
    (hsize : i.size = 1) (hby : i.bytes = 1)
    (v : Value) (n : Nat) (xs : List Value) (hs : a.eval sl = v) (hown : w.ownsRow 0 e 1 v n xs) (s : ByteArray) (hx : a.eval x = .string s)
    (hbytes : n + s.size ≤ 140737488355328)
    (h : ∀ v' w', w'.ownsRow 0 e 1 v' (n + s.size) (xs ++ strCells s) → w.grownBy w' v.ownBlock → (∀ g, v'.ownBlock = some g → v.ownBlock = some g ∨ w.heap.size ≤ g) → FzK w w' → wpList P ops Q rest (a.put o.dst v') w') : wpList P ops Q (o :: rest) a w := by
  refine wpList_plain hgd fun K hK => ?_
  obtain ⟨v', w', hr, h2, h3, h4, h5⟩ := run_append_own_string_x (P := P) w t u o.type e i ht hu hi hz hsize hby v n xs hown s hbytes
  unfold Oper.wp execOp
  simp only [ho, resolve, invoke, builtin, Sem.run_bind, Sem.run_pure, Result.andThen_ok, List.map_toArray, List.map_cons, List.map_nil, hs, hx, hr]
  exact hK _ _ (h v' w' h2 h3 h4 h5)
end
/-- cells 0 and 1 of a block of pairs -/
structure PairAt (T b : Nat) (p v : Value) (n : Nat) (w : World) : Prop where
  ex : ∃ cur, w.heap[b]? = some (.cells cur T (0, 0)) ∧ cur.size = n ∧ cur.toList.take 2 = [p, v]
theorem PairAt.pos {T b p v n w} (h : PairAt T b p v n w) : 2 ≤ n := by
  obtain ⟨cur, _, h2, h3⟩ := h.ex
  have := congrArg List.length h3
  rw [List.length_take, Array.length_toList, h2] at this
  simp at this; omega
theorem PairAt.lt {T b p v n w} (h : PairAt T b p v n w) : b < w.heap.size := by
  obtain ⟨cur, h1, _⟩ := h.ex
  exact (Array.getElem?_eq_some_iff.1 h1).1
theorem PairAt.cell0 {T b p v n w} (h : PairAt T b p v n w) : w.cell? ⟨b, 0, none⟩ = some p := by
  obtain ⟨cur, h1, h2, h3⟩ := h.ex
  have := congrArg (·[0]?) h3
  simp only [List.getElem?_take, Nat.zero_lt_succ, if_true] at this
  rw [cell_of_heap h1]; simpa using this
theorem PairAt.cell1 {T b p v n w} (h : PairAt T b p v n w) : w.cell? ⟨b, 1, none⟩ = some v := by
  obtain ⟨cur, h1, h2, h3⟩ := h.ex
  have := congrArg (·[1]?) h3
  simp only [List.getElem?_take] at this
  rw [cell_of_heap h1]; simpa using this
theorem PairAt.shape {T b p v n w} (h : PairAt T b p v n w) : w.shape? b = some (T, n) := by
  obtain ⟨cur, h1, h2, _⟩ := h.ex
  simp [World.shape?, h1, h2]
theorem PairAt.frozen {T b p v n w} (h : PairAt T b p v n w) (j : Nat) : w.frozen? ⟨b, j, none⟩ = false := by
  obtain ⟨cur, h1, _⟩ := h.ex
  exact frozen_of_heap h1 j
theorem PairAt.of_block {T b p v n w w'} (h : PairAt T b p v n w) (hb : w'.heap[b]? = w.heap[b]?) : PairAt T b p v n w' := by
  obtain ⟨cur, h1, h2⟩ := h.ex
  exact ⟨cur, by rw [hb]; exact h1, h2⟩
theorem PairAt.set0 {T b p v n w} (h : PairAt T b p v n w) (q : Value) : PairAt T b q v n (w.setCell ⟨b, 0, none⟩ q) := by
  obtain ⟨cur, h1, h2, h3⟩ := h.ex
  refine ⟨cur.setIfInBounds 0 q, by simp [World.setCell, Array.getElem?_modify, h1], by simp [h2], ?_⟩
  have h4 := h.pos
  obtain ⟨l⟩ := cur
  match l, h3 with
  | x :: y :: r, h3 => simp at h3 ⊢; exact h3.2
theorem PairAt.set1 {T b p v n w} (h : PairAt T b p v n w) (q : Value) : PairAt T b p q n (w.setCell ⟨b, 1, none⟩ q) := by
  obtain ⟨cur, h1, h2, h3⟩ := h.ex
  refine ⟨cur.setIfInBounds 1 q, by simp [World.setCell, Array.getElem?_modify, h1], by simp [h2], ?_⟩
  obtain ⟨l⟩ := cur
  match l, h3 with
  | x :: y :: r, h3 => simp at h3 ⊢; exact h3.1
/-- all but the block b and one more stands -/
structure OnlyAt (b : Nat) (row : Option Nat) (w w' : World) : Prop where
  os : w'.os = w.os
  tape : w'.tape = w.tape
  output : w'.output = w.output
  size : w.heap.size ≤ w'.heap.size
  block : ∀ k, k < w.heap.size → k ≠ b → some k ≠ row → w'.heap[k]? = w.heap[k]?
  fz : ∀ a : Addr, a.block < w.heap.size → w'.frozen? a = w.frozen? a
end Go.Lib
namespace Go.Proofs
open Go.Shelf Go.RowKit
variable {P : Program} {ρ : Ren}
set_option maxHeartbeats 1000000 in
set_option maxRecDepth 100000 in
theorem BldX.copyCheck_fresh (L : Lays.n240 P ρ) (X : Builder.X72 P ρ) (b n : Nat) (w : World) (h0 : w.cell? ⟨b, 0, none⟩ = some (.pointer none)) (hsh : w.shape? b = some ((ρ.t 72), n)) (hn : 0 < n)
    (hlies : liesAt P P.depth (ρ.t 72) (n / P.cellsOf (ρ.t 72)) 0 (ρ.t 72) 1 = true) (hfz : w.frozen? ⟨b, 0, none⟩ = false) :
    Calls P (ρ.f 240) #[.pointer (some ⟨b, 0, none⟩)] w fun e w' => e = .returned (.tuple #[]) ∧ w' = w.setCell ⟨b, 0, none⟩ (.pointer (some ⟨b, 0, none⟩)) := by
  obtain ⟨j, hj, hjs⟩ := Option.map_eq_some_iff.1 X.sizeBuilder
  have mixed := L.mixed
  have t72 := L.t72; have a72 := L.a72; have z72 := L.z72; have v72 := L.v72; have u72 := run_underlying L.t72
  have t70 := L.t70; have a70 := L.a70; have z70 := L.z70; have v70 := L.v70; have u70 := run_underlying L.t70
  have t9 := L.t9; have a9 := L.a9; have z9 := L.z9; have v9 := L.v9; have u9 := run_underlying L.t9
  have t4 := L.t4; have a4 := L.a4; have z4 := L.z4; have v4 := L.v4; have u4 := run_underlying L.t4
  have t164 := L.t164; have a164 := L.a164; have z164 := L.z164; have v164 := L.v164; have u164 := run_underlying L.t164
  go_enter L.f240, Body.n240_ntmps ρ
  go_wp2
  rw [Lib.run_to_unsafe w ⟨b, 0, none⟩ L.t70 L.t164 hj (by rw [hjs]; decide) hsh hn]
  simp only [Result.andThen]
  rw [Oper.upon_value]
  go_wp2
  rw [run_callFunc_extern L.f276 (by kernel_rfl) (by kernel_rfl) (by kernel_rfl) (e := Extern.AbiNoEscape.same) (by kernel_rfl)]
  rw [Lib.run_noEscape]
  simp only [Result.andThen]
  rw [Oper.upon_value]
  go_wp2
  rw [Lib.run_from_unsafe w ⟨b, 0, none⟩ L.t164 L.t70 hj hsh hlies]
  simp only [Result.andThen]
  rw [Oper.upon_value]
  go_wp2
  go_end0
  exact ⟨rfl, rfl⟩
theorem BldX.copyCheck (L : Lays.n240 P ρ) (X : Builder.X72 P ρ) (b n : Nat) (p v : Value) (w : World) (h : Lib.PairAt (ρ.t 72) b p v n w) (hp : p = .pointer none ∨ p = .pointer (some ⟨b, 0, none⟩))
    (hlies : liesAt P P.depth (ρ.t 72) (n / P.cellsOf (ρ.t 72)) 0 (ρ.t 72) 1 = true) :
    Calls P (ρ.f 240) #[.pointer (some ⟨b, 0, none⟩)] w fun e w' => e = .returned (.tuple #[]) ∧ Lib.PairAt (ρ.t 72) b (.pointer (some ⟨b, 0, none⟩)) v n w' ∧ Lib.OnlyAt b none w w' := by
  rcases hp with rfl | rfl
  · refine (BldX.copyCheck_fresh L X b n w h.cell0 h.shape (by have := h.pos; omega) hlies (h.frozen 0)).mono ?_
    rintro e w' ⟨rfl, rfl⟩
    refine ⟨rfl, h.set0 _, rfl, rfl, rfl, by simp [World.setCell], fun k _ hk _ => Below.heap_setCell _ _ _ _ (fun e => hk (by simpa using e)), fun a _ => ?_⟩
    exact World.frozen?_setCell _ _ _ _
  · refine (Any.Builder_copyCheck_used L X b w h.cell0).mono ?_
    rintro e w' ⟨rfl, rfl⟩
    exact ⟨rfl, h, rfl, rfl, rfl, Nat.le_refl _, fun _ _ _ _ => rfl, fun _ _ => rfl⟩
set_option maxHeartbeats 2000000 in
set_option maxRecDepth 100000 in
theorem BldX.writeString (L : Lays.n166 P ρ) (X : Builder.Extra P ρ) (b n : Nat) (p v : Value) (bs : List Value) (s : ByteArray) (w : World) (h : Lib.PairAt (ρ.t 72) b p v n w) (hp : p = .pointer none ∨ p = .pointer (some ⟨b, 0, none⟩))
    (hlies : liesAt P P.depth (ρ.t 72) (n / P.cellsOf (ρ.t 72)) 0 (ρ.t 72) 1 = true) (hown : w.ownsRow 0 (ρ.t 5) 1 v bs.length bs) (hne : v.ownBlock ≠ some b) (hlen : bs.length + s.size ≤ 140737488355328) :
    Calls P (ρ.f 166) #[.pointer (some ⟨b, 0, none⟩), .string s] w fun e w' => e = .returned (.tuple #[.int .i64 s.size, .nilIface]) ∧
      ∃ v', Lib.PairAt (ρ.t 72) b (.pointer (some ⟨b, 0, none⟩)) v' n w' ∧ w'.ownsRow 0 (ρ.t 5) 1 v' (bs.length + s.size) (bs ++ Lib.strCells s) ∧ v'.ownBlock ≠ some b ∧
        (∀ g, v'.ownBlock = some g → v.ownBlock = some g ∨ w.heap.size ≤ g) ∧ Lib.OnlyAt b v.ownBlock w w' := by
  obtain ⟨i0, hi, hz0, hz1, hz2⟩ := info_parts X.infoByte
  have mixed := L.mixed
  have t72 := L.t72; have a72 := L.a72; have z72 := L.z72; have v72 := L.v72; have u72 := run_underlying L.t72
  have t70 := L.t70; have a70 := L.a70; have z70 := L.z70; have v70 := L.v70; have u70 := run_underlying L.t70
  have t37 := L.t37; have a37 := L.a37; have z37 := L.z37; have v37 := L.v37; have u37 := run_underlying L.t37
  have t3 := L.t3; have a3 := L.a3; have z3 := L.z3; have v3 := L.v3; have u3 := run_underlying L.t3
  have t9 := L.t9; have a9 := L.a9; have z9 := L.z9; have v9 := L.v9; have u9 := run_underlying L.t9
  have t4 := L.t4; have a4 := L.a4; have z4 := L.z4; have v4 := L.v4; have u4 := run_underlying L.t4
  have t164 := L.t164; have a164 := L.a164; have z164 := L.z164; have v164 := L.v164; have u164 := run_underlying L.t164
  have t5 := X.t5; have a5 := X.a5; have z5 := X.z5; have v5 := X.v5; have u5 := run_underlying X.t5
  have e240 : ∀ args w, (callFunc (ρ.f 240) args).run P w = .ok (.enter (ρ.f 240) args) w := enters_of L.f240 (by kernel_rfl) rfl
  go_enter L.f166, Body.n166_ntmps ρ
  go_wp2_with (go_at_fn (ρ.f 240); refine (BldX.copyCheck { L with } X.toX72 b n p v w h hp hlies).mono ?_)
  rintro e w1 ⟨rfl, h1, hb1⟩
  have c0 := h1.cell0
  have c1 := h1.cell1
  have hown1 : w1.ownsRow 0 (ρ.t 5) 1 v bs.length bs := by
    refine ⟨hown.1, ?_⟩
    rcases hown.2 with hv | ⟨g, cap, cur, hv, q1, q2, q3⟩
    · exact .inl hv
    · refine .inr ⟨g, cap, cur, hv, q1, ?_, q3⟩
      rw [hb1.block g (Array.getElem?_eq_some_iff.1 q2).1 (fun e => hne (by rw [hv, ← e]; rfl)) (by simp)]
      exact q2
  go_wp2_with (at_builtin; refine Lib.wpList_append_own_string_x _ rfl _ _ (ρ.t 37) (ρ.t 9) rfl (ρ.t 5) i0 L.t37 L.t9 hi hz0 hz1 hz2 _ _ _ rfl hown1 s rfl ?c4 ?_)
  case c4 => omega
  intro v' w2 hown' hgrow hfr hfz
  have hlt : b < w1.heap.size := h1.lt
  have h2 : Lib.PairAt (ρ.t 72) b (.pointer (some ⟨b, 0, none⟩)) v n w2 := h1.of_block (hgrow.block b hlt (fun e => hne e.symm))
  have d0 := h2.cell0
  have d1 := h2.cell1
  have f1 := h2.frozen 1
  have hne' : v'.ownBlock ≠ some b := fun e => by
    rcases hfr b e with e' | e'
    · exact hne e'
    · omega
  obtain ⟨ao, n', cap, rfl⟩ : ∃ ao n' cap, v' = .slice ao n' cap := by
    rcases hown'.2 with ⟨hv, _⟩ | ⟨g, cap, cur, hv, _⟩
    · exact ⟨_, _, _, hv⟩
    · exact ⟨_, _, _, hv⟩
  go_wp2
  go_ret2
  refine ⟨rfl, _, h2.set1 _, ?_, hne', fun g hg => ?_, ?_, ?_, ?_, ?_, ?_, ?_⟩
  · refine ⟨hown'.1, ?_⟩
    rcases hown'.2 with hv | ⟨g, cap', cur, hv, q1, q2, q3⟩
    · exact .inl hv
    · refine .inr ⟨g, cap', cur, hv, q1, ?_, q3⟩
      rw [Below.heap_setCell _ _ _ _ (fun e => hne' (by rw [hv]; simp only [Value.ownBlock]; rw [show g = b from e]))]
      exact q2
  · rcases hfr g hg with e | e
    · exact .inl e
    · have := hb1.size; exact .inr (by omega)
  · exact hgrow.os.trans hb1.os
  · exact hgrow.tape.trans hb1.tape
  · exact hgrow.output.trans hb1.output
  · have := hb1.size; have := hgrow.size; simp [World.setCell]; omega
  · intro k hk hkb hkr
    rw [Below.heap_setCell _ _ _ _ (fun e => hkb (by simpa using e)), hgrow.block k (by have := hb1.size; omega) hkr]
    exact hb1.block k hk hkb (by simp)
  · intro a ha
    rw [World.frozen?_setCell, hfz.fz a (by have := hb1.size; omega)]
    exact hb1.fz a ha
end Go.Proofs
namespace Go.Lib
/-- all but one block stands -/
structure OnlyRow (row : Option Nat) (w w' : World) : Prop where
  os : w'.os = w.os
  tape : w'.tape = w.tape
  output : w'.output = w.output
  size : w.heap.size ≤ w'.heap.size
  block : ∀ k, k < w.heap.size → some k ≠ row → w'.heap[k]? = w.heap[k]?
end Go.Lib
namespace Go.Proofs
open Go.Shelf Go.RowKit
variable {P : Program} {ρ : Ren}
set_option maxHeartbeats 1000000 in
set_option maxRecDepth 100000 in
theorem BldX.string_some (L : Lays.n169 P ρ) (X : Builder.Extra P ρ) (b n : Nat) (p v : Value) (l : List UInt8) (w : World) (h : Lib.PairAt (ρ.t 72) b p v n w) (hown : w.ownsRow 0 (ρ.t 5) 1 v l.length (Lib.byteCells l)) (h0 : l ≠ []) :
    Calls P (ρ.f 169) #[.pointer (some ⟨b, 0, none⟩)] w fun e w' => e = .returned (.string ⟨l.toArray⟩) ∧ Lib.OnlyRow v.ownBlock w w' := by
  have hl0 : l.length ≠ 0 := by simpa using h0
  obtain ⟨g, cap, cur, rfl, hbg, hg, hnc, hcm, hcs, htake⟩ : ∃ g cap cur, v = .slice (some ⟨g, 0, none⟩) l.length cap ∧ 0 ≤ g ∧ w.heap[g]? = some (.cells cur (ρ.t 5) (0, 0)) ∧ l.length ≤ cap ∧ cap ≤ maxLen ∧ cur.size = cap * 1 ∧ cur.toList.take (l.length * 1) = Lib.byteCells l := by
    rcases hown.2 with ⟨_, hz⟩ | ⟨g, cap, cur, hv, r⟩
    · exact absurd hz hl0
    · exact ⟨g, cap, cur, hv, r⟩
  have c1 : w.drew.cell? ⟨b, 1, none⟩ = some (.slice (some ⟨g, 0, none⟩) l.length cap) := h.cell1
  have hSD : (Builtin.unsafeSliceData_ #[(ρ.t 37)] (ρ.t 127) #[.slice (some ⟨g, 0, none⟩) l.length cap]).run P w.drew = .ok (.pointer (some ⟨g, 0, none⟩)) w.drew :=
    Lib.run_unsafeSliceData_row _ _ _ _ _ _ (by omega)
  have hUS : (Builtin.unsafeString_ #[(ρ.t 127), (ρ.t 3)] (ρ.t 9) #[.pointer (some ⟨g, 0, none⟩), .int .i64 l.length]).run P w.drew = .ok (.string ⟨l.toArray⟩) (w.drew.freeze ⟨g, 0, none⟩ l.length) := by
    refine Lib.run_unsafeString_row w.drew (ρ.t 127) (ρ.t 3) (ρ.t 9) (ρ.t 5) L.t127 X.cellsByte g cur.size (by have hg' : w.drew.heap[g]? = some (.cells cur (ρ.t 5) (0, 0)) := hg; simp [World.shape?, hg']) l h0 (by omega) (by unfold maxLen at hcm; omega) ?_
    intro j x hx
    have := hown.cells (g := g) rfl j (.int .u8 x.toNat) (by simp [Lib.byteCells, hx])
    exact this
  have mixed := L.mixed
  have t72 := L.t72; have a72 := L.a72; have z72 := L.z72; have v72 := L.v72; have u72 := run_underlying L.t72
  have t70 := L.t70; have a70 := L.a70; have z70 := L.z70; have v70 := L.v70; have u70 := run_underlying L.t70
  have t37 := L.t37; have a37 := L.a37; have z37 := L.z37; have v37 := L.v37; have u37 := run_underlying L.t37
  have t127 := L.t127; have a127 := L.a127; have z127 := L.z127; have v127 := L.v127; have u127 := run_underlying L.t127
  have t3 := L.t3; have a3 := L.a3; have z3 := L.z3; have v3 := L.v3; have u3 := run_underlying L.t3
  have t9 := L.t9; have a9 := L.a9; have z9 := L.z9; have v9 := L.v9; have u9 := run_underlying L.t9
  have t5 := X.t5; have a5 := X.a5; have z5 := X.z5; have v5 := X.v5; have u5 := run_underlying X.t5
  have fin : Lib.OnlyRow (Value.ownBlock (.slice (some ⟨g, 0, none⟩) l.length cap)) w (w.drew.freeze ⟨g, 0, none⟩ l.length) := by
    unfold World.freeze
    rw [if_neg hl0]
    refine ⟨rfl, rfl, rfl, by simp, fun k _ hk => ?_⟩
    simp only [Array.getElem?_modify]
    rw [if_neg (fun e => hk (by rw [← e]; rfl))]
    rfl
  go_enter L.f169, Body.n169_ntmps ρ
  go_wp2
  go_region_o
  all_goals (go_wp2; go_ret; exact ⟨rfl, fin⟩)
set_option maxHeartbeats 2000000 in
set_option maxRecDepth 100000 in
theorem BldX.string_none (L : Lays.n169 P ρ) (X : Builder.Extra P ρ) (b n : Nat) (p v : Value) (w : World) (h : Lib.PairAt (ρ.t 72) b p v n w) (hown : w.ownsRow 0 (ρ.t 5) 1 v 0 []) :
    Calls P (ρ.f 169) #[.pointer (some ⟨b, 0, none⟩)] w fun e w' => e = .returned (.string ⟨#[]⟩) ∧ Lib.OnlyRow v.ownBlock w w' := by
  have hUS := Any.unsafeString_none L X
  have hlt := h.lt
  have mixed := L.mixed
  have t72 := L.t72; have a72 := L.a72; have z72 := L.z72; have v72 := L.v72; have u72 := run_underlying L.t72
  have t70 := L.t70; have a70 := L.a70; have z70 := L.z70; have v70 := L.v70; have u70 := run_underlying L.t70
  have t37 := L.t37; have a37 := L.a37; have z37 := L.z37; have v37 := L.v37; have u37 := run_underlying L.t37
  have t127 := L.t127; have a127 := L.a127; have z127 := L.z127; have v127 := L.v127; have u127 := run_underlying L.t127
  have t3 := L.t3; have a3 := L.a3; have z3 := L.z3; have v3 := L.v3; have u3 := run_underlying L.t3
  have t9 := L.t9; have a9 := L.a9; have z9 := L.z9; have v9 := L.v9; have u9 := run_underlying L.t9
  have t5 := X.t5; have a5 := X.a5; have z5 := X.z5; have v5 := X.v5; have u5 := run_underlying X.t5
  have fin1 : ∀ row, Lib.OnlyRow row w w.drew := fun row => ⟨rfl, rfl, rfl, Nat.le_refl _, fun _ _ _ => rfl⟩
  rcases hown.2 with ⟨rfl, _⟩ | ⟨g, cap, cur, rfl, hbg, hg, _, _, _, _⟩
  · have c1 : w.drew.cell? ⟨b, 1, none⟩ = some (.slice none 0 0) := h.cell1
    have hSD : (Builtin.unsafeSliceData_ #[(ρ.t 37)] (ρ.t 127) #[.slice none 0 0]).run P w.drew = .ok (.pointer none) w.drew := rfl
    go_enter L.f169, Body.n169_ntmps ρ
    go_wp2
    go_region_o
    all_goals (go_wp2; go_ret; exact ⟨rfl, fin1 _⟩)
  · by_cases hc0 : cap = 0
    · subst hc0
      have c1 : w.drew.cell? ⟨b, 1, none⟩ = some (.slice (some ⟨g, 0, none⟩) 0 0) := h.cell1
      have hSD : (Builtin.unsafeSliceData_ #[(ρ.t 37)] (ρ.t 127) #[.slice (some ⟨g, 0, none⟩) 0 0]).run P w.drew = .ok (.pointer (some ⟨w.drew.heap.size, 0, none⟩)) (w.drew.alloc (.view ⟨g, 0, none⟩ (ρ.t 5))) :=
        Lib.run_unsafeSliceData_zero w.drew _ _ (ρ.t 5) L.t127 ⟨g, 0, none⟩ 0 ((ρ.t 5), cur.size) (by have hg' : w.drew.heap[g]? = some (.cells cur (ρ.t 5) (0, 0)) := hg; simp [World.shape?, hg'])
      have h2 : Lib.PairAt (ρ.t 72) b p (.slice (some ⟨g, 0, none⟩) 0 0) n (w.drew.alloc (.view ⟨g, 0, none⟩ (ρ.t 5))) := h.of_block (Lib.alloc_old w.drew _ b hlt)
      have c2 : (w.drew.alloc (.view ⟨g, 0, none⟩ (ρ.t 5))).cell? ⟨b, 1, none⟩ = some (.slice (some ⟨g, 0, none⟩) 0 0) := h2.cell1
      have c3 : (w.alloc (.view ⟨g, 0, none⟩ (ρ.t 5))).drew.cell? ⟨b, 1, none⟩ = some (.slice (some ⟨g, 0, none⟩) 0 0) := c2
      have c0 : w.cell? ⟨b, 1, none⟩ = some (.slice (some ⟨g, 0, none⟩) 0 0) := c1
      have fin2 : Lib.OnlyRow (Value.ownBlock (.slice (some ⟨g, 0, none⟩) 0 0)) w (w.drew.alloc (.view ⟨g, 0, none⟩ (ρ.t 5))) := ⟨rfl, rfl, rfl, by simp, fun k hk _ => Lib.alloc_old w.drew _ k hk⟩
      go_enter L.f169, Body.n169_ntmps ρ
      go_wp2
      go_region_o
      all_goals (go_wp2; go_ret; exact ⟨rfl, fin2⟩)
    · have c1 : w.drew.cell? ⟨b, 1, none⟩ = some (.slice (some ⟨g, 0, none⟩) 0 cap) := h.cell1
      have hSD : (Builtin.unsafeSliceData_ #[(ρ.t 37)] (ρ.t 127) #[.slice (some ⟨g, 0, none⟩) 0 cap]).run P w.drew = .ok (.pointer (some ⟨g, 0, none⟩)) w.drew :=
        Lib.run_unsafeSliceData_row _ _ _ _ _ _ hc0
      clear hc0
      go_enter L.f169, Body.n169_ntmps ρ
      go_wp2
      go_region_o
      all_goals (go_wp2; go_ret; exact ⟨rfl, fin1 _⟩)
theorem BldX.string (L : Lays.n169 P ρ) (X : Builder.Extra P ρ) (b n : Nat) (p v : Value) (l : List UInt8) (w : World) (h : Lib.PairAt (ρ.t 72) b p v n w) (hown : w.ownsRow 0 (ρ.t 5) 1 v l.length (Lib.byteCells l)) :
    Calls P (ρ.f 169) #[.pointer (some ⟨b, 0, none⟩)] w fun e w' => e = .returned (.string ⟨l.toArray⟩) ∧ Lib.OnlyRow v.ownBlock w w' := by
  cases l with
  | nil => exact BldX.string_none L X b n p v w h hown
  | cons x r => exact BldX.string_some L X b n p v (x :: r) w h hown (by simp)
end Go.Proofs
/-
  Part 41: a builder as two own objects: its struct and its bytes.
-/
namespace Go.Ab
variable {D : Prop}
open Go
set_option linter.unusedVariables false
set_option linter.unusedSimpArgs false

/-- functions kw and ks write a string into a builder of type T, and read it; its bytes have the type e -/
structure Bld (P : Program) (kw ks T e : Nat) : Prop where
  bodyW : HasBody P kw
  bodyS : HasBody P ks
  write : ∀ (b c : Nat) (p v : Value) (bs : List UInt8) (s : List UInt8) (w : World), 1 ≤ c → Lib.PairAt T b p v (c * 2) w → (p = .pointer none ∨ p = .pointer (some ⟨b, 0, none⟩)) → w.ownsRow 0 e 1 v bs.length (Lib.byteCells bs) → v.ownBlock ≠ some b → bs.length + s.length ≤ 140737488355328 →
    Calls P kw #[.pointer (some ⟨b, 0, none⟩), .string ⟨s.toArray⟩] w fun e' w' => e' = .returned (.tuple #[.int .i64 s.length, .nilIface]) ∧
      ∃ v', Lib.PairAt T b (.pointer (some ⟨b, 0, none⟩)) v' (c * 2) w' ∧ w'.ownsRow 0 e 1 v' (bs ++ s).length (Lib.byteCells (bs ++ s)) ∧ v'.ownBlock ≠ some b ∧ (∀ g, v'.ownBlock = some g → v.ownBlock = some g ∨ w.heap.size ≤ g) ∧ Lib.OnlyAt b v.ownBlock w w'
  string : ∀ (b n : Nat) (p v : Value) (l : List UInt8) (w : World), Lib.PairAt T b p v n w → w.ownsRow 0 e 1 v l.length (Lib.byteCells l) →
    Calls P ks #[.pointer (some ⟨b, 0, none⟩)] w fun e' w' => e' = .returned (.string ⟨l.toArray⟩) ∧ Lib.OnlyRow v.ownBlock w w'

/-- bytes as elements -/
def bytesA (bs : List UInt8) : List AV := bs.map fun c => .p (.int .u8 ((c.toNat : Nat) : Int))
@[simp, go_sem] theorem bytesA_length (bs : List UInt8) : (bytesA bs).length = bs.length := by simp [bytesA]
theorem ARs_bytes {X : Nat → Prop} {inj : Inj} {σ : Nat → AO} {w : World} : ∀ {bs : List UInt8} {vs : List Value}, ARs X inj σ w (bytesA bs) vs ↔ vs = Lib.byteCells bs
  | [], vs => Iff.rfl
  | c :: bs, vs => by
    constructor
    · rintro ⟨v, r, rfl, h1, h2⟩
      simp only [AR, PR] at h1
      rw [h1, ARs_bytes.1 h2]; rfl
    · rintro rfl
      exact ⟨_, _, rfl, rfl, ARs_bytes.2 rfl⟩
theorem byteCells_one (bs : List UInt8) : (∀ v ∈ Lib.byteCells bs, v.cells.size = 1) ∧ (∀ v ∈ Lib.byteCells bs, v.oneCell' = true) := by
  constructor <;>
  · intro v hv
    obtain ⟨x, _, rfl⟩ := List.mem_map.1 hv
    rfl

/-- the builder at l, with its bytes at m -/
structure BldA (σ : Nat → AO) (T e l g m gm : Nat) (a0 a1 : AV) (bs : List UInt8) : Prop where
  hl : σ l = .arr T 2 g [.agg [a0, a1]]
  ha0 : a0 = .p .nilp ∨ a0 = .loc l g 0 0
  ha1 : (a1 = .nils ∧ bs = [] ∧ σ m = .dead gm) ∨ (a1 = .own m gm 0 bs.length ∧ σ m = .arr e 1 gm (bytesA bs))
  ne : l ≠ m

theorem bld_open {X : Nat → Prop} {inj : Inj} {σ : Nat → AO} {w : World} (h : HR X inj σ w) {T e l g m gm : Nat} {a0 a1 : AV} {bs : List UInt8} (A : BldA σ T e l g m gm a0 a1 bs) {vl : Value} (hloc : LocR inj σ l g 0 0 vl) :
    ∃ b c p v, inj l = some (b, c) ∧ vl = .pointer (some ⟨b, 0, none⟩) ∧ 1 ≤ c ∧ c ≤ maxLen ∧ ¬ X b ∧ Lib.PairAt T b p v (c * 2) w ∧ (p = .pointer none ∨ p = .pointer (some ⟨b, 0, none⟩)) ∧ w.ownsRow 0 e 1 v bs.length (Lib.byteCells bs) ∧
      (∀ g', v.ownBlock = some g' → ∃ c', inj m = some (g', c') ∧ (σ m).alive = true) := by
  obtain ⟨vs, o1, o2, o3, o4⟩ := (A.hl ▸ h.obj l _ rfl : OR X inj σ w l (.arr T 2 g [.agg [a0, a1]]))
  obtain ⟨_, k2⟩ := hloc
  obtain ⟨_, k3⟩ := k2 _ A.hl
  obtain ⟨b, c, k4, k5⟩ := k3 rfl T 2 _ rfl
  obtain ⟨u, r, rfl, ⟨us, rfl, hus, _⟩, hr⟩ := o1
  simp only [ARs] at hr
  subst hr
  obtain ⟨p, r, rfl, hp, v, r', rfl, hv, hr'⟩ := hus
  simp only [ARs] at hr'
  subst hr'
  rcases o4 with ⟨_, o4⟩ | ⟨b', c', cur, p1, p2, p3, p4, p5, p6, p7⟩
  · cases o4
  rw [k4] at p1; cases p1
  simp only [Nat.zero_mul, Nat.zero_add] at k5
  refine ⟨b, c, p, v, k4, k5, by simpa using p4, p5, p2, ⟨cur, p3, p6, by simpa [flat, Value.cells] using p7⟩, ?_, ?_⟩
  · rcases A.ha0 with rfl | rfl
    · exact .inl hp
    · obtain ⟨_, q2⟩ := hp
      obtain ⟨_, q3⟩ := q2 _ A.hl
      obtain ⟨b1, c1, q4, q5⟩ := q3 rfl T 2 _ rfl
      rw [k4] at q4; cases q4
      simp only [Nat.zero_mul, Nat.zero_add] at q5
      exact .inr q5
  · rcases A.ha1 with ⟨rfl, rfl, _⟩ | ⟨rfl, hm⟩
    · simp only [AR] at hv
      subst hv
      exact ⟨World.ownsRow_nil _ _ _ _, fun g' hg => by cases hg⟩
    · obtain ⟨ms, s1, s2, s3, s4⟩ := (hm ▸ h.obj m _ rfl : OR X inj σ w m (.arr e 1 gm (bytesA bs)))
      rw [ARs_bytes] at s1
      subst s1
      obtain ⟨_, q2⟩ := hv
      obtain ⟨_, q3⟩ := q2 _ hm
      obtain ⟨_, q4⟩ := q3 rfl e 1 _ rfl
      have hfl : flat (Lib.byteCells bs) = Lib.byteCells bs := flat_ones (byteCells_one bs).2
      rcases q4 with ⟨q5, rfl, _, q6⟩ | ⟨b1, c1, a, q5, rfl, q6, q7⟩
      · have hb : bs = [] := List.eq_nil_of_length_eq_zero q6
        subst hb
        exact ⟨World.ownsRow_nil _ _ _ _, fun g' hg => by cases hg⟩
      · have ha : a = some ⟨b1, 0, none⟩ := by
          rcases q7 with ⟨h1, _⟩ | h1
          · exact absurd rfl h1
          · simpa using h1
        subst ha
        rcases s4 with ⟨s4, _⟩ | ⟨b2, c2, cur2, t1, t2, t3, t4, t5, t6, t7⟩
        · rw [q5] at s4; cases s4
        · rw [q5] at t1; cases t1
          rw [hfl] at t7
          simp only [bytesA_length] at t4 t7
          refine ⟨⟨by simp [Lib.byteCells_length], .inr ⟨b1, c1, cur2, by simp, Nat.zero_le _, t3, t4, t5, t6, t7⟩⟩, fun g' hg => ?_⟩
          simp only [Value.ownBlock, Option.some.injEq] at hg
          subst hg
          exact ⟨c1, q5, by rw [hm]; rfl⟩

variable {C : Cx} {Q : Exit → St → Prop} {st : St}
theorem act_put_none (a : Act) (v : Value) : a.put none v = a := rfl
theorem AL_bws {ops : Array Oper} {o : Oper} {rest : List Oper} {f : Operand} {args : Array Operand} {ats : Array TypeId} {kw ks T e l g m gm : Nat} {a0 a1 : AV} {bs s : List UInt8}
    (S : Bld C.P kw ks T e) (hD : C.D → False) (ho : o.op = .call ⟨.value f, args, ats⟩) (hg : guardA ops st.env o = some true) (hd : dstOk C.N o = true)
    (hk : callArgs st.env f args.toList = some (kw, [.loc l g 0 0, .p (.str s)])) (A : BldA st.sig T e l g m gm a0 a1 bs) (hroom : bs.length + s.length ≤ 140737488355328)
    (h : AL C ops rest Q ⟨putE st.env o.dst (.p (.tup [.int .i64 s.length, .nili])), hset (hset st.heap m (.arr e 1 (gm + 1) (bytesA (bs ++ s)))) l (.arr T 2 g [.agg [.loc l g 0 0, .own m (gm + 1) 0 (bs ++ s).length]])⟩) : AL C ops (o :: rest) Q st := by
  intro inj a w hs
  simp only [wpList, guard_sound hs hg, if_true]
  refine .inl ?_
  obtain ⟨vs, hrun, hars⟩ := call_run hs ho S.bodyW hk
  unfold Oper.wp
  rw [hrun]
  simp only [Oper.upon]
  obtain ⟨vl, r1, rfl, hloc, vs2, r2, rfl, hstr, hr2⟩ := hars
  simp only [ARs] at hr2
  subst hr2
  simp only [AR, PR] at hstr
  subst hstr
  simp only [AR] at hloc
  obtain ⟨b, c, p, v, i1, rfl, i2, i3, i4, i5, i6, i7, i8⟩ := bld_open hs.hr A hloc
  have hvb : v.ownBlock ≠ some b := fun e => by
    obtain ⟨c', e1, e2⟩ := i8 b e
    exact A.ne (hs.hr.inj1 l m _ _ b c c' rfl rfl (by rw [A.hl]; rfl) e2 i1 e1)
  refine (S.write b c p v bs s w i2 i5 i6 i7 hvb hroom).mono ?_
  rintro e' w' ⟨rfl, v', k1, k2, k3, k4, k5⟩
  obtain ⟨cur0, p1, p2, p3⟩ := i5.ex
  have hbw : b < w.heap.size := i5.lt
  have hbw' : b < w'.heap.size := k1.lt
  obtain ⟨cur1, u1, u2, u3⟩ := k1.ex
  -- the bytes change first
  let w1 : World := { w' with heap := w'.heap.setIfInBounds b (.cells cur0 T (0, 0)) }
  have w1b : ∀ k, w1.heap[k]? = if k = b then w.heap[b]? else w'.heap[k]? := by
    intro k
    simp only [w1, Array.getElem?_setIfInBounds]
    by_cases hkb : b = k
    · subst hkb; simp [hbw', p1]
    · rw [if_neg hkb, if_neg (fun e => hkb e.symm)]
  have w1s : w1.heap.size = w'.heap.size := by simp [w1]
  have w1o : ∀ k, k ≠ b → w1.heap[k]? = w'.heap[k]? := fun k hk => by rw [w1b, if_neg hk]
  have fz1 : ∀ x : Addr, x.block < w.heap.size → w1.frozen? x = w.frozen? x := by
    intro x hx
    by_cases hxb : x.block = b
    · exact World.frozen?_of_block (by rw [w1b, if_pos hxb, hxb])
    · rw [World.frozen?_of_block (w1o _ hxb)]; exact k5.fz x hx
  have blk1 : ∀ k, k < w.heap.size → some k ≠ v.ownBlock → w1.heap[k]? = w.heap[k]? := by
    intro k hk hkr
    rw [w1b]
    split
    · rename_i e; rw [e]
    · rename_i e; exact k5.block k hk e hkr
  have hgenm : (st.sig m).gen = gm := by rcases A.ha1 with ⟨_, _, e⟩ | ⟨_, e⟩ <;> rw [e] <;> rfl
  have hfl : flat (Lib.byteCells (bs ++ s)) = Lib.byteCells (bs ++ s) := flat_ones (byteCells_one _).2
  -- where the bytes lie
  have hx : ∃ x : Option (Nat × Nat), (∀ b1 c1, x = some (b1, c1) → v'.ownBlock = some b1) ∧ OR C.X (fun k => if k = m then x else inj k) (supd st.sig m (.arr e 1 (gm + 1) (bytesA (bs ++ s)))) w1 m (.arr e 1 (gm + 1) (bytesA (bs ++ s))) ∧
      OwnR (fun k => if k = m then x else inj k) (supd st.sig m (.arr e 1 (gm + 1) (bytesA (bs ++ s)))) m (gm + 1) 0 (bs ++ s).length v' := by
    rcases k2.2 with ⟨hv, hz⟩ | ⟨g1, cap, cur, hv, _, q1, q2, q3, q4, q5⟩
    · have hn : bs ++ s = [] := List.eq_nil_of_length_eq_zero hz
      refine ⟨none, (fun _ _ h => by cases h), ⟨Lib.byteCells (bs ++ s), ARs_bytes.2 rfl, (byteCells_one _).1, by rw [hfl]; exact (byteCells_one _).2, .inl ⟨by simp, by rw [hn]; rfl⟩⟩, ?_⟩
      refine ⟨⟨_, _, _, hv⟩, fun oo hoo => ?_⟩
      have : oo = .arr e 1 (gm + 1) (bytesA (bs ++ s)) := by rw [← hoo]; exact supd_same _ _ _
      subst this
      exact ⟨Nat.le_refl _, fun _ e1 sz1 es1 he => by cases he; exact ⟨by simp, .inl ⟨by simp, hv, rfl, hz⟩⟩⟩
    · have hg1 : g1 ≠ b := fun e => k3 (by rw [hv, e]; rfl)
      refine ⟨some (g1, cap), (fun _ _ h => by cases h; rw [hv]; rfl), ⟨Lib.byteCells (bs ++ s), ARs_bytes.2 rfl, (byteCells_one _).1, by rw [hfl]; exact (byteCells_one _).2, .inr ⟨g1, cap, cur, by simp, ?_, by rw [w1o _ hg1]; exact q1, by simpa using q2, q3, q4, by rw [hfl]; simpa using q5⟩⟩, ?_⟩
      · intro hX
        rcases k4 g1 (by rw [hv]; rfl) with e1 | e1
        · obtain ⟨c', e2, e3⟩ := i8 g1 e1
          exact (hs.hr.flt (D := fun _ => false) ⟨m, c', _, rfl, e3, rfl, e2⟩).2 hX
        · have := hs.hr.xlt g1 hX; omega
      · rw [hv]
        exact OwnR_new (supd_same _ _ _) (if_pos rfl) (by simp) q2
  obtain ⟨x, hx1, hx2, hx3⟩ := hx
  obtain ⟨ev1, hr1⟩ := hs.hr.update (D := C.D) (w' := w1) (l := m) (o := st.sig m) (o' := .arr e 1 (gm + 1) (bytesA (bs ++ s))) (x := x) rfl k5.os k5.tape k5.output (fun d => (hD d).elim) (by rw [w1s]; exact k5.size) fz1
    (fun k hk hn => blk1 k hk fun e1 => by
      obtain ⟨c', e2, e3⟩ := i8 k e1.symm
      exact hn e3 c' e2)
    (fun b1 c1 e1 => by
      rcases k4 b1 (hx1 b1 c1 e1) with e2 | e2
      · obtain ⟨c', e3, e4⟩ := i8 b1 e2
        exact .inr ⟨e4, c', e3⟩
      · exact .inl e2)
    ⟨by rw [hgenm]; exact Nat.le_succ _, fun _ he => by rw [hgenm] at he; simp [AO.gen] at he⟩
  have hH1 := hr1 hx2
  have hSR1 := hs.put (o := { o with dst := none }) (u := some (m, .arr e 1 (gm + 1) (bytesA (bs ++ s)))) rfl (v := .any) (val := .tuple #[]) hH1 ev1 trivial
  rw [act_put_none] at hSR1
  -- then the struct
  have hl1 : supd st.sig m (.arr e 1 (gm + 1) (bytesA (bs ++ s))) l = .arr T 2 g [.agg [a0, a1]] := by rw [supd_ne _ _ _ A.ne]; exact A.hl
  have il1 : (fun k => if k = m then x else inj k) l = some (b, c) := by simp only [if_neg A.ne]; exact i1
  have blk2 : ∀ k, k ≠ b → w'.heap[k]? = w1.heap[k]? := fun k hk => (w1o k hk).symm
  obtain ⟨ev2, hr2⟩ := hH1.update (D := C.D) (w' := w') (l := l) (o := .arr T 2 g [.agg [a0, a1]]) (o' := .arr T 2 g [.agg [.loc l g 0 0, .own m (gm + 1) 0 (bs ++ s).length]]) (x := some (b, c)) hl1 rfl rfl rfl (fun d => (hD d).elim) (by rw [w1s]; exact Nat.le_refl _)
    (fun y _ => by
      by_cases hyb : y.block = b
      · have e1 : w1.heap[y.block]? = some (.cells cur0 T (0, 0)) := by rw [w1b, if_pos hyb]; exact p1
        have e2 : w'.heap[y.block]? = some (.cells cur1 T (0, 0)) := by rw [hyb]; exact u1
        simp [World.frozen?, e1, e2]
      · exact World.frozen?_of_block (blk2 _ hyb))
    (fun k _ hn => blk2 k fun e1 => hn rfl c (by rw [e1]; exact il1))
    (fun b1 c1 e1 => by cases e1; exact .inr ⟨rfl, c, il1⟩)
    ⟨Nat.le_refl _, fun _ _ => ⟨il1.symm, .inl ⟨T, 2, _, _, rfl, rfl, rfl⟩⟩⟩
  have hij : ∀ k, (fun k => if k = l then some (b, c) else (fun k => if k = m then x else inj k) k) k = (fun k => if k = m then x else inj k) k := by
    intro k
    by_cases e1 : k = l
    · subst e1; simp only [if_true]; exact il1.symm
    · simp only [if_neg e1]
  have hij' : (fun k => if k = l then some (b, c) else (fun k => if k = m then x else inj k) k) = (fun k => if k = m then x else inj k) := funext hij
  rw [hij'] at ev2 hr2
  have hown : OwnR (fun k => if k = m then x else inj k) (supd (supd st.sig m (.arr e 1 (gm + 1) (bytesA (bs ++ s)))) l (.arr T 2 g [.agg [.loc l g 0 0, .own m (gm + 1) 0 (bs ++ s).length]])) m (gm + 1) 0 (bs ++ s).length v' := by
    obtain ⟨y1, y2⟩ := hx3
    refine ⟨y1, fun oo hoo => y2 oo ?_⟩
    rw [supd_ne _ _ _ (fun e => A.ne e.symm)] at hoo
    exact hoo
  have hv1 : v'.oneCell' = true := by obtain ⟨⟨_, _, _, rfl⟩, _⟩ := hx3; rfl
  have hvc : v'.cells = #[v'] := by obtain ⟨⟨_, _, _, rfl⟩, _⟩ := hx3; rfl
  have hone : oneAll [Value.pointer (some ⟨b, 0, none⟩), v'] := by
    intro u hu
    simp only [List.mem_cons, List.not_mem_nil, or_false] at hu
    rcases hu with rfl | rfl
    · rfl
    · exact hv1
  have hlocN : LocR (fun k => if k = m then x else inj k) (supd (supd st.sig m (.arr e 1 (gm + 1) (bytesA (bs ++ s)))) l (.arr T 2 g [.agg [.loc l g 0 0, .own m (gm + 1) 0 (bs ++ s).length]])) l g 0 0 (.pointer (some ⟨b, 0, none⟩)) := by
    have hq := LocR_new (inj := fun k => if k = m then x else inj k) (supd_same (supd st.sig m (.arr e 1 (gm + 1) (bytesA (bs ++ s)))) l (.arr T 2 g [.agg [.loc l g 0 0, .own m (gm + 1) 0 (bs ++ s).length]])) il1 0 0
    simp only [Nat.zero_mul, Nat.zero_add] at hq
    exact hq
  have hfl2 : flat [Value.agg #[.pointer (some ⟨b, 0, none⟩), v']] = [.pointer (some ⟨b, 0, none⟩), v'] := by simp [flat, Value.cells]
  have hH2 := hr2 ⟨[.agg #[.pointer (some ⟨b, 0, none⟩), v']], ⟨_, _, rfl, ⟨[.pointer (some ⟨b, 0, none⟩), v'], rfl, ⟨_, _, rfl, hlocN, _, _, rfl, hown, rfl⟩, hone⟩, rfl⟩,
    fun u hu => by
      have : u = .agg #[.pointer (some ⟨b, 0, none⟩), v'] := by simpa using hu
      subst this; rfl,
    by rw [hfl2]; exact hone, .inr ⟨b, c, cur1, il1, i4, u1, i2, i3, u2, by rw [hfl2]; simpa using u3⟩⟩
  have hs1 : (⟨st.env, hset st.heap m (.arr e 1 (gm + 1) (bytesA (bs ++ s)))⟩ : St).sig = supd st.sig m (.arr e 1 (gm + 1) (bytesA (bs ++ s))) := hget_hset _ _ _
  have hSR2 := hSR1.put (o := o) (u := some (l, .arr T 2 g [.agg [.loc l g 0 0, .own m (gm + 1) 0 (bs ++ s).length]])) hd (v := .p (.tup [.int .i64 s.length, .nili])) (val := .tuple #[.int .i64 s.length, .nilIface])
    (by show HR C.X _ (supd (St.sig ⟨st.env, hset st.heap m _⟩) l _) w'; rw [hs1]; exact hH2) (by show Ev C.D C.X _ (St.sig ⟨st.env, hset st.heap m _⟩) w1 _ (supd (St.sig ⟨st.env, hset st.heap m _⟩) l _) w'; rw [hs1]; exact ev2) ⟨[.int .i64 s.length, .nilIface], rfl, _, _, rfl, rfl, _, _, rfl, rfl, rfl⟩
  exact h _ _ _ hSR2

mutual
theorem AR.keepO {X inj σ w inj' σ' w'} (k : Keeps (fun b => X b ∨ F inj σ b) (fun b => X b ∨ F inj' σ' b) w w') (h : Ev True X inj σ w inj' σ' w) : ∀ (p : AV) (v : Value), AR X inj σ w p v → AR X inj' σ' w' p v
  | .any, _, _ => trivial
  | .p x, v, r => PR.keep k x v r
  | .nils, _, r => r
  | .loc l g i off, _, r => LocR.ev h r
  | .own l g off len, _, r => OwnR.ev h r
  | .mapo l g, _, r => MapR.ev h r
  | .func fn cs, v, r => by
    obtain ⟨vs, h1, h2⟩ := r
    exact ⟨vs, h1, ARs.keepO k h cs vs h2⟩
  | .agg cs, v, r => by
    obtain ⟨vs, h1, h2, h3⟩ := r
    exact ⟨vs, h1, ARs.keepO k h cs vs h2, h3⟩
  | .tup cs, v, r => by
    obtain ⟨vs, h1, h2⟩ := r
    exact ⟨vs, h1, ARs.keepO k h cs vs h2⟩
theorem ARs.keepO {X inj σ w inj' σ' w'} (k : Keeps (fun b => X b ∨ F inj σ b) (fun b => X b ∨ F inj' σ' b) w w') (h : Ev True X inj σ w inj' σ' w) : ∀ (ps : List AV) (vs : List Value), ARs X inj σ w ps vs → ARs X inj' σ' w' ps vs
  | [], _, r => r
  | p :: ps, vs, r => by
    obtain ⟨v, rs, h1, h2, h3⟩ := r
    exact ⟨v, rs, h1, AR.keepO k h p v h2, ARs.keepO k h ps rs h3⟩
end

/-- the state in which a builder is read for the last time -/
theorem SR_bst {o : Oper} {T e l g m gm : Nat} {a0 a1 : AV} {bs : List UInt8} {inj : Inj} {a : Act} {w w' : World} {v : Value}
    (hs : SR C st inj a w) (hH0 : C.H0 = []) (hD : C.D → False) (hd : dstOk C.N o = true) (A : BldA st.sig T e l g m gm a0 a1 bs) (i8 : ∀ g', v.ownBlock = some g' → ∃ c', inj m = some (g', c') ∧ (st.sig m).alive = true) (k : Lib.OnlyRow v.ownBlock w w') :
    SR C ⟨putE st.env o.dst (.p (.str bs)), hset (hset st.heap m (.dead (gm + 1))) l (.dead (g + 1))⟩ inj (a.put o.dst (.string ⟨bs.toArray⟩)) w' := by
  have hgenm : (st.sig m).gen = gm := by rcases A.ha1 with ⟨_, _, e⟩ | ⟨_, e⟩ <;> rw [e] <;> rfl
  have hsig : (⟨putE st.env o.dst (.p (.str bs)), hset (hset st.heap m (.dead (gm + 1))) l (.dead (g + 1))⟩ : St).sig = supd (supd st.sig m (.dead (gm + 1))) l (.dead (g + 1)) := by
    show hget _ = _
    rw [hget_hset, hget_hset]
  have other : ∀ j o', supd (supd st.sig m (.dead (gm + 1))) l (.dead (g + 1)) j = o' → o'.alive = true → j ≠ l ∧ j ≠ m ∧ st.sig j = o' := by
    intro j o' hj ha
    by_cases e1 : j = l
    · subst e1; rw [supd_same] at hj; subst hj; cases ha
    · rw [supd_ne _ _ _ e1] at hj
      by_cases e2 : j = m
      · subst e2; rw [supd_same] at hj; subst hj; cases ha
      · rw [supd_ne _ _ _ e2] at hj; exact ⟨e1, e2, hj⟩
  have fp : ∀ x, F inj (supd (supd st.sig m (.dead (gm + 1))) l (.dead (g + 1))) x → F inj st.sig x := by
    rintro x ⟨j, c', o', h1, h2, _, h3⟩
    obtain ⟨_, _, h4⟩ := other j o' h1 h2
    exact ⟨j, c', o', h4, h2, rfl, h3⟩
  have e0 : Ev True C.X inj st.sig w inj (supd (supd st.sig m (.dead (gm + 1))) l (.dead (g + 1))) w := by
    refine ⟨rfl, rfl, rfl, fun _ => Nat.le_refl _, Nat.le_refl _, fun _ _ => rfl, fun _ _ _ => rfl, fun x hx => .inl (fp x hx), fun j => ?_⟩
    by_cases e1 : j = l
    · subst e1
      rw [supd_same, A.hl]
      exact ⟨Nat.le_succ _, fun ha => by cases ha⟩
    · rw [supd_ne _ _ _ e1]
      by_cases e2 : j = m
      · subst e2
        rw [supd_same]
        exact ⟨by rw [hgenm]; exact Nat.le_succ _, fun ha => by cases ha⟩
      · rw [supd_ne _ _ _ e2]
        exact (OEv.refl _).of fun _ => rfl
  have hrow : ∀ x, ¬ F inj st.sig x → some x ≠ v.ownBlock := fun x hx e1 => by
    obtain ⟨c', e2, e3⟩ := i8 x e1.symm
    exact hx ⟨m, c', _, rfl, e3, rfl, e2⟩
  have K : Keeps (fun x => C.X x ∨ F inj st.sig x) (fun x => C.X x ∨ F inj (supd (supd st.sig m (.dead (gm + 1))) l (.dead (g + 1))) x) w w' :=
    ⟨k.size, fun x hx hn => k.block x hx (hrow x fun hf => hn (.inr hf)), fun x hx hn hn' => hn (hn'.imp id (fp x))⟩
  have hnoF : ∀ x, ¬ F C.inj0 (hget C.H0) x := by
    rintro x ⟨j, c', o', h1, h2, _⟩
    rw [hH0] at h1
    simp only [hget] at h1; subst h1; cases h2
  have hnew : ∀ x, x < C.w0.heap.size → some x ≠ v.ownBlock := fun x hx e1 => by
    obtain ⟨c', e2, e3⟩ := i8 x e1.symm
    rcases hs.ev.fp x ⟨m, c', _, rfl, e3, rfl, e2⟩ with h1 | h1
    · exact hnoF x h1
    · omega
  refine ⟨fun t => ?_, ?_, ?_, ?_, ?_⟩
  · rw [hsig]
    cases hdst : o.dst with
    | none => simpa [putE, Act.put] using AR.keepO K e0 _ _ (hs.env t)
    | some d =>
      simp only [dstOk, hdst, decide_eq_true_eq] at hd
      simp only [putE, Act.put, Env.get]
      by_cases ht : d = t
      · subst ht
        rw [if_pos rfl]
        have : (a.tmps.setIfInBounds d (.string ⟨bs.toArray⟩)).getD d undef = .string ⟨bs.toArray⟩ := by simp [hs.size, hd]
        rw [this]; rfl
      · rw [if_neg ht]
        have : (a.tmps.setIfInBounds d (.string ⟨bs.toArray⟩)).getD t undef = a.tmps.getD t undef := by simp [Array.getElem?_setIfInBounds_ne ht]
        rw [this]; exact AR.keepO K e0 _ _ (hs.env t)
  · cases hdst : o.dst <;> simp [Act.put, hs.size]
  · cases hdst : o.dst <;> simp [Act.put, hs.defers]
  · rw [hsig]
    refine ⟨fun j o' hj => ?_, fun j j' o1 o2 x c1 c2 h1 h2 a1 a2 q1 q2 => ?_, fun x hx => Nat.lt_of_lt_of_le (hs.hr.xlt x hx) k.size⟩
    · by_cases ha : o'.alive = true
      · obtain ⟨n1, n2, hj'⟩ := other j o' hj ha
        have h0 := hs.hr.obj j o' hj'
        have hne : ∀ x c1, inj j = some (x, c1) → w'.heap[x]? = w.heap[x]? := fun x c1 hi =>
          k.block x (hs.hr.flt (D := fun _ => false) ⟨j, c1, o', hj', ha, rfl, hi⟩).1 fun e1 => by
            obtain ⟨c', e2, e3⟩ := i8 x e1.symm
            exact n2 (hs.hr.inj1 j m o' _ x c1 c' hj' rfl ha e3 hi e2)
        cases o' with
        | dead g' => cases ha
        | arr e' sz g' es =>
          obtain ⟨vs, q1, q2, q3, q4⟩ := h0
          refine ⟨vs, ARs.keepO K e0 es vs q1, q2, q3, ?_⟩
          rcases q4 with q4 | ⟨x, c1, cur, q5, q6, q7, q8⟩
          · exact .inl q4
          · exact .inr ⟨x, c1, cur, q5, q6, by rw [hne x c1 q5]; exact q7, q8⟩
        | map g' ks' vs' =>
          obtain ⟨x, c1, ms, clock, q5, q6, q7, q8, q9⟩ := h0
          exact ⟨x, c1, ms, clock, q5, q6, by rw [hne x c1 q5]; exact q7, ARs.keepO K e0 ks' _ q8, ARs.keepO K e0 vs' _ q9⟩
      · cases o' with
        | dead g' => trivial
        | arr _ _ _ _ => exact absurd rfl ha
        | map _ _ _ => exact absurd rfl ha
    · obtain ⟨_, _, h1'⟩ := other j o1 h1 a1
      obtain ⟨_, _, h2'⟩ := other j' o2 h2 a2
      exact hs.hr.inj1 j j' o1 o2 x c1 c2 h1' h2' a1 a2 q1 q2
  · rw [hsig]
    refine ⟨k.os.trans hs.ev.os, k.tape.trans hs.ev.tape, k.output.trans hs.ev.output, fun d => (hD d).elim, Nat.le_trans hs.ev.size k.size, fun x hx => ?_, fun x hx hf => ?_, fun x hx => hs.ev.fp x (fp x hx), fun j => (hs.ev.objs j).trans (e0.objs j) fun p q => q.trans p⟩
    · rw [World.frozen?_of_block (k.block _ (Nat.lt_of_lt_of_le hx hs.ev.size) (hnew _ hx))]
      exact hs.ev.fz x hx
    · rw [k.block x (Nat.lt_of_lt_of_le hx hs.ev.size) (hnew x hx)]
      exact hs.ev.blk x hx hf
theorem AL_bst {ops : Array Oper} {o : Oper} {rest : List Oper} {f : Operand} {args : Array Operand} {ats : Array TypeId} {kw ks T e l g m gm : Nat} {a0 a1 : AV} {bs : List UInt8}
    (S : Bld C.P kw ks T e) (hH0 : C.H0 = []) (hD : C.D → False) (ho : o.op = .call ⟨.value f, args, ats⟩) (hg : guardA ops st.env o = some true) (hd : dstOk C.N o = true)
    (hk : callArgs st.env f args.toList = some (ks, [.loc l g 0 0])) (A : BldA st.sig T e l g m gm a0 a1 bs)
    (h : AL C ops rest Q ⟨putE st.env o.dst (.p (.str bs)), hset (hset st.heap m (.dead (gm + 1))) l (.dead (g + 1))⟩) : AL C ops (o :: rest) Q st := by
  intro inj a w hs
  simp only [wpList, guard_sound hs hg, if_true]
  refine .inl ?_
  obtain ⟨vs, hrun, hars⟩ := call_run hs ho S.bodyS hk
  unfold Oper.wp
  rw [hrun]
  simp only [Oper.upon]
  obtain ⟨vl, r1, rfl, hloc, hr1⟩ := hars
  simp only [ARs] at hr1
  subst hr1
  simp only [AR] at hloc
  obtain ⟨b, c, p, v, i1, rfl, i2, i3, i4, i5, i6, i7, i8⟩ := bld_open hs.hr A hloc
  refine (S.string b (c * 2) p v bs w i5 i7).mono ?_
  rintro e' w' ⟨rfl, k⟩
  exact h _ _ _ (SR_bst hs hH0 hD hd A i8 k)
end Go.Ab
/-
  Part 42: short rules for builders; the table of math/bits.
-/
namespace Go.Ab
variable {D : Prop}
open Go
set_option linter.unusedVariables false
set_option linter.unusedSimpArgs false
variable {C : Cx} {Q : Exit → St → Prop} {st : St}
theorem lies_pair {P : Program} {T d : Nat} (hc : P.cellsOf T = 2) (hd : P.depth = d + 1) (hs : sameLayout P P.depth T T = true) (c : Nat) (h : 1 ≤ c) : liesAt P P.depth T (c * 2 / P.cellsOf T) 0 T 1 = true := by
  have e : c * 2 / P.cellsOf T = c := by rw [hc]; omega
  rw [e, hd]
  unfold liesAt
  have h1 : rowAt P (fun x => sameLayout P P.depth x T) P.depth T c 0 1 = true := by
    rw [hd]
    unfold rowAt
    rw [← hd]
    simp only [hc, hs]
    simp
    exact .inl h
  simp only [h1, Bool.true_or]
@[go_sem] theorem LeVs_bytes (σ σ' : Nat → AO) (bs : List UInt8) : LeVs σ σ' (bytesA bs) (bytesA bs) = True := by
  have h : bytesA bs = (bs.map fun c => PV.int .u8 ((c.toNat : Nat) : Int)).map AV.p := by simp [bytesA]
  rw [h]
  exact eq_true (LeVs_p σ σ' _)
@[go_sem] theorem bytesA_nil : bytesA [] = [] := rfl
@[go_sem] theorem LeV_opt (σ σ' : Nat → AO) (b : Bool) (l g g' i off : Nat) : LeV σ σ' (if b = true then .loc l g i off else .p .nilp) (if b = true then .loc l g' i off else .p .nilp) = (b = true → LeV σ σ' (.loc l g i off) (.loc l g' i off)) := by
  cases b
  · simp [LeV, view]
  · simp
theorem opt_or {α : Type} {b : Bool} {x y : α} : (if b = true then x else y) = y ∨ (if b = true then x else y) = x := by cases b <;> simp
theorem zBw {ops : Array Oper} {o : Oper} {rest : List Oper} {f : Operand} {args : Array Operand} {ats : Array TypeId} {kw ks T e g gm n0 : Nat} {a0 : AV}
    (S : Bld C.P kw ks T e) (l m : Nat) (bs s : List UInt8) (n : Nat) (hroom : bs.length + s.length ≤ 140737488355328)
    (h : AL C ops rest Q ⟨putE st.env o.dst (.p (.tup [.int .i64 s.length, .nili])), hset (hset st.heap m (.arr e 1 (gm + 1) (bytesA (bs ++ s)))) l (.arr T 2 g [.agg [.loc l g 0 0, .own m (gm + 1) 0 n]])⟩)
    (hn : (bs ++ s).length = n := by simp) (hD : C.D → False := by exact id) (ho : o.op = .call ⟨.value f, args, ats⟩ := by rfl) (hg : guardA ops st.env o = some true := by first | exact guard_none rfl | exact guard_true' rfl rfl (by exact rfl) (by exact rfl)) (hd : dstOk C.N o = true := by rfl)
    (hk : callArgs st.env f args.toList = some (kw, [.loc l g 0 0, .p (.str s)]) := by simp only [go_sem, seval, *]; all_goals first | exact rfl | exact ⟨rfl, rfl⟩)
    (hl : hget st.heap l = .arr T 2 g [.agg [a0, .own m gm 0 n0]] := by simp only [go_sem, seval, *]; all_goals first | exact rfl | exact ⟨rfl, rfl⟩)
    (ha0 : a0 = .p .nilp ∨ a0 = .loc l g 0 0 := by first | exact .inl rfl | exact .inr rfl | exact opt_or)
    (hm : hget st.heap m = .arr e 1 gm (bytesA bs) := by simp only [go_sem, seval, *]; all_goals first | exact rfl | exact ⟨rfl, rfl⟩) (hn0 : n0 = bs.length := by first | rfl | (simp; done)) (hne : l ≠ m := by decide) : AL C ops (o :: rest) Q st := by
  subst hn; subst hn0
  exact AL_bws S hD ho hg hd hk ⟨hl, ha0, .inr ⟨rfl, hm⟩, hne⟩ hroom h
theorem zBs {ops : Array Oper} {o : Oper} {rest : List Oper} {f : Operand} {args : Array Operand} {ats : Array TypeId} {kw ks T e g gm n0 : Nat} {a0 : AV}
    (S : Bld C.P kw ks T e) (l m : Nat) (bs : List UInt8) (h : AL C ops rest Q ⟨putE st.env o.dst (.p (.str bs)), hset (hset st.heap m (.dead (gm + 1))) l (.dead (g + 1))⟩)
    (hH0 : C.H0 = [] := by rfl) (hD : C.D → False := by exact id) (ho : o.op = .call ⟨.value f, args, ats⟩ := by rfl) (hg : guardA ops st.env o = some true := by first | exact guard_none rfl | exact guard_true' rfl rfl (by exact rfl) (by exact rfl)) (hd : dstOk C.N o = true := by rfl)
    (hk : callArgs st.env f args.toList = some (ks, [.loc l g 0 0]) := by simp only [go_sem, seval, *]; all_goals first | exact rfl | exact ⟨rfl, rfl⟩)
    (hl : hget st.heap l = .arr T 2 g [.agg [a0, .own m gm 0 n0]] := by simp only [go_sem, seval, *]; all_goals first | exact rfl | exact ⟨rfl, rfl⟩)
    (ha0 : a0 = .p .nilp ∨ a0 = .loc l g 0 0 := by first | exact .inl rfl | exact .inr rfl | exact opt_or)
    (hm : hget st.heap m = .arr e 1 gm (bytesA bs) := by simp only [go_sem, seval, *]; all_goals first | exact rfl | exact ⟨rfl, rfl⟩) (hn0 : n0 = bs.length := by first | rfl | (simp; done)) (hne : l ≠ m := by decide) : AL C ops (o :: rest) Q st := by
  subst hn0
  exact AL_bst S hH0 hD ho hg hd hk ⟨hl, ha0, .inr ⟨rfl, hm⟩, hne⟩ h

/-! ### the table of math/bits -/
theorem tab_eval {C : Cx} {st : St} {inj : Inj} {a : Act} {w : World} (hs : SR C st inj a w) {g : Nat} (hg : C.P.globalNamed "math/bits.deBruijn32tab" = some g) : RowAt (fun b => C.X b ∨ F inj st.sig b) w g 0 (tabNs.map (Value.int .u8)) := tab_ev hs.ev g hg
/-- a place of the table -/
theorem AL_tab {ops : Array Oper} {o : Oper} {rest : List Oper} {t te g : Nat} {x : Operand} {k : IntKind} {i : Nat} (hgn : C.P.globalNamed "math/bits.deBruijn32tab" = some g) (ho : o.op = .indexAddr t (.global g) x) (hg : guardA ops st.env o = some true) (hd : dstOk C.N o = true)
    (hu : C.P.underlying t = some (.array 32 te)) (hte : tyOk C.P te = true) (hc : C.P.cellsOf te = 1) (hx : ev st.env x = .p (.int k (i : Int))) (hi : i < 32)
    (h : AL C ops rest Q ⟨putE st.env o.dst (.p (.imm [.int .u8 (tabNs.getD i 0)])), st.heap⟩) : AL C ops (o :: rest) Q st := by
  intro inj a w hs
  simp only [wpList, guard_sound hs hg, if_true]
  refine .inl ?_
  have hr := tab_eval hs hgn
  have he := hs.eval x
  rw [hx] at he
  simp only [AR, PR] at he
  have hsz := run_sizeOf_ok hte w
  rw [hc] at hsz
  have hrun : (Instr.indexAt t (.pointer (some ⟨g, 0, none⟩)) (a.eval x)).run C.P w = .ok (.pointer (some ⟨g, i, none⟩)) w := by
    rw [he]
    have h1 : ((i : Int) < 32) := by omega
    simp [Instr.indexAt, asIntOf, run_underlying hu, Instr.sureAddr, hi, h1, hsz, Addr.add_lit]
  have hlen : i < tabNs.length := by simpa [tabNs] using hi
  have hcell : PR (fun b => C.X b ∨ F inj st.sig b) w (.imm [.int .u8 (tabNs.getD i 0)]) (.pointer (some ⟨g, i, none⟩)) := by
    refine ⟨g, i, [.int .u8 (tabNs.getD i 0)], rfl, ⟨_, _, rfl, rfl, rfl⟩, by intro u hu; have : u = .int .u8 (tabNs.getD i 0) := by simpa using hu
                                                                              subst this; rfl, hr.1, hr.2.1, ?_⟩
    intro j u hj
    cases j with
    | zero =>
      simp only [List.getElem?_cons_zero, Option.some.injEq] at hj
      subst hj
      have := hr.2.2 i (.int .u8 (tabNs.getD i 0)) (by rw [List.getElem?_map, List.getD_eq_getElem?_getD, List.getElem?_eq_getElem hlen]; rfl)
      simpa using this
    | succ j => simp at hj
  obtain ⟨dst, op, ty, pos, af, gd⟩ := o
  simp only at ho
  subst ho
  refine wp_val (s := Instr.indexAt t (a.eval (.global g)) (a.eval x)) rfl hrun ?_
  · exact h inj _ _ (hs.put (u := none) hd hs.hr (Ev.refl _ _ _ _) hcell)
theorem zTab {ops : Array Oper} {o : Oper} {rest : List Oper} {t te g : Nat} {x : Operand} {k : IntKind} (i : Nat) (hgn : C.P.globalNamed "math/bits.deBruijn32tab" = some g) (hu : C.P.underlying t = some (.array 32 te)) (hi : i < 32) (hx : ev st.env x = .p (.int k (i : Int)))
    (h : AL C ops rest Q ⟨putE st.env o.dst (.p (.imm [.int .u8 (tabNs.getD i 0)])), st.heap⟩) (hte : tyOk C.P te = true := by kernel_rfl) (hc : C.P.cellsOf te = 1 := by kernel_rfl)
    (ho : o.op = .indexAddr t (.global g) x := by rfl) (hg : guardA ops st.env o = some true := by exact guard_none rfl) (hd : dstOk C.N o = true := by rfl) : AL C ops (o :: rest) Q st := AL_tab hgn ho hg hd hu hte hc hx hi h
/-- the place in the table -/
def tzI (n : Nat) : Nat := (n &&& (4294967296 - n)) * 125613361 % 4294967296 / 134217728
/-- the number of zeros at the end of 32 bits -/
def tz32 (n : Nat) : Int := if n = 0 then 32 else tabNs.getD (tzI n) 0
theorem tzI_lt (n : Nat) : tzI n < 32 := by unfold tzI; omega
theorem wrapU (n : Nat) : IntKind.u32.wrap (n : Int) = ((n % 4294967296 : Nat) : Int) := by
  simp only [IntKind.wrap, IntKind.signed, IntKind.bits]
  simp only [Bool.false_and, Bool.false_eq_true, if_false]
  rw [show ((2 : Int) ^ 32) = 4294967296 from rfl]
  omega
theorem tz_idx {n : Nat} (h0 : n ≠ 0) (h : n < 4294967296) : Int.fdiv (IntKind.u32.wrap ((IntKind.u32.wrap ((BitVec.ofInt 32 (n : Int) &&& BitVec.ofInt 32 (IntKind.u32.wrap (0 - (n : Int)))).toNat : Int)) * 125613361)) (2 ^ (min 27 32)) = ((tzI n : Nat) : Int) := by
  have e1 : IntKind.u32.wrap (0 - (n : Int)) = ((4294967296 - n : Nat) : Int) := by
    simp only [IntKind.wrap, IntKind.signed, IntKind.bits]
    simp only [Bool.false_and, Bool.false_eq_true, if_false]
    rw [show ((2 : Int) ^ 32) = 4294967296 from rfl]
    omega
  rw [e1, bv_lt, BitVec.toNat_and, bv_nat h, bv_nat (a := 4294967296 - n) (by omega)]
  have e2 : ((n &&& (4294967296 - n) : Nat) : Int) * 125613361 = (((n &&& (4294967296 - n)) * 125613361 : Nat) : Int) := by simp
  rw [e2, wrapU]
  unfold tzI
  exact fdiv24 _ 27 (by omega)
theorem tab_le : ∀ i, i < 32 → 0 ≤ tabNs.getD i 0 ∧ tabNs.getD i 0 < 32 := by decide
theorem wrap_i64t {n : Nat} : IntKind.i64.wrap (tabNs.getD (tzI n) 0) = tabNs.getD (tzI n) 0 := by
  have h := tab_le (tzI n) (tzI_lt n)
  exact wrap_i64 (by omega) (by omega)
end Go.Ab
