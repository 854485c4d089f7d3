/- The Lean functions that the program's functions are lifted to, and the plain laws about them. -/
import Derived.Test.YtdmddoljldjjeaaGreatL1
/- Compose: the parts. -/
set_option linter.unusedVariables false
set_option linter.unusedSimpArgs false
namespace Go.Proofs.YtdmddoljldjjeaaGreat
open Go Go.Ab
/-- the cluster of an ID in the first merging; the origin of a cell -/
def clID (a : Merged) (id : Int) : List Int := cl a (findB a.Table id).1.toNat
def ogID (a : Merged) (k : Nat) (id : Int) : Int := (og a (findB a.Table id).1.toNat).getD k 0
def catC (a : Merged) (xs : List Int) : List Int := (xs.map (clID a)).flatten
def orgC (a : Merged) : Nat → List Int → List Int
  | _, [] => []
  | k, x :: l => ogID a k x :: orgC a (k + 1) l
theorem orgC_len (a : Merged) : ∀ (l : List Int) (k : Nat), (orgC a k l).length = l.length
  | [], _ => rfl
  | x :: l, k => by simp [orgC, orgC_len a l]
theorem orgC_get (a : Merged) : ∀ (l : List Int) (k j : Nat), (orgC a k l)[j]? = l[j]?.map (ogID a (k + j))
  | [], k, j => by simp [orgC]
  | x :: l, k, 0 => by simp [orgC]
  | x :: l, k, j + 1 => by
    simp only [orgC, List.getElem?_cons_succ]
    rw [orgC_get a l (k + 1) j, show k + 1 + j = k + (j + 1) by omega]
theorem catC_len {a : Merged} (hl : ∀ c ∈ a.Clusters, c.length ≤ 1048576) : ∀ xs : List Int, (catC a xs).length ≤ xs.length * 1048576
  | [] => Nat.le_refl _
  | x :: xs => by
    have ih := catC_len hl xs
    have : (clID a x).length ≤ 1048576 := by
      unfold clID cl
      rw [List.getD_eq_getElem?_getD]
      cases h : a.Clusters[(findB a.Table x).1.toNat]? with
      | none => simp
      | some c => exact hl c (List.mem_of_getElem? h)
    unfold catC at ih ⊢
    simp only [List.map_cons, List.flatten_cons, List.length_append, List.length_cons]
    omega
structure CA (a b : Merged) : Prop where
  ha : MerOk a
  hb : MerOk b
  wa : wfB a = true
  mb : mergesB a.Table b = true
  na : a.Table.Rows.length ≤ 8
theorem CA.mf {a b : Merged} (H : CA a b) : MF a.Table b := by
  obtain ⟨h1, _⟩ := wf_facts H.wa
  have h := H.mb
  simp only [mergesB, Bool.and_eq_true, decide_eq_true_eq] at h
  exact mf_of h1 h.1 h.2.2.1 h.2.2.2.1
theorem id_row {a b : Merged} (H : CA a b) {x : Int} (hx : x ∈ ids a.Table) : ∃ i : Nat, (findB a.Table x).1 = (i : Int) ∧ a.Clusters[i]? = some (clID a x) ∧ a.Origins[i]? = some (og a i) ∧ i < a.Table.Rows.length ∧ (og a i).length = a.Table.Attrs.length := by
  obtain ⟨h1, h2, h3, _, h5⟩ := wf_facts H.wa
  obtain ⟨i, r, e1, e2, _⟩ := findB_get a.Table x hx
  have hi := lt_of_get e2
  have hf := h5 i r e2
  simp only [rowFits, Bool.and_eq_true, decide_eq_true_eq] at hf
  refine ⟨i, by rw [e1], ?_, get_og (by omega), hi, hf.2.1⟩
  unfold clID
  rw [e1]
  exact get_cl (by simpa using (show i < a.Clusters.length by omega))
theorem room8 {n : Nat} (h : n ≤ 1000000000000) : roomB n 8 = true := by
  unfold roomB
  rw [decide_eq_true_eq]
  omega
theorem cat_loop {a b : Merged} (H : CA a b) {B : List Int × Int → Option (LS (List Int × Int) (List Int))} (xs : List Int) (hl : xs.length ≤ 8) (hx : ∀ x ∈ xs, x ∈ ids a.Table)
    (hB : ∀ (k : Nat) (out : List Int) x (i : Nat), xs[k]? = some x → k < xs.length → findB a.Table x = ((i : Int), true) → a.Clusters[i]? = some (clID a x) → roomB (out.length + (clID a x).length) 8 = true → B (out, (k : Int)) = some (.next (out ++ clID a x, ((k + 1 : Nat) : Int))))
    (hE : ∀ out, B (out, (xs.length : Int)) = some (.done out)) : LoopF B ([], 0) = some (catC a xs) := by
  have h := LoopF_foldl xs (fun (out : List Int) i => (out, i)) B (fun out x => out ++ clID a x) id (fun k out => out.length ≤ k * 1048576) (b0 := []) (s0 := ([], 0)) rfl (Nat.zero_le _)
    (fun k out x hxk hk hI => by
      have hm := hx x (List.mem_of_getElem? hxk)
      obtain ⟨i, r, e1, e2, _⟩ := findB_get a.Table x hm
      obtain ⟨j, f1, f2, _⟩ := id_row H hm
      have hij : j = i := by rw [e1] at f1; simp only at f1; omega
      subst hij
      have hc : (clID a x).length ≤ 1048576 := H.ha.lcl _ (List.mem_of_getElem? f2)
      have hk8 : k * 1048576 ≤ 8 * 1048576 := Nat.mul_le_mul_right _ (by omega)
      exact ⟨hB k out x j hxk hk e1 f2 (room8 (by omega)), by simp only [List.length_append]; rw [Nat.add_mul]; omega⟩)
    (fun out _ => hE out)
  rw [h]
  have : ∀ (l : List Int) (acc : List Int), l.foldl (fun out x => out ++ clID a x) acc = acc ++ catC a l := by
    intro l
    induction l with
    | nil => intro acc; simp [catC]
    | cons x l ih => intro acc; rw [List.foldl_cons, ih]; simp [catC]
  rw [this]; rfl
theorem org_loop {a b : Merged} (H : CA a b) {B : List Int × Int → Option (LS (List Int × Int) (List Int))} (xs : List Int) (hl : xs.length = a.Table.Attrs.length) (hn : xs.length ≤ 1048576) (hx : ∀ x ∈ xs, x ∈ ids a.Table)
    (hB : ∀ (k : Nat) (out : List Int) x (i : Nat), xs[k]? = some x → k < xs.length → findB a.Table x = ((i : Int), true) → a.Origins[i]? = some (og a i) → (og a i)[k]? = some (ogID a k x) → roomB (out.length + 1) 8 = true → B (out, (k : Int)) = some (.next (out ++ [ogID a k x], ((k + 1 : Nat) : Int))))
    (hE : ∀ out, B (out, (xs.length : Int)) = some (.done out)) : LoopF B ([], 0) = some (orgC a 0 xs) := by
  have key : ∀ (r : List Int) (k : Nat) (out : List Int), xs.drop k = r → k ≤ xs.length → out.length = k → LoopF B (out, (k : Int)) = some (out ++ orgC a k r) := by
    intro r
    induction r with
    | nil =>
      intro k out hd hk ho
      have hk' : k = xs.length := by
        have := congrArg List.length hd
        simp at this; omega
      subst hk'
      rw [Loop_done (hE out)]; simp [orgC]
    | cons x r ih =>
      intro k out hd hk ho
      have hxk : xs[k]? = some x := by
        have := congrArg (·[0]?) hd
        simpa [List.getElem?_drop] using this
      have hd' : xs.drop (k + 1) = r := by rw [← List.drop_drop, hd]; rfl
      have hlt := lt_of_get hxk
      have hm := hx x (List.mem_of_getElem? hxk)
      obtain ⟨i, r0, e1, e2, _⟩ := findB_get a.Table x hm
      obtain ⟨j, f1, _, f3, _, f5⟩ := id_row H hm
      have hij : j = i := by rw [e1] at f1; simp only at f1; omega
      subst hij
      have hg : (og a j)[k]? = some (ogID a k x) := by
        unfold ogID
        rw [e1]
        simp only [Int.toNat_natCast]
        rw [List.getD_eq_getElem?_getD, List.getElem?_eq_getElem (show k < (og a j).length by omega)]; rfl
      rw [Loop_next (hB k out x j hxk hlt e1 f3 hg (room8 (by omega))), ih (k + 1) _ hd' hlt (by simp [ho])]
      simp [orgC]
  have := key xs 0 [] rfl (Nat.zero_le _) rfl
  simpa using this
end Go.Proofs.YtdmddoljldjjeaaGreat
/- Insertion sorts: the heads ascend. -/
set_option linter.unusedVariables false
set_option linter.unusedSimpArgs false
namespace Go.Proofs.YtdmddoljldjjeaaGreat
open Go Go.Ab
def hd (l : List (List Int)) (i : Nat) : Int := (l.getD i []).headD 0
theorem hd_get {l : List (List Int)} {i : Nat} (h : i < l.length) : (l[i]'h).headD 0 = hd l i := by simp [hd, List.getD, List.getElem?_eq_getElem h]
theorem hd_swap {l : List (List Int)} {k : Nat} (h : k + 1 < l.length) (i : Nat) :
    hd ((l.set (k + 1) (l[k]'(by omega))).set k (l[k + 1]'h)) i = if i = k then hd l (k + 1) else if i = k + 1 then hd l k else hd l i := by
  unfold hd
  simp only [List.getD, List.getElem?_set, List.length_set]
  by_cases h1 : i = k
  · subst h1
    simp [List.getElem?_eq_getElem h, show i < l.length by omega]
  · have h1' : ¬ k = i := fun e => h1 e.symm
    by_cases h2 : i = k + 1
    · subst h2
      simp [List.getElem?_eq_getElem (show k < l.length by omega), h]
    · have h2' : ¬ k + 1 = i := fun e => h2 e.symm
      simp [h1, h1', h2, h2']
theorem sort_inner_asc (i : Nat) : ∀ (k : Nat) (data : List (List Int)) (l : List (List Int)), k ≤ i → i < data.length → data.length ≤ 1048576 → (∀ x ∈ data, x ≠ []) → LoopF drossref55_Table_l4 (data, (k : Int)) = some l →
    (∀ a b, a < b → b ≤ i → b ≠ k → hd data a ≤ hd data b) → ∀ a b, a < b → b ≤ i → hd l a ≤ hd l b := by
  intro k
  induction k with
  | zero =>
    intro data l hk hi hl hne h hq a b hab hb
    rw [Loop_done (t := data) (by simp [drossref55_Table_l4])] at h
    cases h
    exact hq a b hab hb (by omega)
  | succ k ih =>
    intro data l hk hi hl hne h hq
    have hpos : (((k + 1 : Nat) : Int) > 0) := by omega
    have hw : IntKind.i64.wrap (((k + 1 : Nat) : Int) - 1) = (k : Int) := by
      rw [wrap_i64 (by omega) (by omega)]; omega
    have hk1 : k + 1 < data.length := by omega
    have hk' : k < data.length := by omega
    have h1 : data[k + 1]? = some (data[k + 1]'hk1) := List.getElem?_eq_getElem hk1
    have h0 : data[k]? = some (data[k]'hk') := List.getElem?_eq_getElem hk'
    have n1 := head_get (hne _ (List.mem_of_getElem? h1))
    have n0 := head_get (hne _ (List.mem_of_getElem? h0))
    have hs : (data.set (k + 1) (data[k]'hk'))[k]? = some (data[k]'hk') := by
      rw [List.getElem?_set, if_neg (by omega)]; exact h0
    by_cases hc : (data[k + 1]'hk1).headD 0 < (data[k]'hk').headD 0
    · rw [Loop_next (s' := ((data.set (k + 1) (data[k]'hk')).set k (data[k + 1]'hk1), (k : Int))) (by
          simp only [drossref55_Table_l4, if_pos hpos, idx_get h1, hw, idx_get h0, Option.bind_some, n1, n0, if_pos hc, Int.toNat_natCast, idx_get hs])] at h
      have hp : ((data.set (k + 1) (data[k]'hk')).set k (data[k + 1]'hk1)).Perm data := List.set_set_perm hk1 hk'
      rw [hd_get hk1, hd_get hk'] at hc
      refine ih _ l (by omega) (by simp; omega) (by simpa using hl) (fun x hx => hne x (hp.mem_iff.1 hx)) h ?_
      intro a b hab hb hbk
      rw [hd_swap hk1, hd_swap hk1, if_neg hbk]
      by_cases hb1 : b = k + 1
      · rw [if_pos hb1]
        by_cases ha : a = k
        · rw [if_pos ha]; omega
        · rw [if_neg ha, if_neg (by omega)]
          exact hq a k (by omega) (by omega) (by omega)
      · rw [if_neg hb1]
        by_cases ha : a = k
        · rw [if_pos ha]
          exact hq (k + 1) b (by omega) hb hb1
        · rw [if_neg ha]
          by_cases ha1 : a = k + 1
          · rw [if_pos ha1]
            exact hq k b (by omega) hb hb1
          · rw [if_neg ha1]
            exact hq a b hab hb hb1
    · rw [Loop_done (t := data) (by simp only [drossref55_Table_l4, if_pos hpos, idx_get h1, hw, idx_get h0, Option.bind_some, n1, n0, if_neg hc])] at h
      cases h
      rw [hd_get hk1, hd_get hk'] at hc
      intro a b hab hb
      by_cases hbk : b = k + 1
      · subst hbk
        by_cases ha : a = k
        · subst ha; omega
        · have := hq a k (by omega) (by omega) (by omega)
          omega
      · exact hq a b hab hb hbk
theorem sort_outer_asc : ∀ (n i : Nat) (data l : List (List Int)), n = data.length - i → data.length ≤ 1048576 → (∀ x ∈ data, x ≠ []) → LoopF drossref55_Table_l5 (data, (i : Int)) = some l →
    (∀ a b, a < b → b < i → hd data a ≤ hd data b) → ∀ a b, a < b → b < data.length → hd l a ≤ hd l b := by
  intro n
  induction n with
  | zero =>
    intro i data l hn hl hne h hq a b hab hb
    have h2 : ¬ ((i : Int) < ((data.length : Nat) : Int)) := by omega
    rw [Loop_done (t := data) (by simp only [drossref55_Table_l5, if_neg h2])] at h
    cases h
    exact hq a b hab (by omega)
  | succ n ih =>
    intro i data l hn hl hne h hq
    have h2 : ((i : Int) < ((data.length : Nat) : Int)) := by omega
    obtain ⟨m, _, e2, e3⟩ := sort_inner i data (by omega) hl hne
    have hw := wrap_nat (k := i) (by omega)
    rw [Loop_next (s' := (m, ((i + 1 : Nat) : Int))) (by simp only [drossref55_Table_l5, if_pos h2, e2, Option.bind_some, hw])] at h
    have hm := sort_inner_asc i i data m (Nat.le_refl _) (by omega) hl hne e2 (fun a b hab hb hbi => hq a b hab (by omega))
    have := ih (i + 1) m l (by rw [e3.length_eq]; omega) (by rw [e3.length_eq]; exact hl) (fun x hx => hne x (e3.mem_iff.1 hx)) h (fun a b hab hb => hm a b hab (by omega))
    intro a b hab hb
    exact this a b hab (by rw [e3.length_eq]; exact hb)
theorem sorted_asc {t : Table} {cs : List (List Int)} (hc : cs.length ≤ 12) (hd' : divA t cs = true) : ∀ a b, a < b → b < (sorted cs).length → hd (sorted cs) a ≤ hd (sorted cs) b := by
  obtain ⟨_, e2, e3⟩ := sorted_ok hc hd'
  simp only [divA, Bool.and_eq_true] at hd'
  intro a b hab hb
  exact sort_outer_asc _ 0 cs (sorted cs) rfl (by omega) (fun x hx => onceB_ne hd'.1 x hx) e2 (fun a b _ h => absurd h (Nat.not_lt_zero _)) a b hab (by rw [← e3.length_eq]; exact hb)
end Go.Proofs.YtdmddoljldjjeaaGreat
/- The merged table is well-formed. -/
set_option linter.unusedVariables false
set_option linter.unusedSimpArgs false
namespace Go.Proofs.YtdmddoljldjjeaaGreat
open Go Go.Ab
theorem once_iff : ∀ (cs : List (List Int)) (all : List Int), onceB all cs = true ↔ (∀ c ∈ cs, ascB c = true) ∧ cs.flatten.Nodup ∧ ∀ x ∈ cs.flatten, x ∉ all
  | [], all => by simp [onceB]
  | c :: cs, all => by
    constructor
    · intro h
      obtain ⟨h1, h2⟩ := once_nodup h
      simp only [onceB, Bool.and_eq_true] at h
      refine ⟨fun d hd => ?_, h1, h2⟩
      rcases List.mem_cons.1 hd with e | e
      · subst e; exact h.1.1
      · exact ((once_iff cs (all ++ c)).1 h.2).1 d e
    · rintro ⟨h1, h2, h3⟩
      rw [List.flatten_cons, List.nodup_append] at h2
      simp only [onceB, Bool.and_eq_true, List.all_eq_true, Bool.not_eq_true', decide_eq_false_iff_not]
      refine ⟨⟨h1 c (by simp), fun x hx => h3 x (by simp [hx])⟩, (once_iff cs (all ++ c)).2 ⟨fun d hd => h1 d (by simp [hd]), h2.2.1, fun x hx hm => ?_⟩⟩
      rcases List.mem_append.1 hm with e | e
      · exact h3 x (by rw [List.flatten_cons]; exact List.mem_append.2 (.inr hx)) e
      · exact h2.2.2 x e x hx rfl
theorem once_perm {cs cs' : List (List Int)} (hp : cs.Perm cs') (h : onceB [] cs = true) : onceB [] cs' = true := by
  rw [once_iff] at h ⊢
  have hf := hp.flatten
  exact ⟨fun c hc => h.1 c (hp.mem_iff.2 hc), hf.nodup_iff.1 h.2.1, fun x _ => by simp⟩
theorem okRows_gt : ∀ (l : List Row) (a : Int), okRows a l = true → ∀ r ∈ l, a < r.ID
  | [], _, _, r, hr => by cases hr
  | q :: l, a, h, r, hr => by
    simp only [okRows, Bool.and_eq_true, decide_eq_true_eq] at h
    rcases List.mem_cons.1 hr with e | e
    · subst e; exact h.1.1
    · have := okRows_gt l q.ID h.2 r e
      omega
theorem asc_head {x : List Int} (h : ascB x = true) : x.headD 0 ∈ x ∧ ∀ y ∈ x, x.headD 0 ≤ y := by
  have hne := asc_ne h
  have h0 := head_get hne
  refine ⟨List.mem_of_getElem? h0, fun y hy => ?_⟩
  obtain ⟨j, hj, rfl⟩ := List.getElem_of_mem hy
  by_cases e : j = 0
  · subst e
    have := h0
    rw [List.getElem?_eq_getElem hj] at this
    have := Option.some.inj this
    omega
  · have := asc_lt h 0 j (by omega) h0 (List.getElem?_eq_getElem hj)
    omega
theorem mrow_ID {t : Table} (hv : tableErr t = 0) (rules : List Int) {x : List Int} (hx : ascB x = true) (hs : ∀ y ∈ x, y ∈ ids t) : (mrow t rules x).ID = x.headD 0 := by
  obtain ⟨m1, m2⟩ := asc_head hx
  obtain ⟨q, hq, he⟩ := List.mem_map.1 (hs _ m1)
  have hqk : q ∈ keepR t x := List.mem_filter.2 ⟨hq, by rw [he]; simpa using m1⟩
  have hok : okRows 0 (keepR t x) = true := okRows_filter _ _ _ _ _ (Int.le_refl _) (tableErr_code hv)
  have hk' : ∀ r ∈ keepR t x, r.ID ∈ x := fun r hr => by
    have := (List.mem_filter.1 hr).2
    simpa using this
  unfold mrow
  cases hk : keepR t x with
  | nil => rw [hk] at hqk; cases hqk
  | cons r l =>
    rw [hk] at hqk hok hk'
    simp only [List.getElem?_cons_zero, Option.map_some, Option.getD_some]
    have h1 := m2 r.ID (hk' r (by simp))
    simp only [okRows, Bool.and_eq_true, decide_eq_true_eq] at hok
    rcases List.mem_cons.1 hqk with e | e
    · subst e; exact he
    · have := okRows_gt l r.ID hok.2 q e
      have he' : q.ID = x.headD 0 := he
      omega
/-! ### the values and origins -/
def mvals (rows : List Row) : Nat → List Int → List (Value × Int)
  | _, [] => []
  | k, r :: l => chosen rows k r :: mvals rows (k + 1) l
theorem fold_mvals (rows : List Row) : ∀ (rules : List Int) (b : List Value × List Int), rules.foldl (stepM rows) b = (b.1 ++ (mvals rows b.1.length rules).map (·.1), b.2 ++ (mvals rows b.1.length rules).map (·.2))
  | [], b => by simp [mvals]
  | r :: l, b => by
    rw [List.foldl_cons, fold_mvals rows l]
    simp [stepM, mvals]
theorem mergedV_eq (rows : List Row) (rules : List Int) : mergedV rows rules = ((mvals rows 0 rules).map (·.1), (mvals rows 0 rules).map (·.2)) := by
  unfold mergedV; rw [fold_mvals]; rfl
theorem mvals_get (rows : List Row) : ∀ (l : List Int) (k j : Nat), (mvals rows k l)[j]? = l[j]?.map fun r => chosen rows (k + j) r
  | [], k, j => by simp [mvals]
  | r :: l, k, 0 => by simp [mvals]
  | r :: l, k, j + 1 => by
    simp only [mvals, List.getElem?_cons_succ]
    rw [mvals_get rows l (k + 1) j]
    have : k + 1 + j = k + (j + 1) := by omega
    rw [this]
theorem mvals_len (rows : List Row) : ∀ (l : List Int) (k : Nat), (mvals rows k l).length = l.length
  | [], _ => rfl
  | r :: l, k => by simp [mvals, mvals_len rows l]
/-- what is chosen is a cell of a row, with its ID -/
theorem chosen_cell (rows : List Row) (a : Nat) (rule : Int) (hne : rows ≠ []) (hv : ∀ r ∈ rows, valid (cellV r a) = true) : ∃ r ∈ rows, chosen rows a rule = (cellV r a, r.ID) := by
  unfold chosen
  cases hn : nn rows a with
  | nil =>
    obtain ⟨q, l, rfl⟩ : ∃ q l, rows = q :: l := by cases rows with | nil => exact absurd rfl hne | cons q l => exact ⟨q, l, rfl⟩
    refine ⟨q, by simp, ?_⟩
    have hk : (cellV q a).Kind = 0 := by
      apply Classical.byContradiction
      intro h
      have : q ∈ nn (q :: l) a := List.mem_filter.2 ⟨by simp, by simpa using h⟩
      rw [hn] at this; cases this
    have hvq := hv q (by simp)
    simp only [valid, decide_eq_true_eq, hk] at hvq
    have hz : (cellV q a).Num = 0 ∧ (cellV q a).Str = [] := by
      rcases hvq with h | h | h | h
      · exact ⟨h.2.1, h.2.2⟩
      · exact absurd h.1 (by omega)
      · exact absurd h.1 (by omega)
      · exact absurd h.1 (by omega)
    have : cellV q a = ⟨0, 0, []⟩ := by
      cases hc : cellV q a with
      | mk k n s =>
        rw [hc] at hk hz
        simp only at hk hz
        rw [hk, hz.1, hz.2]
    rw [this]
    rfl
  | cons r l =>
    have hm : ∀ x ∈ r :: l, x ∈ rows := by
      intro x hx
      rw [← hn] at hx
      exact (List.mem_filter.1 hx).1
    have key : ∀ (l : List Row) (o : Value × Int), (∃ r ∈ rows, o = (cellV r a, r.ID)) → (∀ x ∈ l, x ∈ rows) → ∃ r ∈ rows, ((l.map fun x => (cellV x a, x.ID)).foldl (pickF (betterB (fun x => (((rows.map (cellV · a)).countP (veq · x) : Nat) : Int)) rule)) o) = (cellV r a, r.ID) := by
      intro l
      induction l with
      | nil => intro o h _; exact h
      | cons y l ih =>
        intro o h hl
        rw [List.map_cons, List.foldl_cons]
        refine ih _ ?_ (fun x hx => hl x (by simp [hx]))
        unfold pickF
        split
        · exact ⟨y, hl y (by simp), rfl⟩
        · exact h
    exact key l (cellV r a, r.ID) ⟨r, hm r (by simp), rfl⟩ (fun x hx => hm x (by simp [hx]))
end Go.Proofs.YtdmddoljldjjeaaGreat
/- The merged table is a merging of the table. -/
set_option linter.unusedVariables false
set_option linter.unusedSimpArgs false
namespace Go.Proofs.YtdmddoljldjjeaaGreat
open Go Go.Ab
theorem nodup_inj {α β : Type} (f : α → β) : ∀ {l : List α}, (l.map f).Nodup → ∀ {x y : α}, x ∈ l → y ∈ l → f x = f y → x = y
  | [], _, x, y, hx, _, _ => by cases hx
  | z :: l, h, x, y, hx, hy, e => by
    rw [List.map_cons, List.nodup_cons] at h
    rcases List.mem_cons.1 hx with a | a
    · rcases List.mem_cons.1 hy with b | b
      · rw [a, b]
      · exact absurd (List.mem_map.2 ⟨y, b, by rw [← e, a]⟩) h.1
    · rcases List.mem_cons.1 hy with b | b
      · exact absurd (List.mem_map.2 ⟨x, a, by rw [e, b]⟩) h.1
      · exact nodup_inj f h.2 a b e
theorem atID_row {t : Table} (hv : tableErr t = 0) {r : Row} (hr : r ∈ t.Rows) (j : Nat) : atID t r.ID j = cellV r j := by
  obtain ⟨i, q, h1, h2, h3⟩ := findB_get t r.ID (List.mem_map.2 ⟨r, hr, rfl⟩)
  have hq : q = r := nodup_inj (fun r : Row => r.ID) (show (t.Rows.map fun r : Row => r.ID).Nodup from (tableErr_zero hv).2) (List.mem_of_getElem? h2) hr h3
  subst hq
  unfold atID
  rw [h1]
  unfold valAt rowV cellV
  simp [List.getD, h2]
theorem rowsCode_valid (n : Nat) : ∀ (l : List Row) (a : Int), rowsCode n a l = 0 → ∀ r ∈ l, r.Values.all valid = true ∧ a < r.ID
  | [], _, _, r, hr => by cases hr
  | q :: l, a, h, r, hr => by
    simp only [rowsCode] at h
    by_cases h1 : q.ID ≤ a
    · rw [if_pos h1] at h; cases h
    · rw [if_neg h1] at h
      by_cases h2 : q.Values.length = n
      · rw [if_neg (by simp [h2])] at h
        by_cases h3 : q.Values.all valid = true
        · rw [if_pos h3] at h
          rcases List.mem_cons.1 hr with e | e
          · subst e; exact ⟨h3, by omega⟩
          · have := rowsCode_valid n l q.ID h r e
            exact ⟨this.1, by omega⟩
        · rw [if_neg h3] at h; cases h
      · rw [if_pos h2] at h; cases h
theorem rowsCode_of (n : Nat) : ∀ (l : List Row) (a : Int), (∀ r ∈ l, a < r.ID ∧ r.Values.length = n ∧ r.Values.all valid = true) → l.Pairwise (fun r q => r.ID < q.ID) → rowsCode n a l = 0
  | [], _, _, _ => rfl
  | r :: l, a, h, hp => by
    obtain ⟨h1, h2, h3⟩ := h r (by simp)
    rw [List.pairwise_cons] at hp
    simp only [rowsCode]
    rw [if_neg (by omega), if_neg (by simp [h2]), if_pos h3]
    exact rowsCode_of n l r.ID (fun q hq => ⟨hp.1 q hq, (h q (by simp [hq])).2⟩) hp.2
/-- what holds of a row merged from a cluster -/
theorem merged_cell {t : Table} {rules x : List Int} (hv : tableErr t = 0) (T : TabOk t) (hx : ascB x = true) (hs : ∀ y ∈ x, y ∈ ids t) (j : Nat) {o : Int} (hj : (morg t rules x)[j]? = some o) :
    o ∈ x ∧ (mrow t rules x).Values[j]? = some (atID t o j) ∧ (j < t.Attrs.length → valid (atID t o j) = true) := by
  have K := keep_rows hv T (asc_ne hx) hs rules
  have hmem : ∀ r ∈ keepR t x, r ∈ t.Rows ∧ r.ID ∈ x := fun r hr => ⟨(List.mem_filter.1 hr).1, by simpa using (List.mem_filter.1 hr).2⟩
  unfold morg at hj
  unfold mrow
  rw [mergedV_eq] at hj ⊢
  simp only [List.getElem?_map, mvals_get, Nat.zero_add] at hj ⊢
  cases hrl : rules[j]? with
  | none => rw [hrl] at hj; cases hj
  | some rule =>
    rw [hrl] at hj
    simp only [Option.map_some, Option.some.injEq] at hj ⊢
    have hval : ∀ r ∈ t.Rows, ∀ i, valid (cellV r i) = true := by
      intro r hr i
      have h1 := (rowsCode_valid _ _ _ (tableErr_code hv) r hr).1
      unfold cellV
      rw [List.getD]
      cases hg : r.Values[i]? with
      | none => rfl
      | some v => exact (List.all_eq_true.1 h1) v (List.mem_of_getElem? hg)
    obtain ⟨r, hr, hc⟩ := chosen_cell (keepR t x) j rule K.ne (fun r hr => hval r (hmem r hr).1 j)
    rw [hc] at hj ⊢
    simp only at hj ⊢
    subst hj
    obtain ⟨m1, m2⟩ := hmem r hr
    exact ⟨m2, by rw [atID_row hv m1], fun _ => by rw [atID_row hv m1]; exact hval r m1 j⟩
theorem morg_len (t : Table) (rules x : List Int) : (morg t rules x).length = rules.length ∧ (mrow t rules x).Values.length = rules.length := by
  unfold morg mrow
  rw [mergedV_eq]
  simp [mvals_len]
theorem mtab_merges {t : Table} {cs : List (List Int)} {rules : List Int} (B : TB t cs rules) (h1 : tableErr t = 0) (h2 : rules.length = t.Attrs.length) (h3 : rules.all okRule = true) (h4 : divA t cs = true) :
    mergesB t (mtab t rules (sorted cs)) = true := by
  obtain ⟨_, _, hp⟩ := sorted_ok B.ncs h4
  have hasc := sorted_asc B.ncs h4
  have hd := h4
  rw [div_same h1] at hd
  have hdA := h4
  simp only [divA, divB, Bool.and_eq_true, List.all_eq_true, decide_eq_true_eq] at hdA hd
  have honce := once_perm hp.symm hdA.1
  have hfl := hp.flatten
  have hdiv : divA t (sorted cs) = true := by
    simp only [divA, Bool.and_eq_true, List.all_eq_true, decide_eq_true_eq]
    exact ⟨honce, by rw [hfl.length_eq]; exact hdA.2.1, fun x hx => hfl.mem_iff.2 (hdA.2.2 x hx)⟩
  have hca := ((once_iff _ _).1 honce).1
  have hsub : ∀ x ∈ sorted cs, ∀ y ∈ x, y ∈ ids t := fun x hx y hy => hd.2.2 y (hfl.mem_iff.1 (List.mem_flatten.2 ⟨x, hx, hy⟩))
  have hlen : (sorted cs).length ≤ 12 := by rw [hp.length_eq]; exact B.ncs
  have hID : ∀ x ∈ sorted cs, (mrow t rules x).ID = x.headD 0 := fun x hx => mrow_ID h1 rules (hca x hx) (hsub x hx)
  have hval : ∀ x ∈ sorted cs, (mrow t rules x).Values.all valid = true := by
    intro x hx
    rw [List.all_eq_true]
    intro v hv
    obtain ⟨j, hj, rfl⟩ := List.getElem_of_mem hv
    obtain ⟨l1, l2⟩ := morg_len t rules x
    have ho : (morg t rules x)[j]? = some ((morg t rules x)[j]'(by omega)) := List.getElem?_eq_getElem (by omega)
    obtain ⟨_, e2, e3⟩ := merged_cell h1 B.ok (hca x hx) (hsub x hx) j ho
    rw [List.getElem?_eq_getElem hj] at e2
    rw [Option.some.inj e2]
    exact e3 (by omega)
  have hpair : ((sorted cs).map (mrow t rules)).Pairwise (fun r q => r.ID < q.ID) := by
    rw [List.pairwise_map, List.pairwise_iff_getElem]
    intro i j hi hj hij
    have g1 := List.getElem_mem hi
    have g2 := List.getElem_mem hj
    rw [hID _ g1, hID _ g2]
    have hle := hasc i j hij hj
    rw [← hd_get hi, ← hd_get hj] at hle
    apply Classical.byContradiction
    intro hn
    have heq : (sorted cs)[i].headD 0 = (sorted cs)[j].headD 0 := by omega
    have := once_apart honce i j _ _ ((sorted cs)[i].headD 0) (List.getElem?_eq_getElem hi) (List.getElem?_eq_getElem hj) (asc_head (hca _ g1)).1 (by rw [heq]; exact (asc_head (hca _ g2)).1)
    omega
  have hpos : ∀ x ∈ sorted cs, 0 < x.headD 0 := by
    intro x hx
    obtain ⟨r, hr, he⟩ := List.mem_map.1 (hsub x hx _ (asc_head (hca x hx)).1)
    have := (rowsCode_valid _ _ _ (tableErr_code h1) r hr).2
    have he' : r.ID = x.headD 0 := he
    omega
  have hcode : rowsCode t.Attrs.length 0 ((sorted cs).map (mrow t rules)) = 0 := by
    refine rowsCode_of _ _ _ (fun r hr => ?_) hpair
    obtain ⟨x, hx, rfl⟩ := List.mem_map.1 hr
    exact ⟨by rw [hID x hx]; exact hpos x hx, by rw [(morg_len t rules x).2, h2], hval x hx⟩
  have hterr : tableErr (mtab t rules (sorted cs)).Table = 0 := by
    have key : ∀ rows : List Row, rows.length ≤ 1000 → rowsCode t.Attrs.length 0 rows = 0 → tableErr ⟨t.Name, t.Attrs, rows⟩ = 0 := by
      intro rows hr hc
      have h1' := h1
      unfold tableErr at h1'
      by_cases a1 : nameB t.Name = false
      · rw [if_pos a1] at h1'; cases h1'
      · rw [if_neg a1] at h1'
        by_cases a2 : t.Attrs.length > 16
        · rw [if_pos a2] at h1'; cases h1'
        · rw [if_neg a2] at h1'
          by_cases a3 : t.Rows.length > 1000
          · rw [if_pos a3] at h1'; cases h1'
          · rw [if_neg a3] at h1'
            by_cases a4 : namesB t.Attrs = false
            · rw [if_pos a4] at h1'; cases h1'
            · have a5 : ¬ rows.length > 1000 := by omega
              show (if nameB t.Name = false then (1 : Int) else if t.Attrs.length > 16 then 3 else if rows.length > 1000 then 3 else if namesB t.Attrs = false then 1 else rowsCode t.Attrs.length 0 rows) = 0
              rw [if_neg a1, if_neg a2, if_neg a5, if_neg a4]
              exact hc
    exact key _ (by rw [List.length_map]; omega) hcode
  have hget : ∀ (k : Nat) x, (sorted cs)[k]? = some x → cl (mtab t rules (sorted cs)) k = x ∧ og (mtab t rules (sorted cs)) k = morg t rules x := by
    intro k x hx
    simp [cl, og, mtab, List.getD, hx]
  have hfits : allFrom (rowFits (mtab t rules (sorted cs))) 0 (mtab t rules (sorted cs)).Table.Rows = true := by
    rw [allFrom_iff]
    intro k r hr
    rw [Nat.zero_add]
    simp only [mtab, List.getElem?_map] at hr
    cases hx : (sorted cs)[k]? with
    | none => rw [hx] at hr; cases hr
    | some x =>
      rw [hx] at hr
      simp only [Option.map_some, Option.some.injEq] at hr
      subst hr
      have hm := List.mem_of_getElem? hx
      obtain ⟨g1, g2⟩ := hget k x hx
      simp only [rowFits, g1, g2, Bool.and_eq_true, List.all_eq_true, decide_eq_true_eq]
      refine ⟨hID x hm, by rw [(morg_len t rules x).1]; exact h2, fun o ho => ?_⟩
      obtain ⟨j, hj, rfl⟩ := List.getElem_of_mem ho
      exact (merged_cell h1 B.ok (hca x hm) (hsub x hm) j (List.getElem?_eq_getElem hj)).1
  have hwf : wfB (mtab t rules (sorted cs)) = true := by
    simp only [wfB, Bool.and_eq_true, decide_eq_true_eq]
    exact ⟨hterr, by simp [mtab], by simp [mtab], honce, hfits⟩
  simp only [mergesB, Bool.and_eq_true, decide_eq_true_eq]
  refine ⟨hwf, rfl, rfl, hdiv, ?_⟩
  rw [allFrom_iff]
  intro k o ho
  rw [Nat.zero_add]
  simp only [mtab, List.getElem?_map] at ho
  cases hx : (sorted cs)[k]? with
  | none => rw [hx] at ho; cases ho
  | some x =>
    rw [hx] at ho
    simp only [Option.map_some, Option.some.injEq] at ho
    subst ho
    have hm := List.mem_of_getElem? hx
    unfold rowMer
    rw [allFrom_iff]
    intro j v hv
    rw [Nat.zero_add, decide_eq_true_eq]
    obtain ⟨_, e2, _⟩ := merged_cell h1 B.ok (hca x hm) (hsub x hm) j hv
    unfold valAt rowV
    simp only [mtab, List.getD, List.getElem?_map, hx, Option.map_some, Option.getD_some, e2]
end Go.Proofs.YtdmddoljldjjeaaGreat
/- Compose: both answer the same. -/
set_option linter.unusedVariables false
set_option linter.unusedSimpArgs false
namespace Go.Proofs.YtdmddoljldjjeaaGreat
open Go Go.Ab
def compC (a : Merged) (x : List Int) : List Int := srtI (catC a x)
def comp (a b : Merged) : Merged := ⟨b.Table, b.Clusters.map (compC a), b.Origins.map (orgC a 0)⟩
theorem sortC_eq (l : List Int) (hl : l.length ≤ 1000000000000) : LoopF drossref55_Compose_l20 (l, 0) = some (srtI l) := by
  have hB : ∀ (data : List Int) (k : Nat) (x y : Int), data.length ≤ 1000000000000 → data[k + 1]? = some x → data[k]? = some y → drossref55_Compose_l19 (data, ((k + 1 : Nat) : Int)) = if decide (x < y) = true then some (.next ((data.set (k + 1) y).set k x, (k : Int))) else some (.done data) := by
    intro data k x y hd hx hy
    have hk := lt_of_get hx
    have hpos : (((k + 1 : Nat) : Int) > 0) := by omega
    have hw : IntKind.i64.wrap (((k + 1 : Nat) : Int) - 1) = (k : Int) := by
      rw [wrap_i64 (by omega) (by omega)]; omega
    have hs : (data.set (k + 1) y)[k]? = some y := by
      rw [List.getElem?_set, if_neg (by omega)]; exact hy
    by_cases hc : x < y
    · simp only [drossref55_Compose_l19, if_pos hpos, idx_get hx, hw, idx_get hy, Option.bind_some, if_pos hc, Int.toNat_natCast, idx_get hs, decide_true, if_true, hc]
    · simp only [drossref55_Compose_l19, if_pos hpos, idx_get hx, hw, idx_get hy, Option.bind_some, if_neg hc, hc, decide_false, Bool.false_eq_true, if_false]
  obtain ⟨r, e1, e2, e3⟩ := ins_outer (fun x y : Int => decide (x < y)) (by intro x y; simp; omega) (by intro x y z; simp; omega) 1000000000000 (by omega) drossref55_Compose_l19 hB
    (fun data => by simp [drossref55_Compose_l19]) drossref55_Compose_l20
    (fun data i l hd hi hL => by
      have h1 : ((i : Int) < ((data.length : Nat) : Int)) := by omega
      simp only [drossref55_Compose_l20, if_pos h1, hL, Option.bind_some, wrap_nat (k := i) (by omega)])
    (fun data hd => by
      simp [drossref55_Compose_l20]) _ 0 l rfl (Nat.zero_le _) hl (fun a b x y _ h => absurd h (Nat.not_lt_zero _))
  simp only [Int.natCast_zero] at e1
  rw [e1]
  congr 1
  refine List.Perm.eq_of_pairwise (le := fun x y : Int => x ≤ y) (fun a b _ _ h1 h2 => by omega) (e3.imp (by intro a b; simp)) (srtI_sorted l) (e2.trans (srtI_perm l).symm)
theorem srtI_len (l : List Int) : (srtI l).length = l.length := (srtI_perm l).length_eq
theorem cl_ids {a b : Merged} (H : CA a b) {x : List Int} (hx : x ∈ b.Clusters) : x.length ≤ 8 ∧ ∀ y ∈ x, y ∈ ids a.Table := by
  have M := H.mf
  have hs : ∀ y ∈ x, y ∈ ids a.Table := fun y hy => (M.ids y).2 (List.mem_flatten.2 ⟨x, hx, hy⟩)
  have hasc := ((once_iff _ _).1 M.once).1 x hx
  have := nodup_sub_len (asc_nodup hasc) hs
  have hn := H.na
  have : (ids a.Table).length = a.Table.Rows.length := by simp [ids]
  exact ⟨by omega, hs⟩
theorem org_ids {a b : Merged} (H : CA a b) {x : List Int} (hx : x ∈ b.Origins) : x.length = a.Table.Attrs.length ∧ ∀ y ∈ x, y ∈ ids a.Table := by
  have M := H.mf
  obtain ⟨k, hk, rfl⟩ := List.getElem_of_mem hx
  have := og_len M (k := k) (by have := M.nor; omega)
  have e : b.Origins[k] = og b k := get_og' (List.getElem?_eq_getElem hk)
  rw [e, M.attrs]; exact this
theorem ids_eq (t : Table) (hn : t.Rows.length ≤ 1048576) : survivor_ids t = some (ids t) := by
  have h := LoopF_foldl t.Rows (fun (out : List Int) i => (out, i)) (survivor_ids_l1 t) (fun out (r : Row) => out ++ [r.ID]) id (fun k out => out.length = k) (b0 := []) (s0 := ([], 0)) rfl rfl
    (fun k out r hr hk hI => ⟨by
      simp only [survivor_ids_l1, if_pos (lt_true hr), idx_get hr, Option.bind_some, room8 (show out.length + 1 ≤ 1000000000000 by omega), if_true, wrap_succ hk (show t.Rows.length ≤ 4611686018427387904 by omega)], by simp [hI]⟩)
    (fun out _ => by simp [survivor_ids_l1])
  have key : ∀ (l : List Row) (acc : List Int), l.foldl (fun out (r : Row) => out ++ [r.ID]) acc = acc ++ l.map (·.ID) := by
    intro l
    induction l with
    | nil => intro acc; simp
    | cons x l ih => intro acc; rw [List.foldl_cons, ih]; simp
  simp only [survivor_ids, h, Option.bind_some, key]
  rfl
theorem keep_ids (t : Table) : keepR t (ids t) = t.Rows := by
  unfold keepR
  rw [List.filter_eq_self]
  intro r hr
  simp only [decide_eq_true_eq]
  exact List.mem_map.2 ⟨r, hr, rfl⟩
end Go.Proofs.YtdmddoljldjjeaaGreat
/- Compose: the loops; what both answer. -/
set_option linter.unusedVariables false
set_option linter.unusedSimpArgs false
namespace Go.Proofs.YtdmddoljldjjeaaGreat
open Go Go.Ab
def stepC (a : Merged) (s : List (List Int) × List (List Int)) (x : List Int × List Int) : List (List Int) × List (List Int) := (s.1 ++ [compC a x.1], s.2 ++ [orgC a 0 x.2])
theorem stepC_fold (a : Merged) : ∀ (l : List (List Int × List Int)) (s : List (List Int) × List (List Int)), l.foldl (stepC a) s = (s.1 ++ l.map (fun x => compC a x.1), s.2 ++ l.map (fun x => orgC a 0 x.2))
  | [], s => by simp
  | x :: l, s => by
    rw [List.foldl_cons, stepC_fold a l]
    simp [stepC]
theorem comp_loops {a b : Merged} (H : CA a b) :
    LoopF (survivor_Compose_l7 a b) ([], [], 0) = some ((comp a b).Clusters, (comp a b).Origins) ∧
    LoopF (drossref55_Compose_l22 a b) ([], [], 0) = some ((comp a b).Clusters, (comp a b).Origins) := by
  have M := H.mf
  have hcl := M.ncl
  have hor := M.nor
  have hnr := H.hb.nrows
  have hna := H.ha.nattrs
  have hrows : a.Table.Rows.length ≤ 1073741824 := H.ha.tab.rows
  have hzl : (b.Clusters.zip b.Origins).length = b.Table.Rows.length := by rw [List.length_zip]; omega
  have step : ∀ (k : Nat) (s : List (List Int) × List (List Int)) x, (b.Clusters.zip b.Origins)[k]? = some x → k < (b.Clusters.zip b.Origins).length → (s.1.length = k ∧ s.2.length = k) →
      survivor_Compose_l7 a b (s.1, s.2, (k : Int)) = some (.next ((stepC a s x).1, (stepC a s x).2, ((k + 1 : Nat) : Int))) ∧
      drossref55_Compose_l22 a b (s.1, s.2, (k : Int)) = some (.next ((stepC a s x).1, (stepC a s x).2, ((k + 1 : Nat) : Int))) := by
    rintro k ⟨s1, s2⟩ ⟨xc, xo⟩ hx hk ⟨hs1, hs2⟩
    simp only at hs1 hs2 ⊢
    rw [List.getElem?_zip_eq_some] at hx
    obtain ⟨hxc, hxo⟩ := hx
    simp only at hxc hxo
    obtain ⟨c1, c2⟩ := cl_ids H (List.mem_of_getElem? hxc)
    obtain ⟨o1, o2⟩ := org_ids H (List.mem_of_getElem? hxo)
    have hlen := catC_len H.ha.lcl xc
    have hxc8 : xc.length * 1048576 ≤ 8 * 1048576 := Nat.mul_le_mul_right _ c1
    have l1 := cat_loop H xc c1 c2 (B := survivor_Compose_l5 a xc)
      (fun j out x i hj hjl hf hg hr => by
        simp only [survivor_Compose_l5, if_pos (lt_true hj), idx_get hj, Option.bind_some, table_Find_eq a.Table x hrows, hf, idx_get hg, hr, if_true, wrap_succ hjl (show xc.length ≤ 4611686018427387904 by omega)])
      (fun out => by simp [survivor_Compose_l5])
    have l2 := org_loop H xo o1 (by omega) o2 (B := survivor_Compose_l6 a xo)
      (fun j out x i hj hjl hf hg hg2 hr => by
        simp only [survivor_Compose_l6, if_pos (lt_true hj), idx_get hj, Option.bind_some, table_Find_eq a.Table x hrows, hf, idx_get hg, idx_get hg2, hr, if_true, wrap_succ hjl (show xo.length ≤ 4611686018427387904 by omega)])
      (fun out => by simp [survivor_Compose_l6])
    have l3 := cat_loop H xc c1 c2 (B := drossref55_Compose_l15 a b k)
      (fun j out x i hj hjl hf hg hr => by
        simp only [drossref55_Compose_l15, idx_get hxc, if_pos (lt_true hj), idx_get hj, Option.bind_some, ref_Find_eq a.Table x hrows, hf, idx_get hg, hr, if_true, wrap_succ hjl (show xc.length ≤ 4611686018427387904 by omega)])
      (fun out => by simp [drossref55_Compose_l15, idx_get hxc])
    have l4 := org_loop H xo o1 (by omega) o2 (B := drossref55_Compose_l21 a b k)
      (fun j out x i hj hjl hf hg hg2 hr => by
        simp only [drossref55_Compose_l21, idx_get hxo, if_pos (lt_true hj), idx_get hj, Option.bind_some, ref_Find_eq a.Table x hrows, hf, idx_get hg, idx_get hg2, hr, if_true, wrap_succ hjl (show xo.length ≤ 4611686018427387904 by omega)])
      (fun out => by simp [drossref55_Compose_l21, idx_get hxo])
    have r1 : roomB (s1.length + 1) 24 = true := room_le (by omega) (by omega)
    have r2 : roomB (s2.length + 1) 24 = true := room_le (by omega) (by omega)
    have hs : srtIF (catC a xc) = some (srtI (catC a xc)) := by unfold srtIF; rw [if_pos (by omega)]
    have hw := wrap_succ hk (show (b.Clusters.zip b.Origins).length ≤ 4611686018427387904 by omega)
    have hlt : (k : Int) < (b.Table.Rows.length : Int) := by omega
    have hlt2 : (k : Int) < (b.Clusters.length : Int) := by omega
    refine ⟨?_, ?_⟩
    · simp only [survivor_Compose_l7, if_pos hlt, idx_get hxc, idx_get hxo, Option.bind_some, l1, l2, hs, r1, r2, if_true, hw, stepC, compC]
    · simp only [drossref55_Compose_l22, if_pos hlt2, Option.bind_some, l3, l4, sortC_eq (catC a xc) (by omega), r1, r2, if_true, hw, stepC, compC]
  have hz1 : (b.Clusters.zip b.Origins).map (fun x => compC a x.1) = (comp a b).Clusters := by
    have : (b.Clusters.zip b.Origins).map (fun x => compC a x.1) = ((b.Clusters.zip b.Origins).map (·.1)).map (compC a) := by rw [List.map_map]; rfl
    rw [this, List.map_fst_zip (by omega)]; rfl
  have hz2 : (b.Clusters.zip b.Origins).map (fun x => orgC a 0 x.2) = (comp a b).Origins := by
    have : (b.Clusters.zip b.Origins).map (fun x => orgC a 0 x.2) = ((b.Clusters.zip b.Origins).map (·.2)).map (orgC a 0) := by rw [List.map_map]; rfl
    rw [this, List.map_snd_zip (by omega)]; rfl
  have inv : ∀ (k : Nat) (s : List (List Int) × List (List Int)) x, (s.1.length = k ∧ s.2.length = k) → ((stepC a s x).1.length = k + 1 ∧ (stepC a s x).2.length = k + 1) := by
    intro k s x h; simp [stepC, h]
  refine ⟨?_, ?_⟩
  · have h := LoopF_foldl (b.Clusters.zip b.Origins) (fun (s : List (List Int) × List (List Int)) i => (s.1, s.2, i)) (survivor_Compose_l7 a b) (stepC a) id (fun k s => s.1.length = k ∧ s.2.length = k) (b0 := ([], [])) (s0 := ([], [], 0)) rfl ⟨rfl, rfl⟩
      (fun k s x hx hk hI => ⟨(step k s x hx hk hI).1, inv k s x hI⟩) (fun s _ => by rw [hzl]; simp [survivor_Compose_l7])
    rw [h, stepC_fold, hz1, hz2]; rfl
  · have h := LoopF_foldl (b.Clusters.zip b.Origins) (fun (s : List (List Int) × List (List Int)) i => (s.1, s.2, i)) (drossref55_Compose_l22 a b) (stepC a) id (fun k s => s.1.length = k ∧ s.2.length = k) (b0 := ([], [])) (s0 := ([], [], 0)) rfl ⟨rfl, rfl⟩
      (fun k s x hx hk hI => ⟨(step k s x hx hk hI).2, inv k s x hI⟩) (fun s _ => by rw [hzl, ← hcl]; simp [drossref55_Compose_l22])
    rw [h, stepC_fold, hz1, hz2]; rfl
/-- what both answer -/
noncomputable def compB (a b : Merged) : Merged × Int := if wfB a = true ∧ mergesB a.Table b = true then (comp a b, 0) else (noTab, 1)
theorem Compose_eq {a b : Merged} (ha : MerOk a) (hb : MerOk b) (hn : a.Table.Rows.length ≤ 8) (hv : ∀ r ∈ b.Table.Rows, r.Values.length ≤ 1048576) : survivor_Compose a b = some (compB a b) ∧ drossref55_Compose a b = some (compB a b) := by
  by_cases h1 : wfB a = true
  · obtain ⟨t1, _⟩ := wf_facts h1
    obtain ⟨m1, m2⟩ := merges_eq a.Table b t1 hb ha.tab ha.tab.attrs
    by_cases h2 : mergesB a.Table b = true
    · have H : CA a b := ⟨ha, hb, h1, h2, hn⟩
      obtain ⟨l1, l2⟩ := comp_loops H
      have hnr := hb.nrows
      have hk := (Keep_eq b.Table (ids b.Table) hb.tab.attrs hnr hv (by simp [ids]; omega)).1
      rw [keep_ids] at hk
      have hw := With_eq b.Table b.Table.Rows hb.tab.attrs hnr hv
      simp only [survivor_Compose, drossref55_Compose, wellFormed_eq a ha, WellFormed_eq a ha, Option.bind_some, h1, if_true, m1, m2, h2, ids_eq b.Table hnr, hk, hw, l1, l2, compB, and_self, comp]
    · simp only [survivor_Compose, drossref55_Compose, wellFormed_eq a ha, WellFormed_eq a ha, Option.bind_some, h1, if_true, m1, m2, h2, compB, and_false, if_false, noTab, Bool.false_eq_true]
      simp
  · simp only [survivor_Compose, drossref55_Compose, wellFormed_eq a ha, WellFormed_eq a ha, Option.bind_some, h1, compB, false_and, if_false, noTab, Bool.false_eq_true]
    simp
theorem mb_comp {a b : Merged} (H : CA a b) : MB (comp a b) := by
  have hnc := H.hb.ncl
  have hno := H.hb.nor
  have hna := H.ha.nattrs
  refine ⟨H.hb.tab.attrs, H.hb.tab.rows, H.hb.tab.vals, H.hb.tab.short, by simp only [comp, List.length_map]; omega, ?_, by simp only [comp, List.length_map]; omega, ?_⟩
  · intro c hc
    obtain ⟨x, hx, rfl⟩ := List.mem_map.1 hc
    obtain ⟨c1, _⟩ := cl_ids H hx
    have hlen := catC_len H.ha.lcl x
    have hxc8 : x.length * 1048576 ≤ 8 * 1048576 := Nat.mul_le_mul_right _ c1
    unfold compC
    rw [srtI_len]; omega
  · intro c hc
    obtain ⟨x, hx, rfl⟩ := List.mem_map.1 hc
    obtain ⟨o1, _⟩ := org_ids H hx
    rw [orgC_len]; omega
end Go.Proofs.YtdmddoljldjjeaaGreat
/- Tables from recipes. -/
set_option linter.unusedVariables false
set_option linter.unusedSimpArgs false
namespace Go.Proofs.YtdmddoljldjjeaaGreat
open Go Go.Ab
theorem grow_loop {α : Type} {B : List α × Int → Option (LS (List α × Int) (List α))} (N : Nat) (f : Nat → α)
    (hB : ∀ (k : Nat) (out : List α), k < N → out.length = k → B (out, (k : Int)) = some (.next (out ++ [f k], ((k + 1 : Nat) : Int))))
    (hE : ∀ out : List α, B (out, (N : Int)) = some (.done out)) : LoopF B ([], 0) = some ((List.range N).map f) := by
  have key : ∀ (r k : Nat) (out : List α), k + r = N → out.length = k → LoopF B (out, (k : Int)) = some (out ++ (List.range' k r).map f) := by
    intro r
    induction r with
    | zero =>
      intro k out hk ho
      have : k = N := by omega
      subst this
      rw [Loop_done (hE out)]; simp
    | succ r ih =>
      intro k out hk ho
      rw [Loop_next (hB k out (by omega) ho), ih (k + 1) _ (by omega) (by simp [ho])]
      simp [List.range'_succ]
  have h := key N 0 [] (by omega) rfl
  simp only [Int.natCast_zero, List.nil_append] at h
  rw [h, List.range_eq_range']
theorem Of_some (c : Int) : ∃ v, drossref01_Of c = some v ∧ valid v = true ∧ v.Str.length ≤ 2 := by
  unfold drossref01_Of
  by_cases h0 : (Int.tmod c 12 == 0) = true
  · rw [if_pos h0]; exact ⟨_, rfl, by decide, by decide⟩
  rw [if_neg h0]
  by_cases h1 : (Int.tmod c 12 == 1) = true
  · rw [if_pos h1]; exact ⟨_, rfl, by decide, by decide⟩
  rw [if_neg h1]
  by_cases h2 : (Int.tmod c 12 == 2) = true
  · rw [if_pos h2]; exact ⟨_, rfl, by decide, by decide⟩
  rw [if_neg h2]
  by_cases h3 : (Int.tmod c 12 == 3) = true
  · rw [if_pos h3]; exact ⟨_, rfl, by decide, by decide⟩
  rw [if_neg h3]
  by_cases h4 : (Int.tmod c 12 == 4) = true
  · rw [if_pos h4]; exact ⟨_, rfl, by decide, by decide⟩
  rw [if_neg h4]
  by_cases h5 : (Int.tmod c 12 == 5) = true
  · rw [if_pos h5]; exact ⟨_, rfl, by decide, by decide⟩
  rw [if_neg h5]
  by_cases h6 : (Int.tmod c 12 == 6) = true
  · rw [if_pos h6]; exact ⟨_, rfl, by decide, by decide⟩
  rw [if_neg h6]
  by_cases h7 : (Int.tmod c 12 == 7) = true
  · rw [if_pos h7]; exact ⟨_, rfl, by decide, by decide⟩
  rw [if_neg h7]
  by_cases h8 : (Int.tmod c 12 == 8) = true
  · rw [if_pos h8]; exact ⟨_, rfl, by decide, by decide⟩
  rw [if_neg h8]
  by_cases h9 : (Int.tmod c 12 == 9) = true
  · rw [if_pos h9]; exact ⟨_, rfl, by decide, by decide⟩
  rw [if_neg h9]
  by_cases h10 : (Int.tmod c 12 == 10) = true
  · rw [if_pos h10]; exact ⟨_, rfl, by decide, by decide⟩
  rw [if_neg h10]
  exact ⟨_, rfl, by decide, by decide⟩
noncomputable def ofV (c : Int) : Value := (drossref01_Of c).getD ⟨0, 0, []⟩
theorem ofV_eq (c : Int) : drossref01_Of c = some (ofV c) ∧ valid (ofV c) = true ∧ (ofV c).Str.length ≤ 2 := by
  obtain ⟨v, h1, h2, h3⟩ := Of_some c
  have : ofV c = v := by unfold ofV; rw [h1]; rfl
  rw [this]; exact ⟨h1, h2, h3⟩
noncomputable def wval (x : Drossref03_Recipe) (i k : Nat) : Value := ofV (((x.Rows.getD i []).getD k 0))
def wstep (x : Drossref03_Recipe) : Nat := 1 + x.Gap.toNat % 3
noncomputable def wrow (x : Drossref03_Recipe) (n i : Nat) : Row := ⟨((1 + i * wstep x : Nat) : Int), (List.range n).map (wval x i)⟩
def wnames : List (List UInt8) := [[97], [98], [99], [100], [101], [102], [103], [104]]
noncomputable def wide (x : Drossref03_Recipe) (n : Nat) : Table := ⟨[114], wnames.take n, (List.range x.Rows.length).map (wrow x n)⟩
theorem wide_inner (x : Drossref03_Recipe) (n i : Nat) (hn : n ≤ 8) (hi : i < x.Rows.length) (hl : ∀ r ∈ x.Rows, r.length ≤ 1048576) :
    LoopF (drossref03_Wide_l3 x (n : Int) (i : Int)) ([], 0) = some ((List.range n).map (wval x i)) := by
  have hx : x.Rows[i]? = some (x.Rows.getD i []) := by simp [List.getD, List.getElem?_eq_getElem hi]
  have hxl := hl _ (List.mem_of_getElem? hx)
  refine grow_loop n (wval x i) (fun k out hk ho => ?_) (fun out => by simp [drossref03_Wide_l3])
  have hk' : ((k : Int) < (n : Int)) := by omega
  have hroom : roomB (out.length + 1) 32 = true := room_le (by omega) (by omega)
  have hw := wrap_nat (k := k) (by omega)
  simp only [drossref03_Wide_l3, if_pos hk', idx_get hx, Option.bind_some]
  by_cases h : k < (x.Rows.getD i []).length
  · have h' : ((k : Int) < ((x.Rows.getD i []).length : Int)) := by omega
    have hg : (x.Rows.getD i [])[k]? = some ((x.Rows.getD i []).getD k 0) := by
      generalize x.Rows.getD i [] = l at h
      simp [List.getD, List.getElem?_eq_getElem h]
    simp only [if_pos h', idx_get hg, Option.bind_some, (ofV_eq _).1, hroom, if_true, hw]
    rfl
  · have h' : ¬ ((k : Int) < ((x.Rows.getD i []).length : Int)) := by omega
    have hg : (x.Rows.getD i []).getD k 0 = 0 := by
      generalize x.Rows.getD i [] = l at h
      simp [List.getD, List.getElem?_eq_none (show l.length ≤ k by omega)]
    simp only [if_neg h', (ofV_eq _).1, Option.bind_some, hroom, if_true, hw]
    unfold wval
    rw [hg]
theorem Wide_eq (x : Drossref03_Recipe) (n : Nat) (hn : n ≤ 8) (hr : x.Rows.length ≤ 8) (hl : ∀ r ∈ x.Rows, r.length ≤ 1048576) (hg : 0 ≤ x.Gap ∧ x.Gap ≤ 255) : drossref03_Wide x (n : Int) = some (wide x n) := by
  have h1 : (0 : Int) ≤ (n : Int) := by omega
  have h2 : (n : Int) ≤ 8 := by omega
  have hroom : roomB ((wnames.take n).length) 16 = true := room_le (by simp; omega) (by omega)
  have ho : LoopF (drossref03_Wide_l4 x (n : Int)) ([], 0) = some ((List.range x.Rows.length).map (wrow x n)) := by
    refine grow_loop x.Rows.length (wrow x n) (fun i out hi ho => ?_) (fun out => by simp [drossref03_Wide_l4])
    have hi' : ((i : Int) < (x.Rows.length : Int)) := by omega
    have hroom : roomB (out.length + 1) 32 = true := room_le (by omega) (by omega)
    have hm : Int.tmod x.Gap 3 = ((x.Gap.toNat % 3 : Nat) : Int) := by
      rw [Int.tmod_eq_emod_of_nonneg hg.1]; omega
    have e1 : IntKind.i64.wrap (Int.tmod x.Gap 3) = ((x.Gap.toNat % 3 : Nat) : Int) := by rw [hm, wrap_i64 (by omega) (by omega)]
    have e2 : IntKind.i64.wrap (1 + IntKind.i64.wrap (Int.tmod x.Gap 3)) = ((wstep x : Nat) : Int) := by
      rw [e1, wrap_i64 (by omega) (by omega)]; unfold wstep; omega
    have hs : wstep x ≤ 3 := by unfold wstep; omega
    have hmul : i * wstep x ≤ 8 * 3 := Nat.mul_le_mul (by omega) hs
    have e3 : IntKind.i64.wrap ((i : Int) * ((wstep x : Nat) : Int)) = ((i * wstep x : Nat) : Int) := by
      rw [← Int.natCast_mul, wrap_i64 (by omega) (by omega)]
    have e4 : IntKind.i64.wrap (1 + IntKind.i64.wrap ((i : Int) * IntKind.i64.wrap (1 + IntKind.i64.wrap (Int.tmod x.Gap 3)))) = ((1 + i * wstep x : Nat) : Int) := by
      rw [e2, e3, wrap_i64 (by omega) (by omega)]; omega
    simp only [drossref03_Wide_l4, if_pos hi', wide_inner x n i hn hi hl, Option.bind_some, hroom, if_true, e4, wrap_nat (k := i) (by omega)]
    rfl
  simp only [drossref03_Wide, if_pos h1, if_pos h2, Option.bind_some, Int.toNat_natCast]
  have hroom' : roomB ((List.take n [[97], [98], [99], [100], [101], [102], [103], [104]] : List (List UInt8)).length) 16 = true := hroom
  rw [if_pos hroom', ho]
  rfl
end Go.Proofs.YtdmddoljldjjeaaGreat
/- Tables from recipes are valid; rules and clusters of plans. -/
set_option linter.unusedVariables false
set_option linter.unusedSimpArgs false
namespace Go.Proofs.YtdmddoljldjjeaaGreat
open Go Go.Ab
theorem wnames_ok {n : Nat} (h : n ≤ 8) : namesB (wnames.take n) = true := by
  have : n = 0 ∨ n = 1 ∨ n = 2 ∨ n = 3 ∨ n = 4 ∨ n = 5 ∨ n = 6 ∨ n = 7 ∨ n = 8 := by omega
  rcases this with rfl | rfl | rfl | rfl | rfl | rfl | rfl | rfl | rfl <;> decide
theorem wide_valid (x : Drossref03_Recipe) (n : Nat) (hn : n ≤ 8) (hr : x.Rows.length ≤ 8) : tableErr (wide x n) = 0 := by
  have h1 : ¬ (nameB [114] = false) := by decide
  have hlen : (wnames.take n).length = n := by simp [wnames]; omega
  have h2 : ¬ (wnames.take n).length > 16 := by omega
  have h3 : ¬ ((List.range x.Rows.length).map (wrow x n)).length > 1000 := by simp; omega
  have h4 : ¬ (namesB (wnames.take n) = false) := by rw [wnames_ok hn]; simp
  have hc : rowsCode (wnames.take n).length 0 ((List.range x.Rows.length).map (wrow x n)) = 0 := by
    refine rowsCode_of _ _ _ (fun r hr => ?_) ?_
    · obtain ⟨i, hi, rfl⟩ := List.mem_map.1 hr
      refine ⟨by simp only [wrow]; omega, by simp only [wrow, List.length_map, List.length_range]; omega, ?_⟩
      rw [List.all_eq_true]
      intro v hv
      obtain ⟨k, hk, rfl⟩ := List.mem_map.1 hv
      exact (ofV_eq _).2.1
    · rw [List.pairwise_map]
      refine List.Pairwise.imp ?_ List.pairwise_lt_range
      intro a b hab
      simp only [wrow]
      have hs : 1 ≤ wstep x := by unfold wstep; omega
      have : (a + 1) * wstep x ≤ b * wstep x := Nat.mul_le_mul_right _ hab
      rw [Nat.add_mul, Nat.one_mul] at this
      omega
  show (if nameB [114] = false then (1 : Int) else if (wnames.take n).length > 16 then 3 else if ((List.range x.Rows.length).map (wrow x n)).length > 1000 then 3 else if namesB (wnames.take n) = false then 1 else rowsCode (wnames.take n).length 0 ((List.range x.Rows.length).map (wrow x n))) = 0
  rw [if_neg h1, if_neg h2, if_neg h3, if_neg h4]
  exact hc
theorem okI_u8 {n : Int} (h : okI .u8 n) : 0 ≤ n ∧ n ≤ 255 := by
  have h' : (decide (IntKind.min .u8 ≤ n) && decide (n ≤ IntKind.max .u8)) = true := h
  simp only [Bool.and_eq_true, decide_eq_true_eq] at h'
  have e1 : IntKind.min .u8 = 0 := by decide
  have e2 : IntKind.max .u8 = 255 := by decide
  rw [e1, e2] at h'
  exact h'
/-- the table of a recipe -/
theorem Table03_eq (x : Drossref03_Recipe) (h : okDrossref03_Recipe x) (hr : x.Rows.length ≤ 8) : drossref03_Table x 8 = some (wide x (x.Attrs.toNat % 6), true) := by
  obtain ⟨ha, hg, hl⟩ := h
  have ha' := okI_u8 ha
  have hg' := okI_u8 hg
  have h1 : ¬ ((x.Rows.length : Int) > 8) := by omega
  have hm : Int.tmod x.Attrs 6 = ((x.Attrs.toNat % 6 : Nat) : Int) := by
    rw [Int.tmod_eq_emod_of_nonneg ha'.1]; omega
  have e1 : IntKind.i64.wrap (Int.tmod x.Attrs 6) = ((x.Attrs.toNat % 6 : Nat) : Int) := by rw [hm, wrap_i64 (by omega) (by omega)]
  simp only [drossref03_Table, if_neg h1, e1, Wide_eq x (x.Attrs.toNat % 6) (by omega) hr (fun r hr => (hl.2 r hr).1) hg', Option.bind_some]
end Go.Proofs.YtdmddoljldjjeaaGreat
/- Rules and clusters of plans. -/
set_option linter.unusedVariables false
set_option linter.unusedSimpArgs false
namespace Go.Proofs.YtdmddoljldjjeaaGreat
open Go Go.Ab
def ruleAt (p : Drossref55_Plan) (i : Nat) : Int := if i < p.Rules.length then 1 + ((p.Rules.getD i 0).toNat % 5 : Nat) else 1
def rulesOf (t : Table) (p : Drossref55_Plan) : List Int := (List.range t.Attrs.length).map (ruleAt p)
theorem rulesOf_ok (t : Table) (p : Drossref55_Plan) : (rulesOf t p).length = t.Attrs.length ∧ (rulesOf t p).all okRule = true := by
  refine ⟨by simp [rulesOf], ?_⟩
  rw [List.all_eq_true]
  intro r hr
  obtain ⟨i, hi, rfl⟩ := List.mem_map.1 hr
  simp only [okRule, Bool.and_eq_true, decide_eq_true_eq]
  unfold ruleAt
  split <;> omega
theorem List55_eq (t : Table) (p : Drossref55_Plan) (ht : t.Attrs.length ≤ 1048576) (h : okDrossref55_Plan p) : drossref55_List t p = some (rulesOf t p) := by
  have hl := grow_loop (B := drossref55_List_l1 t p) t.Attrs.length (ruleAt p) (fun k out hk ho => by
    have hk' : ((k : Int) < (t.Attrs.length : Int)) := by omega
    have hroom : roomB (out.length + 1) 8 = true := room_le (by omega) (by omega)
    have hw := wrap_nat (k := k) (by omega)
    simp only [drossref55_List_l1, if_pos hk']
    by_cases hr : k < p.Rules.length
    · have hr' : ((k : Int) < (p.Rules.length : Int)) := by omega
      have hg : p.Rules[k]? = some (p.Rules.getD k 0) := by simp [List.getD, List.getElem?_eq_getElem hr]
      have hu := okI_u8 (h.2.2 _ (List.mem_of_getElem? hg))
      have e0 : Int.tmod (p.Rules.getD k 0) 5 = (((p.Rules.getD k 0).toNat % 5 : Nat) : Int) := by
        rw [Int.tmod_eq_emod_of_nonneg hu.1]; omega
      have e1 : IntKind.i64.wrap (1 + IntKind.i64.wrap (Int.tmod (p.Rules.getD k 0) 5)) = ruleAt p k := by
        have e2 : IntKind.i64.wrap (((p.Rules.getD k 0).toNat % 5 : Nat) : Int) = (((p.Rules.getD k 0).toNat % 5 : Nat) : Int) := wrap_i64 (by omega) (by omega)
        rw [e0, e2, wrap_i64 (by omega) (by omega)]
        unfold ruleAt
        rw [if_pos hr]
      simp only [if_pos hr', idx_get hg, Option.bind_some, hroom, if_true, e1, hw]
    · have hr' : ¬ ((k : Int) < (p.Rules.length : Int)) := by omega
      have e1 : ruleAt p k = 1 := by unfold ruleAt; rw [if_neg hr]
      simp only [if_neg hr', hroom, if_true, e1, hw]) (fun out => by simp [drossref55_List_l1])
  simp only [drossref55_List, hl, Option.bind_some]
  rfl
end Go.Proofs.YtdmddoljldjjeaaGreat
/- Clusters of plans. -/
set_option linter.unusedVariables false
set_option linter.unusedSimpArgs false
namespace Go.Proofs.YtdmddoljldjjeaaGreat
open Go Go.Ab
def lab (p : Drossref55_Plan) (i : Nat) : Nat := if i < p.Labels.length then (p.Labels.getD i 0).toNat % 4 else 0
theorem label_eq (p : Drossref55_Plan) (h : okDrossref55_Plan p) (i : Nat) : drossref55_label p (i : Int) = some ((lab p i : Nat) : Int) := by
  simp only [drossref55_label]
  by_cases hr : i < p.Labels.length
  · have hr' : ((i : Int) < (p.Labels.length : Int)) := by omega
    have hg : p.Labels[i]? = some (p.Labels.getD i 0) := by simp [List.getD, List.getElem?_eq_getElem hr]
    have hu := okI_u8 (h.1.2 _ (List.mem_of_getElem? hg))
    have e0 : Int.tmod (p.Labels.getD i 0) 4 = (((p.Labels.getD i 0).toNat % 4 : Nat) : Int) := by
      rw [Int.tmod_eq_emod_of_nonneg hu.1]; omega
    simp only [if_pos hr', idx_get hg, Option.bind_some, e0]
    unfold lab; rw [if_pos hr]
  · have hr' : ¬ ((i : Int) < (p.Labels.length : Int)) := by omega
    rw [if_neg hr']
    unfold lab; rw [if_neg hr]; rfl
/-- the IDs of the rows with a label, from place k on -/
def labIDs (p : Drossref55_Plan) (n : Nat) : Nat → List Row → List Int
  | _, [] => []
  | k, r :: l => (if lab p k = n then [r.ID] else []) ++ labIDs p n (k + 1) l
theorem lab_loop (t : Table) (p : Drossref55_Plan) (h : okDrossref55_Plan p) (n : Nat) (ht : t.Rows.length ≤ 1048576) : ∀ (r : List Row) (k : Nat) (out : List Int), t.Rows.drop k = r → k ≤ t.Rows.length → out.length ≤ k →
    LoopF (drossref55_Clusters_l3 t p (n : Int)) (out, (k : Int)) = some (out ++ labIDs p n k r) := by
  intro r
  induction r with
  | nil =>
    intro k out hd hk ho
    have hk' : k = t.Rows.length := by
      have := congrArg List.length hd
      simp at this; omega
    subst hk'
    rw [Loop_done (t := out) (by simp [drossref55_Clusters_l3])]; simp [labIDs]
  | cons x r ih =>
    intro k out hd hk ho
    have hx : t.Rows[k]? = some x := by
      have := congrArg (·[0]?) hd
      simpa [List.getElem?_drop] using this
    have hd' : t.Rows.drop (k + 1) = r := by rw [← List.drop_drop, hd]; rfl
    have hlt := lt_of_get hx
    have hroom : roomB (out.length + 1) 8 = true := room_le (by omega) (by omega)
    have hw := wrap_nat (k := k) (by omega)
    by_cases e : lab p k = n
    · have e' : ((((lab p k : Nat) : Int) == (n : Int)) = true) := by simp [e]
      rw [Loop_next (s' := (out ++ [x.ID], ((k + 1 : Nat) : Int))) (by simp only [drossref55_Clusters_l3, if_pos (lt_true hx), label_eq p h k, Option.bind_some, if_pos e', idx_get hx, hroom, if_true, hw]), ih (k + 1) _ hd' hlt (by simp; omega)]
      simp [labIDs, e]
    · have e' : ¬ ((((lab p k : Nat) : Int) == (n : Int)) = true) := by
        rw [beq_iff_eq]; omega
      rw [Loop_next (s' := (out, ((k + 1 : Nat) : Int))) (by simp only [drossref55_Clusters_l3, if_pos (lt_true hx), label_eq p h k, Option.bind_some, if_neg e', hw]), ih (k + 1) _ hd' hlt (by omega)]
      simp [labIDs, e]
end Go.Proofs.YtdmddoljldjjeaaGreat
/- Clusters of plans divide a valid table. -/
set_option linter.unusedVariables false
set_option linter.unusedSimpArgs false
namespace Go.Proofs.YtdmddoljldjjeaaGreat
open Go Go.Ab
def labC (t : Table) (p : Drossref55_Plan) (n : Nat) : List (List Int) := if (labIDs p n 0 t.Rows) = [] then [] else [labIDs p n 0 t.Rows]
def clustersOf (t : Table) (p : Drossref55_Plan) : List (List Int) := labC t p 0 ++ labC t p 1 ++ labC t p 2 ++ labC t p 3
theorem Clusters55_eq (t : Table) (p : Drossref55_Plan) (h : okDrossref55_Plan p) (ht : t.Rows.length ≤ 1048576) : drossref55_Clusters t p = some (clustersOf t p) := by
  have step : ∀ (n : Nat) (out : List (List Int)), n < 4 → out.length ≤ 4 → drossref55_Clusters_l4 t p (out, (n : Int)) = some (.next (out ++ labC t p n, ((n + 1 : Nat) : Int))) := by
    intro n out hn ho
    have h1 : (n : Int) < 4 := by omega
    have hl := lab_loop t p h n ht t.Rows 0 [] rfl (Nat.zero_le _) (Nat.zero_le _)
    simp only [Int.natCast_zero, List.nil_append] at hl
    have hroom : roomB (out.length + 1) 24 = true := room_le (by omega) (by omega)
    have hw : IntKind.u8.wrap ((n : Int) + 1) = ((n + 1 : Nat) : Int) := by
      have : n = 0 ∨ n = 1 ∨ n = 2 ∨ n = 3 := by omega
      rcases this with rfl | rfl | rfl | rfl <;> decide
    simp only [drossref55_Clusters_l4, if_pos h1, hl, Option.bind_some, hroom, if_true, hw]
    unfold labC
    by_cases e : labIDs p n 0 t.Rows = []
    · rw [if_pos e, e]; simp
    · have : (((labIDs p n 0 t.Rows).length : Nat) : Int) > 0 := by
        have := List.length_pos_iff.2 e
        omega
      rw [if_neg e, if_pos this]
  have lc : ∀ n, (labC t p n).length ≤ 1 := by intro n; unfold labC; split <;> simp
  have l0 := lc 0
  have l1 := lc 1
  have l2 := lc 2
  have s0 := step 0 [] (by omega) (by simp)
  have s1 := step 1 (labC t p 0) (by omega) (by omega)
  have s2 := step 2 (labC t p 0 ++ labC t p 1) (by omega) (by simp; omega)
  have s3 := step 3 (labC t p 0 ++ labC t p 1 ++ labC t p 2) (by omega) (by simp; omega)
  simp only [List.nil_append] at s0
  simp only [drossref55_Clusters]
  rw [show ((0 : Int)) = ((0 : Nat) : Int) from rfl, Loop_next s0, Loop_next s1, Loop_next s2, Loop_next s3, Loop_done (t := clustersOf t p) (by simp [drossref55_Clusters_l4, clustersOf])]
  rfl
end Go.Proofs.YtdmddoljldjjeaaGreat
/- Clusters of plans divide a valid table. -/
set_option linter.unusedVariables false
set_option linter.unusedSimpArgs false
namespace Go.Proofs.YtdmddoljldjjeaaGreat
open Go Go.Ab
theorem ascB_of {l : List Int} (hne : l ≠ []) (hp : l.Pairwise (· < ·)) : ascB l = true := by
  simp only [ascB, Bool.and_eq_true, decide_eq_true_eq]
  refine ⟨?_, List.length_pos_iff.2 hne⟩
  rw [allFrom_iff]
  intro j x hx
  rw [List.getElem?_drop] at hx
  obtain ⟨h1, h2⟩ := List.getElem?_eq_some_iff.1 hx
  rw [List.pairwise_iff_getElem] at hp
  have := hp j (1 + j) (by omega) h1 (by omega)
  rw [decide_eq_true_eq]
  have e : 1 + j - 1 = j := by omega
  rw [e, List.getD, List.getElem?_eq_getElem (by omega)]
  simp only [Option.getD_some]
  rw [← h2]; exact this
theorem labIDs_mem (p : Drossref55_Plan) (n : Nat) : ∀ (l : List Row) (k : Nat) (x : Int), x ∈ labIDs p n k l ↔ ∃ j r, l[j]? = some r ∧ lab p (k + j) = n ∧ r.ID = x
  | [], k, x => by simp [labIDs]
  | q :: l, k, x => by
    simp only [labIDs, List.mem_append, labIDs_mem p n l (k + 1) x]
    constructor
    · rintro (h | ⟨j, r, h1, h2, h3⟩)
      · by_cases e : lab p k = n
        · rw [if_pos e] at h
          exact ⟨0, q, rfl, e, (List.mem_singleton.1 h).symm⟩
        · rw [if_neg e] at h; cases h
      · exact ⟨j + 1, r, by simpa using h1, by rw [← h2]; congr 1; omega, h3⟩
    · rintro ⟨j, r, h1, h2, h3⟩
      cases j with
      | zero =>
        simp at h1; subst h1
        left
        rw [if_pos (by simpa using h2)]; simp [h3]
      | succ j =>
        right
        exact ⟨j, r, by simpa using h1, by rw [← h2]; congr 1; omega, h3⟩
theorem labIDs_pair (p : Drossref55_Plan) (n : Nat) : ∀ (l : List Row) (k : Nat), (l.map (·.ID)).Pairwise (· < ·) → (labIDs p n k l).Pairwise (· < ·)
  | [], k, _ => by simp [labIDs]
  | q :: l, k, h => by
    rw [List.map_cons, List.pairwise_cons] at h
    have ih := labIDs_pair p n l (k + 1) h.2
    simp only [labIDs]
    split
    · rw [List.singleton_append, List.pairwise_cons]
      refine ⟨fun y hy => ?_, ih⟩
      obtain ⟨j, r, h1, _, h3⟩ := (labIDs_mem p n l (k + 1) y).1 hy
      exact h.1 y (List.mem_map.2 ⟨r, List.mem_of_getElem? h1, h3⟩)
    · simpa using ih
theorem rowsCode_pair (n : Nat) : ∀ (l : List Row) (a : Int), rowsCode n a l = 0 → (l.map (·.ID)).Pairwise (· < ·)
  | [], _, _ => by simp
  | r :: l, a, h => by
    simp only [rowsCode] at h
    by_cases h1 : r.ID ≤ a
    · rw [if_pos h1] at h; cases h
    · rw [if_neg h1] at h
      by_cases h2 : r.Values.length = n
      · rw [if_neg (by simp [h2])] at h
        by_cases h3 : r.Values.all valid = true
        · rw [if_pos h3] at h
          rw [List.map_cons, List.pairwise_cons]
          refine ⟨fun y hy => ?_, rowsCode_pair n l r.ID h⟩
          obtain ⟨q, hq, rfl⟩ := List.mem_map.1 hy
          exact (rowsCode_valid n l r.ID h q hq).2
        · rw [if_neg h3] at h; cases h
      · rw [if_pos h2] at h; cases h
end Go.Proofs.YtdmddoljldjjeaaGreat
/- The composition of two mergings is a merging. -/
set_option linter.unusedVariables false
set_option linter.unusedSimpArgs false
namespace Go.Proofs.YtdmddoljldjjeaaGreat
open Go Go.Ab
theorem merges_parts {t : Table} {m : Merged} (ht : tableErr t = 0) (h : mergesB t m = true) : MF t m ∧ t.Name = m.Table.Name ∧ divA t m.Clusters = true ∧ (∀ (k : Nat), k < m.Origins.length → ∀ (j : Nat) (y : Int), (og m k)[j]? = some y → atID t y j = valAt m.Table k j) := by
  simp only [mergesB, Bool.and_eq_true, decide_eq_true_eq] at h
  obtain ⟨h1, h2, h3, h4, h5⟩ := h
  refine ⟨mf_of ht h1 h3 h4, h2, h4, fun k hk j y hy => ?_⟩
  rw [allFrom_iff] at h5
  have h6 := h5 k _ (get_og hk)
  unfold rowMer at h6
  rw [allFrom_iff] at h6
  have h7 := h6 j y hy
  rw [decide_eq_true_eq, Nat.zero_add, Nat.zero_add] at h7
  exact h7
theorem find_row {t : Table} (hv : tableErr t = 0) {k : Nat} {r : Row} (h : t.Rows[k]? = some r) : findB t r.ID = ((k : Int), true) := by
  have hm : r.ID ∈ ids t := List.mem_map.2 ⟨r, List.mem_of_getElem? h, rfl⟩
  obtain ⟨i, q, e1, e2, e3⟩ := findB_get t r.ID hm
  have hnd := (tableErr_zero hv).2
  have hi := lt_of_get e2
  have hk := lt_of_get h
  have : i = k := by
    rw [List.nodup_iff_pairwise_ne, List.pairwise_iff_getElem] at hnd
    rcases Nat.lt_trichotomy i k with hlt | heq | hlt
    · have := hnd i k (by simpa [ids] using hi) (by simpa [ids] using hk) hlt
      simp only [ids, List.getElem_map] at this
      rw [List.getElem?_eq_getElem hi] at e2; rw [List.getElem?_eq_getElem hk] at h
      rw [Option.some.inj e2, Option.some.inj h, e3] at this
      exact absurd rfl this
    · exact heq
    · have := hnd k i (by simpa [ids] using hk) (by simpa [ids] using hi) hlt
      simp only [ids, List.getElem_map] at this
      rw [List.getElem?_eq_getElem hi] at e2; rw [List.getElem?_eq_getElem hk] at h
      rw [Option.some.inj e2, Option.some.inj h, e3] at this
      exact absurd rfl this
  rw [e1, this]
/-- an ID of the first merged table: its row, its cluster, its origins -/
theorem id_facts {a b : Merged} (H : CA a b) {x : Int} (hx : x ∈ ids a.Table) : ∃ i : Nat, i < a.Table.Rows.length ∧ findB a.Table x = ((i : Int), true) ∧ clID a x = cl a i ∧ (clID a x).headD 0 = x ∧ ascB (clID a x) = true ∧ (∀ y ∈ og a i, y ∈ clID a x) ∧ (og a i).length = a.Table.Attrs.length := by
  obtain ⟨h1, h2, h3, h4, h5⟩ := wf_facts H.wa
  obtain ⟨i, r, e1, e2, e3⟩ := findB_get a.Table x hx
  have hi := lt_of_get e2
  have hf := h5 i r e2
  simp only [rowFits, Bool.and_eq_true, List.all_eq_true, decide_eq_true_eq] at hf
  have hc : clID a x = cl a i := by unfold clID; rw [e1]; rfl
  refine ⟨i, hi, e1, hc, by rw [hc, ← hf.1, e3], ?_, by rw [hc]; exact hf.2.2, hf.2.1⟩
  rw [hc]
  exact ((once_iff _ _).1 h4).1 _ (List.mem_of_getElem? (get_cl (by omega)))
theorem mem_cat {a : Merged} {xs : List Int} {z : Int} : z ∈ catC a xs ↔ ∃ y ∈ xs, z ∈ clID a y := by
  unfold catC
  simp only [List.mem_flatten, List.mem_map]
  constructor
  · rintro ⟨_, ⟨y, hy, rfl⟩, hz⟩; exact ⟨y, hy, hz⟩
  · rintro ⟨y, hy, hz⟩; exact ⟨_, ⟨y, hy, rfl⟩, hz⟩
theorem mem_comp {a : Merged} {xs : List Int} {z : Int} : z ∈ compC a xs ↔ ∃ y ∈ xs, z ∈ clID a y := by
  unfold compC
  rw [(srtI_perm _).mem_iff, mem_cat]
theorem clusters_perm {a b : Merged} (H : CA a b) : ((comp a b).Clusters.flatten).Perm a.Clusters.flatten := by
  obtain ⟨h1, h2, h3, h4, h5⟩ := wf_facts H.wa
  have M := H.mf
  have p1 : ∀ l : List (List Int), ((l.map (compC a)).flatten).Perm ((l.flatten.map (clID a)).flatten) := by
    intro l
    induction l with
    | nil => exact List.Perm.refl _
    | cons x l ih =>
      simp only [List.map_cons, List.flatten_cons, List.map_append, List.flatten_append]
      exact (srtI_perm _).append ih
  have p2 : b.Clusters.flatten.Perm (ids a.Table) := by
    refine (List.perm_ext_iff_of_nodup ?_ (tableErr_zero h1).2).2 fun x => (M.ids x).symm
    exact ((once_iff _ _).1 M.once).2.1
  have p3 : (ids a.Table).map (clID a) = a.Clusters := by
    apply List.ext_getElem?
    intro k
    rw [List.getElem?_map]
    unfold ids
    rw [List.getElem?_map]
    by_cases hk : k < a.Table.Rows.length
    · have hr := get_row hk
      rw [hr]
      simp only [Option.map_some]
      rw [get_cl (by omega)]
      congr 1
      unfold clID
      rw [find_row h1 hr]; rfl
    · rw [List.getElem?_eq_none (by omega), List.getElem?_eq_none (by omega)]; rfl
  refine (p1 b.Clusters).trans ?_
  have := (p2.map (clID a)).flatten
  rw [p3] at this
  exact this
theorem comp_asc {a b : Merged} (H : CA a b) {x : List Int} (hx : x ∈ b.Clusters) : ascB (compC a x) = true ∧ (compC a x).headD 0 = x.headD 0 := by
  obtain ⟨h1, h2, h3, h4, h5⟩ := wf_facts H.wa
  have M := H.mf
  obtain ⟨c1, c2⟩ := cl_ids H hx
  have hxa := ((once_iff _ _).1 M.once).1 x hx
  obtain ⟨hd1, hd2⟩ := asc_head hxa
  obtain ⟨i, _, _, _, f4, f5, _⟩ := id_facts H (c2 _ hd1)
  have hin : x.headD 0 ∈ compC a x := mem_comp.2 ⟨_, hd1, by have := (asc_head f5).1; rw [f4] at this; exact this⟩
  have hnd : (comp a b).Clusters.flatten.Nodup := (clusters_perm H).nodup_iff.2 ((once_iff _ _).1 h4).2.1
  have hnx : (compC a x).Nodup := by
    rw [List.nodup_iff_pairwise_ne, List.pairwise_flatten] at hnd
    rw [List.nodup_iff_pairwise_ne]
    exact hnd.1 _ (List.mem_map.2 ⟨x, hx, rfl⟩)
  have hasc : ascB (compC a x) = true := by
    refine ascB_of (fun e => by rw [e] at hin; cases hin) ?_
    rw [List.nodup_iff_pairwise_ne] at hnx
    exact ((srtI_sorted (catC a x)).and hnx).imp (fun h => by omega)
  refine ⟨hasc, ?_⟩
  obtain ⟨g1, g2⟩ := asc_head hasc
  have hle := g2 _ hin
  obtain ⟨y, hy, hz⟩ := mem_comp.1 g1
  obtain ⟨_, _, _, _, q4, q5, _⟩ := id_facts H (c2 y hy)
  have := (asc_head q5).2 _ hz
  rw [q4] at this
  have := hd2 y hy
  omega
theorem comp_merges {t : Table} {a b : Merged} (ht : tableErr t = 0) (H : CA a b) (hta : mergesB t a = true) : mergesB t (comp a b) = true := by
  obtain ⟨h1, h2, h3, h4, h5⟩ := wf_facts H.wa
  have M := H.mf
  obtain ⟨Ma, na, da, va⟩ := merges_parts ht hta
  obtain ⟨_, nb, db, vb⟩ := merges_parts h1 H.mb
  have hp := clusters_perm H
  have honce : onceB [] (comp a b).Clusters = true := by
    refine (once_iff _ _).2 ⟨fun c hc => ?_, hp.nodup_iff.2 ((once_iff _ _).1 h4).2.1, fun x _ => by simp⟩
    obtain ⟨x, hx, rfl⟩ := List.mem_map.1 hc
    exact (comp_asc H hx).1
  have hcl : ∀ k, k < b.Clusters.length → cl (comp a b) k = compC a (cl b k) := by
    intro k hk
    simp [cl, comp, List.getD, List.getElem?_eq_getElem hk]
  have hog : ∀ k, k < b.Origins.length → og (comp a b) k = orgC a 0 (og b k) := by
    intro k hk
    simp [og, comp, List.getD, List.getElem?_eq_getElem hk]
  have hncl := M.ncl
  have hnor := M.nor
  -- a cell of an origin
  have hcell : ∀ (k j : Nat) (y : Int), k < b.Table.Rows.length → (orgC a 0 (og b k))[j]? = some y → ∃ (id : Int) (i : Nat), (og b k)[j]? = some id ∧ id ∈ ids a.Table ∧ id ∈ cl b k ∧ findB a.Table id = ((i : Int), true) ∧ i < a.Table.Rows.length ∧ (og a i)[j]? = some y ∧ y ∈ clID a id := by
    intro k j y hk hy
    rw [orgC_get] at hy
    cases hid : (og b k)[j]? with
    | none => rw [hid] at hy; cases hy
    | some id =>
      rw [hid] at hy
      simp only [Option.map_some, Option.some.injEq, Nat.zero_add] at hy
      have hmem := List.mem_of_getElem? hid
      obtain ⟨ol, oi⟩ := og_len M hk
      have hids := oi id hmem
      obtain ⟨i, f1, f2, f3, f4, f5, f6, f7⟩ := id_facts H hids
      have hjl : j < (og a i).length := by rw [f7, M.attrs, ← ol]; exact lt_of_get hid
      have hyi : (og a i)[j]? = some y := by
        rw [← hy]
        unfold ogID
        rw [f2]
        simp only [Int.toNat_natCast]
        rw [List.getD_eq_getElem?_getD, List.getElem?_eq_getElem hjl]; rfl
      have hf := M.fits k _ (get_row hk)
      simp only [rowFits, Bool.and_eq_true, List.all_eq_true, decide_eq_true_eq] at hf
      exact ⟨id, i, rfl, hids, hf.2.2 id hmem, f2, f1, hyi, f6 _ (List.mem_of_getElem? hyi)⟩
  have hwf : wfB (comp a b) = true := by
    simp only [wfB, Bool.and_eq_true, decide_eq_true_eq]
    refine ⟨M.mv, by simp only [comp, List.length_map]; exact hncl, by simp only [comp, List.length_map]; exact hnor, honce, ?_⟩
    rw [allFrom_iff]
    intro k r hr
    rw [Nat.zero_add]
    have hr' : b.Table.Rows[k]? = some r := hr
    have hk := lt_of_get hr'
    have hf := M.fits k r hr'
    simp only [rowFits, Bool.and_eq_true, List.all_eq_true, decide_eq_true_eq] at hf ⊢
    have hm := List.mem_of_getElem? (get_cl (m := b) (k := k) (by omega))
    rw [hcl k (by omega), hog k (by omega)]
    refine ⟨by rw [(comp_asc H hm).2]; exact hf.1, by rw [orgC_len]; exact hf.2.1, fun y hy => ?_⟩
    obtain ⟨j, hj, rfl⟩ := List.getElem_of_mem hy
    obtain ⟨id, i, g1, g2, g3, g4, g5, g6, g7⟩ := hcell k j _ hk (List.getElem?_eq_getElem hj)
    exact mem_comp.2 ⟨id, g3, g7⟩
  simp only [divA, Bool.and_eq_true, List.all_eq_true, decide_eq_true_eq] at da
  simp only [mergesB, Bool.and_eq_true, decide_eq_true_eq]
  refine ⟨hwf, by rw [na, nb]; rfl, by rw [Ma.attrs, M.attrs]; rfl, ?_, ?_⟩
  · simp only [divA, Bool.and_eq_true, List.all_eq_true, decide_eq_true_eq]
    exact ⟨honce, by rw [hp.length_eq]; exact da.2.1, fun x hx => hp.mem_iff.2 (da.2.2 x hx)⟩
  · rw [allFrom_iff]
    intro k x hx
    have hk : k < b.Origins.length := by have := lt_of_get hx; simpa [comp] using this
    obtain rfl := get_og' hx
    rw [hog k hk, Nat.zero_add]
    unfold rowMer
    rw [allFrom_iff]
    intro j y hy
    obtain ⟨id, i, g1, g2, g3, g4, g5, g6, g7⟩ := hcell k j y (by omega) hy
    rw [Nat.zero_add, decide_eq_true_eq]
    have e1 := va i (by have := Ma.nor; omega) j y g6
    have e2 := vb k hk j id g1
    rw [e1, show (comp a b).Table = b.Table from rfl, ← e2]
    unfold atID
    rw [g4]; rfl
end Go.Proofs.YtdmddoljldjjeaaGreat
/- Clusters of plans divide a valid table: divA. -/
set_option linter.unusedVariables false
set_option linter.unusedSimpArgs false
namespace Go.Proofs.YtdmddoljldjjeaaGreat
open Go Go.Ab
theorem labC_mem (t : Table) (p : Drossref55_Plan) (n : Nat) (x : Int) : x ∈ (labC t p n).flatten ↔ x ∈ labIDs p n 0 t.Rows := by
  unfold labC
  split
  · rename_i e; rw [e]; simp
  · simp
theorem lab_lt (p : Drossref55_Plan) (i : Nat) : lab p i < 4 := by unfold lab; split <;> omega
theorem clusters_div {t : Table} (hv : tableErr t = 0) (p : Drossref55_Plan) : divA t (clustersOf t p) = true := by
  have hpair := rowsCode_pair _ _ _ (tableErr_code hv)
  have hnd := (tableErr_zero hv).2
  have hpl : ∀ n, (labIDs p n 0 t.Rows).Pairwise (· < ·) := fun n => labIDs_pair p n t.Rows 0 hpair
  have hasc : ∀ n, ∀ c ∈ labC t p n, ascB c = true := by
    intro n c hc
    unfold labC at hc
    split at hc
    · cases hc
    · rename_i e
      rw [List.mem_singleton] at hc; subst hc
      exact ascB_of e (hpl n)
  have hndl : ∀ n, (labC t p n).flatten.Nodup := by
    intro n
    unfold labC
    split
    · simp
    · simp only [List.flatten_cons, List.flatten_nil, List.append_nil]
      rw [List.nodup_iff_pairwise_ne]
      exact (hpl n).imp (fun h => by omega)
  have hdis : ∀ n m x, x ∈ (labC t p n).flatten → x ∈ (labC t p m).flatten → n = m := by
    intro n m x h1 h2
    rw [labC_mem, labIDs_mem] at h1 h2
    obtain ⟨j, r, a1, a2, a3⟩ := h1
    obtain ⟨j', r', b1, b2, b3⟩ := h2
    have hj : j = j' := by
      obtain ⟨c1, c2⟩ := List.getElem?_eq_some_iff.1 a1
      obtain ⟨d1, d2⟩ := List.getElem?_eq_some_iff.1 b1
      have hp' := List.pairwise_iff_getElem.1 hpair
      rcases Nat.lt_trichotomy j j' with h | h | h
      · have := hp' j j' (by simpa using c1) (by simpa using d1) h
        simp only [List.getElem_map, c2, d2] at this
        omega
      · exact h
      · have := hp' j' j (by simpa using d1) (by simpa using c1) h
        simp only [List.getElem_map, c2, d2] at this
        omega
    subst hj
    omega
  have hfl : (clustersOf t p).flatten = (labC t p 0).flatten ++ (labC t p 1).flatten ++ (labC t p 2).flatten ++ (labC t p 3).flatten := by
    simp [clustersOf]
  have hnodup : (clustersOf t p).flatten.Nodup := by
    rw [hfl, List.nodup_append, List.nodup_append, List.nodup_append]
    refine ⟨⟨⟨hndl 0, hndl 1, ?_⟩, hndl 2, ?_⟩, hndl 3, ?_⟩
    · intro a ha b hb e; subst e; have := hdis 0 1 a ha hb; omega
    · intro a ha b hb e; subst e
      rcases List.mem_append.1 ha with h | h
      · have := hdis 0 2 a h hb; omega
      · have := hdis 1 2 a h hb; omega
    · intro a ha b hb e; subst e
      rcases List.mem_append.1 ha with h | h
      · rcases List.mem_append.1 h with h | h
        · have := hdis 0 3 a h hb; omega
        · have := hdis 1 3 a h hb; omega
      · have := hdis 2 3 a h hb; omega
  have hmem : ∀ x, x ∈ (clustersOf t p).flatten ↔ x ∈ ids t := by
    intro x
    rw [hfl, List.mem_append, List.mem_append, List.mem_append, labC_mem, labC_mem, labC_mem, labC_mem, labIDs_mem, labIDs_mem, labIDs_mem, labIDs_mem]
    constructor
    · have k : ∀ n, (∃ j r, t.Rows[j]? = some r ∧ lab p (0 + j) = n ∧ r.ID = x) → x ∈ ids t := by
        rintro n ⟨j, r, a1, _, a3⟩
        exact List.mem_map.2 ⟨r, List.mem_of_getElem? a1, a3⟩
      rintro (((h | h) | h) | h) <;> exact k _ h
    · intro h
      obtain ⟨r, hr, he⟩ := List.mem_map.1 h
      obtain ⟨j, hj, rfl⟩ := List.getElem_of_mem hr
      have hl := lab_lt p (0 + j)
      have hx : ∃ j' r', t.Rows[j']? = some r' ∧ lab p (0 + j') = lab p (0 + j) ∧ r'.ID = x := ⟨j, _, List.getElem?_eq_getElem hj, rfl, he⟩
      have : lab p (0 + j) = 0 ∨ lab p (0 + j) = 1 ∨ lab p (0 + j) = 2 ∨ lab p (0 + j) = 3 := by omega
      rcases this with e | e | e | e <;> rw [e] at hx
      · exact .inl (.inl (.inl hx))
      · exact .inl (.inl (.inr hx))
      · exact .inl (.inr hx)
      · exact .inr hx
  simp only [divA, Bool.and_eq_true, List.all_eq_true, decide_eq_true_eq]
  refine ⟨(once_iff _ _).2 ⟨fun c hc => ?_, hnodup, fun x _ => by simp⟩, ?_, fun x hx => (hmem x).2 hx⟩
  · unfold clustersOf at hc
    rcases List.mem_append.1 hc with h | h
    · rcases List.mem_append.1 h with h | h
      · rcases List.mem_append.1 h with h | h
        · exact hasc 0 c h
        · exact hasc 1 c h
      · exact hasc 2 c h
    · exact hasc 3 c h
  · have h1 := nodup_sub_len hnodup (fun x hx => (hmem x).1 hx)
    have h2 := nodup_sub_len hnd (fun x hx => (hmem x).2 hx)
    have h3 : (ids t).length = t.Rows.length := by simp [ids]
    omega
theorem clustersOf_len (t : Table) (p : Drossref55_Plan) : (clustersOf t p).length ≤ 4 := by
  have lc : ∀ n, (labC t p n).length ≤ 1 := by intro n; unfold labC; split <;> simp
  have l0 := lc 0
  have l1 := lc 1
  have l2 := lc 2
  have l3 := lc 3
  simp only [clustersOf, List.length_append]; omega
end Go.Proofs.YtdmddoljldjjeaaGreat
/- What is sorted stays as it is. -/
set_option linter.unusedVariables false
set_option linter.unusedSimpArgs false
namespace Go.Proofs.YtdmddoljldjjeaaGreat
open Go Go.Ab
end Go.Proofs.YtdmddoljldjjeaaGreat
/- A cluster for each row alone. -/
set_option linter.unusedVariables false
set_option linter.unusedSimpArgs false
namespace Go.Proofs.YtdmddoljldjjeaaGreat
open Go Go.Ab
def alone (t : Table) : List (List Int) := t.Rows.map fun r => [r.ID]
end Go.Proofs.YtdmddoljldjjeaaGreat
/- The cells that a merging loses. -/
set_option linter.unusedVariables false
set_option linter.unusedSimpArgs false
namespace Go.Proofs.YtdmddoljldjjeaaGreat
open Go Go.Ab
/-- the lost cells of a row: those that hold a value other than the merged row -/
def cellsOf (mr : List Value) (id : Int) : Nat → List Value → List CellRef
  | _, [] => []
  | k, v :: l => (if v.Kind ≠ 0 ∧ v ≠ mr.getD k ⟨0, 0, []⟩ then [⟨id, (k : Int)⟩] else []) ++ cellsOf mr id (k + 1) l
/-! ### the map from IDs to clusters -/
/-! ### the cells of one row -/
/-! ### all rows -/
end Go.Proofs.YtdmddoljldjjeaaGreat
/- SurvivorLost answers true. -/
set_option linter.unusedVariables false
set_option linter.unusedSimpArgs false
namespace Go.Proofs.YtdmddoljldjjeaaGreat
open Go Go.Ab
end Go.Proofs.YtdmddoljldjjeaaGreat
/- The merged table for a cluster for each row alone is the table; nothing is lost. -/
set_option linter.unusedVariables false
set_option linter.unusedSimpArgs false
namespace Go.Proofs.YtdmddoljldjjeaaGreat
open Go Go.Ab
theorem merOk_mtab {t : Table} {rules : List Int} {l : List (List Int)} (A : TabArgs t rules l) (ha : t.Attrs.length ≤ 1048576) : MerOk (mtab t rules l) := by
  have B := mb_mtab A
  have hcl := A.cl
  have hrs := A.rs
  have hlen : ∀ x, (mergedV (keepR t x) rules).1.length = rules.length ∧ (mergedV (keepR t x) rules).2.length = rules.length := fun x => by
    have h := mergedV_len (keepR t x) rules ([], [])
    simp only [List.length_nil, Nat.zero_add] at h
    exact h
  refine ⟨⟨B.na, B.nr, B.nv, B.sh⟩, ha, by simp only [mtab, List.length_map]; omega, by simp only [mtab]; omega, fun c hc => A.len c hc, by simp only [mtab, List.length_map]; omega, ?_⟩
  intro c hc
  obtain ⟨x, hx, rfl⟩ := List.mem_map.1 hc
  show (mergedV (keepR t x) rules).2.length ≤ _
  rw [(hlen x).2]; omega
end Go.Proofs.YtdmddoljldjjeaaGreat
/- SurvivorTable answers true. -/
set_option linter.unusedVariables false
set_option linter.unusedSimpArgs false
namespace Go.Proofs.YtdmddoljldjjeaaGreat
open Go Go.Ab
end Go.Proofs.YtdmddoljldjjeaaGreat
/- SurvivorMerging answers true. -/
set_option linter.unusedVariables false
set_option linter.unusedSimpArgs false
namespace Go.Proofs.YtdmddoljldjjeaaGreat
open Go Go.Ab
theorem wide_ok (x : Drossref03_Recipe) (n : Nat) (hn : n ≤ 8) (hr : x.Rows.length ≤ 8) : TabOk (wide x n) ∧ (wide x n).Rows.length ≤ 8 ∧ (wide x n).Attrs.length ≤ 8 ∧ (∀ r ∈ (wide x n).Rows, r.Values.length ≤ 8) := by
  have ha : (wide x n).Attrs.length ≤ 8 := by simp [wide, wnames]; omega
  have hrl : (wide x n).Rows.length ≤ 8 := by simp [wide]; omega
  have hv : ∀ r ∈ (wide x n).Rows, r.Values.length ≤ 8 := by
    intro r h
    obtain ⟨i, _, rfl⟩ := List.mem_map.1 h
    simp [wrow]; omega
  refine ⟨⟨by omega, by omega, fun r h => by have := hv r h; omega, ?_⟩, hrl, ha, hv⟩
  intro r h v hv'
  obtain ⟨i, _, rfl⟩ := List.mem_map.1 h
  obtain ⟨k, _, rfl⟩ := List.mem_map.1 hv'
  have := (ofV_eq ((x.Rows.getD i []).getD k 0)).2.2
  unfold wval; omega
theorem tb_plain {t : Table} {cs : List (List Int)} {rules : List Int} (T : TabOk t) (h1 : t.Rows.length ≤ 8) (hv : ∀ r ∈ t.Rows, r.Values.length ≤ 8) (hc : cs.length ≤ 12) (hl : ∀ c ∈ cs, c.length ≤ 1048576) (hr : rules.length ≤ 1048576) : TB t cs rules :=
  ⟨T, by omega, fun r h => by have := hv r h; omega, hc, hl, hr⟩
theorem div_len {t : Table} {cs : List (List Int)} (hd : divA t cs = true) (hn : t.Rows.length ≤ 8) : ∀ c ∈ cs, c.length ≤ 1048576 := by
  intro c hc
  simp only [divA, Bool.and_eq_true, decide_eq_true_eq] at hd
  have h2 : c.length ≤ cs.flatten.length := by
    obtain ⟨a, b, rfl⟩ := List.append_of_mem hc
    simp only [List.flatten_append, List.flatten_cons, List.length_append]
    omega
  omega
theorem Table_good {t : Table} {cs : List (List Int)} {rules : List Int} (B : TB t cs rules) (hv : tableErr t = 0) (h2 : rules.length = t.Attrs.length) (h3 : rules.all okRule = true) (h4 : divA t cs = true) : tableB t cs rules = (mtab t rules (sorted cs), 0) := by
  unfold tableB
  rw [if_neg (by simp [hv]), if_neg (by simp [h2]), if_neg (by simp [h3]), if_neg (by simp [h4])]
end Go.Proofs.YtdmddoljldjjeaaGreat
/- SurvivorSteps answers true. -/
set_option linter.unusedVariables false
set_option linter.unusedSimpArgs false
namespace Go.Proofs.YtdmddoljldjjeaaGreat
open Go Go.Ab
theorem SurvivorSteps_holds (x : Drossref03_Recipe) (p q : Drossref55_Plan) (h : okDrossref03_Recipe x) (hp : okDrossref55_Plan p) (hq : okDrossref55_Plan q) : drosslaw55_SurvivorSteps x p q = some true := by
  by_cases hr : x.Rows.length ≤ 8
  · have hx6 : x.Attrs.toNat % 6 ≤ 8 := by omega
    generalize hn : x.Attrs.toNat % 6 = n at hx6
    have hT := Table03_eq x h hr
    rw [hn] at hT
    obtain ⟨T, hrl, hal, hvl⟩ := wide_ok x n hx6 hr
    have hv := wide_valid x n hx6 hr
    generalize ht : wide x n = t at hT T hrl hal hvl hv
    -- the first merging
    obtain ⟨g1, g2⟩ := rulesOf_ok t p
    have hd := clusters_div hv p
    have hcl := clustersOf_len t p
    have B : TB t (clustersOf t p) (rulesOf t p) := tb_plain T hrl hvl (by omega) (div_len hd hrl) (by omega)
    have hTab := (Table_eq t _ _ B).1
    rw [Table_good B hv g1 g2 hd] at hTab
    have A := tabArgs B hv g1 g2 hd
    have MO := merOk_mtab A (by omega)
    have hmer := mtab_merges B hv g1 g2 hd
    have hsl := (sorted_ok (by omega) hd).2.2.length_eq
    have hta : (mtab t (rulesOf t p) (sorted (clustersOf t p))).Table.Attrs = t.Attrs := rfl
    have hra : (mtab t (rulesOf t p) (sorted (clustersOf t p))).Table.Rows.length ≤ 8 := by simp only [mtab, List.length_map]; omega
    have hva : ∀ r ∈ (mtab t (rulesOf t p) (sorted (clustersOf t p))).Table.Rows, r.Values.length ≤ 8 := by
      intro r hr
      obtain ⟨y, _, rfl⟩ := List.mem_map.1 hr
      rw [(morg_len t (rulesOf t p) y).2]; omega
    generalize mtab t (rulesOf t p) (sorted (clustersOf t p)) = a at hTab MO hmer hta hra hva
    have hmer' := hmer
    simp only [mergesB, Bool.and_eq_true] at hmer'
    have hva0 := (wf_facts hmer'.1).1
    -- the second one
    obtain ⟨k1, k2⟩ := rulesOf_ok t q
    have hd2 := clusters_div hva0 q
    have hcl2 := clustersOf_len a.Table q
    have B2 : TB a.Table (clustersOf a.Table q) (rulesOf t q) := tb_plain MO.tab hra hva (by omega) (div_len hd2 hra) (by omega)
    have hTab2 := (Table_eq a.Table _ _ B2).1
    rw [Table_good B2 hva0 (by rw [hta]; exact k1) k2 hd2] at hTab2
    have A2 := tabArgs B2 hva0 (by rw [hta]; exact k1) k2 hd2
    have MO2 := merOk_mtab A2 (by rw [hta]; omega)
    have hmer2 := mtab_merges B2 hva0 (by rw [hta]; exact k1) k2 hd2
    have hvb : ∀ r ∈ (mtab a.Table (rulesOf t q) (sorted (clustersOf a.Table q))).Table.Rows, r.Values.length ≤ 1048576 := by
      intro r hr
      obtain ⟨y, _, rfl⟩ := List.mem_map.1 hr
      rw [(morg_len a.Table (rulesOf t q) y).2]; omega
    generalize mtab a.Table (rulesOf t q) (sorted (clustersOf a.Table q)) = b at hTab2 MO2 hmer2 hvb
    -- both
    have H : CA a b := ⟨MO, MO2, hmer'.1, hmer2, hra⟩
    have hC := (Compose_eq MO MO2 hra hvb).1
    unfold compB at hC
    rw [if_pos ⟨hmer'.1, hmer2⟩] at hC
    have hcm := comp_merges hv H hmer
    have hcm' := hcm
    simp only [mergesB, Bool.and_eq_true, decide_eq_true_eq] at hcm'
    have MOc : MerOk (comp a b) := by
      have hm := mb_comp H
      refine ⟨MO2.tab, MO2.nattrs, MO2.nrows, by simp only [comp, List.length_map]; exact MO2.ncl, div_len hcm'.2.2.2.1 hrl, by simp only [comp, List.length_map]; exact MO2.nor, ?_⟩
      intro c hc
      obtain ⟨y, hy, rfl⟩ := List.mem_map.1 hc
      rw [orgC_len]; exact MO2.lor y hy
    have hM := (merges_eq t (comp a b) hv MOc T T.attrs).2
    rw [hcm] at hM
    have hE := Equal_eq (comp a b).Table b.Table MOc.tab.attrs MOc.tab.rows MOc.tab.vals MOc.tab.short
    rw [show (comp a b).Table = b.Table from rfl] at hE
    simp only [drosslaw55_SurvivorSteps, awake_true, hT, Option.bind_some, if_true, Bool.not_true, Bool.false_eq_true, if_false, List55_eq t p (show t.Attrs.length ≤ 1048576 by omega) hp, Clusters55_eq t p hp (show t.Rows.length ≤ 1048576 by omega), hTab,
      Clusters55_eq a.Table q hq (show a.Table.Rows.length ≤ 1048576 by omega), List55_eq t q (show t.Attrs.length ≤ 1048576 by omega) hq, hTab2, hC, beq_self_eq_true, hM, hE, show (comp a b).Table = b.Table from rfl, decide_true]
  · have hT : drossref03_Table x 8 = some (⟨[], [], []⟩, false) := by
      have : (x.Rows.length : Int) > 8 := by omega
      simp [drossref03_Table, this]
    simp only [drosslaw55_SurvivorSteps, hT, awake_true, Option.bind_some, if_true, Bool.not_false]
end Go.Proofs.YtdmddoljldjjeaaGreat
