/- The Lean functions that the program's functions are lifted to, and the plain laws about them. -/
import Derived.Test.YtdmddoljldjjeaaGreatL1
/- Merging: both ways agree; what it gives. -/
set_option linter.unusedVariables false
set_option linter.unusedSimpArgs false
namespace Go.Proofs.YtdmddoljldjjeaaGreat
open Go Go.Ab
def rowV (t : Table) (i : Nat) : List Value := (t.Rows.getD i ⟨0, []⟩).Values
def valAt (t : Table) (i j : Nat) : Value := (rowV t i).getD j ⟨0, 0, []⟩
/-- the value that a table holds at an ID and a column -/
def atID (t : Table) (id : Int) (j : Nat) : Value := valAt t (findB t id).1.toNat j
def rowMer (t m : Table) (og : List Int) (k : Nat) : Bool := allFrom (fun j x => decide (atID t x j = valAt m k j)) 0 og
def mergesB (t : Table) (m : Merged) : Bool :=
  wfB m && (decide (t.Name = m.Table.Name) && (decide (t.Attrs = m.Table.Attrs) && (divA t m.Clusters && allFrom (fun k x => rowMer t m.Table x k) 0 m.Origins)))
theorem get_row {t : Table} {k : Nat} (h : k < t.Rows.length) : t.Rows[k]? = some (t.Rows.getD k ⟨0, []⟩) := by simp [List.getD, List.getElem?_eq_getElem h]
theorem get_val {t : Table} {k j : Nat} (h : j < (rowV t k).length) : (t.Rows.getD k ⟨0, []⟩).Values[j]? = some (valAt t k j) := by
  unfold valAt
  show (rowV t k)[j]? = _
  rw [List.getElem?_eq_getElem h, List.getD, List.getElem?_eq_getElem h]; rfl
theorem rowV_len {t : Table} (h : tableErr t = 0) {k : Nat} (hk : k < t.Rows.length) : (rowV t k).length = t.Attrs.length :=
  (tableErr_zero h).1 _ (List.mem_of_getElem? (get_row hk))
structure MF (t : Table) (m : Merged) : Prop where
  tv : tableErr t = 0
  mv : tableErr m.Table = 0
  ncl : m.Clusters.length = m.Table.Rows.length
  nor : m.Origins.length = m.Table.Rows.length
  once : onceB [] m.Clusters = true
  fits : ∀ (k : Nat) (r : Row), m.Table.Rows[k]? = some r → rowFits m k r = true
  attrs : t.Attrs = m.Table.Attrs
  ids : ∀ x, x ∈ ids t ↔ x ∈ m.Clusters.flatten
theorem mf_of {t : Table} {m : Merged} (ht : tableErr t = 0) (hw : wfB m = true) (ha : t.Attrs = m.Table.Attrs) (hd : divA t m.Clusters = true) : MF t m := by
  obtain ⟨h1, h2, h3, h4, h5⟩ := wf_facts hw
  refine ⟨ht, h1, h2, h3, h4, h5, ha, fun x => ?_⟩
  have hd' : divB t m.Clusters = true := by rw [← div_same ht]; exact hd
  simp only [divA, divB, Bool.and_eq_true, List.all_eq_true, decide_eq_true_eq] at hd hd'
  exact ⟨hd.2.2 x, hd'.2.2 x⟩
theorem og_len {t : Table} {m : Merged} (M : MF t m) {k : Nat} (hk : k < m.Table.Rows.length) : (og m k).length = m.Table.Attrs.length ∧ ∀ x ∈ og m k, x ∈ ids t := by
  have := M.fits k _ (get_row hk)
  simp only [rowFits, Bool.and_eq_true, List.all_eq_true, decide_eq_true_eq] at this
  refine ⟨this.2.1, fun x hx => (M.ids x).2 ?_⟩
  have hc := get_cl (m := m) (k := k) (by have := M.ncl; omega)
  exact List.mem_flatten.2 ⟨_, List.mem_of_getElem? hc, this.2.2 x hx⟩
theorem id_get {t : Table} (h : tableErr t = 0) {x : Int} (hx : x ∈ ids t) : ∃ i : Nat, (findB t x).1 = (i : Int) ∧ t.Rows[i]? = some (t.Rows.getD i ⟨0, []⟩) ∧ (rowV t i).length = t.Attrs.length ∧ ∀ j, atID t x j = valAt t i j := by
  obtain ⟨i, r, h1, h2, h3⟩ := findB_get t x hx
  have hi := lt_of_get h2
  exact ⟨i, by rw [h1], get_row hi, rowV_len h hi, fun j => by unfold atID; rw [h1]; rfl⟩

theorem merges_row {t : Table} {m : Merged} (M : MF t m) (H : MerOk m) (T : TabOk t) (k : Nat) (hk : k < m.Table.Rows.length) :
    LoopF (survivor_merges_l3 t m k (m.Table.Rows.getD k ⟨0, []⟩)) 0 = some (if rowMer t m.Table (og m k) k then .inl () else .inr false) ∧
    LoopF (drossref55_Merging_l3 t m k) 0 = some (if rowMer t m.Table (og m k) k then .inl () else .inr false) := by
  obtain ⟨ho1, ho2⟩ := og_len M hk
  have ho := get_og (m := m) (k := k) (by have := M.nor; omega)
  have hlen : (rowV m.Table k).length = (og m k).length := by rw [rowV_len M.mv hk, ho1]
  have hL := H.lor _ (List.mem_of_getElem? ho)
  have hA := M.attrs
  have hrl : (m.Table.Rows.getD k ⟨0, []⟩).Values.length = (og m k).length := hlen
  refine ⟨?_, ?_⟩
  · have h := LoopF_allk (og m k) (survivor_merges_l3 t m k (m.Table.Rows.getD k ⟨0, []⟩)) (fun j x => decide (atID t x j = valAt m.Table k j)) false
      (fun j x hj hjk hp => by
        obtain ⟨i, e1, e2, e3, e4⟩ := id_get M.tv (ho2 x (List.mem_of_getElem? hj))
        simp only [decide_eq_true_eq] at hp
        have g1 := get_val (t := m.Table) (k := k) (j := j) (by omega)
        have g2 := get_val (t := t) (k := i) (j := j) (by rw [e3, hA, ← ho1]; exact hjk)
        rw [← e4 j] at g2
        have hv : ((atID t x j).Kind == (valAt m.Table k j).Kind && ((atID t x j).Num == (valAt m.Table k j).Num && (atID t x j).Str == (valAt m.Table k j).Str)) = true := (veq_iff _ _).2 hp
        have hlt : (j : Int) < (((m.Table.Rows.getD k ⟨0, []⟩).Values.length : Nat) : Int) := by omega
        simp only [survivor_merges_l3, if_pos hlt, idx_get g1, idx_get ho, idx_get hj, Option.bind_some, table_Find_eq t x T.rows, e1, idx_get e2, idx_get g2, if_pos hv, wrap_succ hjk (show (og m k).length ≤ 4611686018427387904 by omega)])
      (fun j x hj hp => by
        obtain ⟨i, e1, e2, e3, e4⟩ := id_get M.tv (ho2 x (List.mem_of_getElem? hj))
        have hjk := lt_of_get hj
        simp only [decide_eq_false_iff_not] at hp
        have g1 := get_val (t := m.Table) (k := k) (j := j) (by omega)
        have g2 := get_val (t := t) (k := i) (j := j) (by rw [e3, hA, ← ho1]; exact hjk)
        rw [← e4 j] at g2
        have hv : ¬ (((atID t x j).Kind == (valAt m.Table k j).Kind && ((atID t x j).Num == (valAt m.Table k j).Num && (atID t x j).Str == (valAt m.Table k j).Str)) = true) := fun e => hp ((veq_iff _ _).1 e)
        have hlt : (j : Int) < (((m.Table.Rows.getD k ⟨0, []⟩).Values.length : Nat) : Int) := by omega
        simp only [survivor_merges_l3, if_pos hlt, idx_get g1, idx_get ho, idx_get hj, Option.bind_some, table_Find_eq t x T.rows, e1, idx_get e2, idx_get g2, if_neg hv])
      (by
        have : ¬ (((og m k).length : Int) < (((m.Table.Rows.getD k ⟨0, []⟩).Values.length : Nat) : Int)) := by omega
        simp only [survivor_merges_l3, if_neg this]) (og m k) 0 rfl (Nat.zero_le _)
    simp only [Int.natCast_zero] at h
    exact h
  · have h := LoopF_allk (og m k) (drossref55_Merging_l3 t m k) (fun j x => decide (atID t x j = valAt m.Table k j)) false
      (fun j x hj hjk hp => by
        obtain ⟨i, e1, e2, e3, e4⟩ := id_get M.tv (ho2 x (List.mem_of_getElem? hj))
        simp only [decide_eq_true_eq] at hp
        have g1 := get_val (t := m.Table) (k := k) (j := j) (by omega)
        have g2 := get_val (t := t) (k := i) (j := j) (by rw [e3, hA, ← ho1]; exact hjk)
        rw [← e4 j] at g2
        have hs := T.short _ (List.mem_of_getElem? e2) _ (List.mem_of_getElem? g2)
        have hv : ¬ ((vcmp (atID t x j) (valAt m.Table k j) != 0) = true) := by rw [hp]; simp [(vcmp_eq _ _).2 rfl]
        simp only [drossref55_Merging_l3, if_pos (lt_true hj), idx_get g1, idx_get ho, idx_get hj, Option.bind_some, ref_Find_eq t x T.rows, e1, idx_get e2, idx_get g2, idx_get (get_row hk), ref_Compare_eq _ _ hs, if_neg hv, wrap_succ hjk (show (og m k).length ≤ 4611686018427387904 by omega)])
      (fun j x hj hp => by
        obtain ⟨i, e1, e2, e3, e4⟩ := id_get M.tv (ho2 x (List.mem_of_getElem? hj))
        have hjk := lt_of_get hj
        simp only [decide_eq_false_iff_not] at hp
        have g1 := get_val (t := m.Table) (k := k) (j := j) (by omega)
        have g2 := get_val (t := t) (k := i) (j := j) (by rw [e3, hA, ← ho1]; exact hjk)
        rw [← e4 j] at g2
        have hs := T.short _ (List.mem_of_getElem? e2) _ (List.mem_of_getElem? g2)
        have hv : ((vcmp (atID t x j) (valAt m.Table k j) != 0) = true) := by rw [bne_iff_ne]; exact fun e => hp ((vcmp_eq _ _).1 e)
        simp only [drossref55_Merging_l3, if_pos (lt_true hj), idx_get g1, idx_get ho, idx_get hj, Option.bind_some, ref_Find_eq t x T.rows, e1, idx_get e2, idx_get g2, idx_get (get_row hk), ref_Compare_eq _ _ hs, if_pos hv])
      (by simp [drossref55_Merging_l3, idx_get ho]) (og m k) 0 rfl (Nat.zero_le _)
    simp only [Int.natCast_zero] at h
    exact h
theorem get_og' {m : Merged} {k : Nat} {x : List Int} (h : m.Origins[k]? = some x) : x = og m k := by
  have := get_og (lt_of_get h)
  rw [h] at this
  exact Option.some.inj this
theorem merges_eq (t : Table) (m : Merged) (ht : tableErr t = 0) (H : MerOk m) (T : TabOk t) (hat : t.Attrs.length ≤ 1073741824) :
    survivor_merges t m = some (mergesB t m) ∧ drossref55_Merging t m = some (mergesB t m) := by
  have hat' : m.Table.Attrs.length ≤ 1073741824 := by have := H.nattrs; omega
  have hdl : ∀ c ∈ m.Clusters, c.length ≤ 1073741824 := fun c hc => by have := H.lcl c hc; omega
  have hnc := H.ncl
  simp only [survivor_merges, drossref55_Merging, wellFormed_eq m H, WellFormed_eq m H, Option.bind_some, mergesB, Equal_string_eq _ _ hat, Strings_eq _ _ hat', divides_eq t m.Clusters T.rows (by omega) hdl, Of_eq t m.Clusters T.rows hnc H.lcl, ← div_same ht]
  by_cases h1 : wfB m = true
  · by_cases h2 : t.Name = m.Table.Name
    · by_cases h3 : t.Attrs = m.Table.Attrs
      · by_cases h4 : divA t m.Clusters = true
        · have M := mf_of ht h1 h3 h4
          have ha := LoopF_allk m.Origins (survivor_merges_l4 t m) (fun k x => rowMer t m.Table x k) false
            (fun k x hx hk hp => by
              have hk' : k < m.Table.Rows.length := by have := M.nor; omega
              obtain ⟨e1, e2⟩ := merges_row M H T k hk'
              obtain rfl := get_og' hx
              rw [if_pos hp] at e1
              have hlt : (k : Int) < (m.Table.Rows.length : Int) := by omega
              simp only [survivor_merges_l4, if_pos hlt, idx_get (get_row hk'), Option.bind_some, e1, wrap_succ hk (show m.Origins.length ≤ 4611686018427387904 by have := H.nor; omega)])
            (fun k x hx hp => by
              have hk := lt_of_get hx
              have hk' : k < m.Table.Rows.length := by have := M.nor; omega
              obtain ⟨e1, e2⟩ := merges_row M H T k hk'
              obtain rfl := get_og' hx
              rw [if_neg (by rw [hp]; simp)] at e1
              have hlt : (k : Int) < (m.Table.Rows.length : Int) := by omega
              simp only [survivor_merges_l4, if_pos hlt, idx_get (get_row hk'), Option.bind_some, e1])
            (by
              have : ¬ ((m.Origins.length : Int) < (m.Table.Rows.length : Int)) := by have := M.nor; omega
              simp only [survivor_merges_l4, if_neg this]) m.Origins 0 rfl (Nat.zero_le _)
          have hb := LoopF_allk m.Origins (drossref55_Merging_l4 t m) (fun k x => rowMer t m.Table x k) false
            (fun k x hx hk hp => by
              have hk' : k < m.Table.Rows.length := by have := M.nor; omega
              obtain ⟨e1, e2⟩ := merges_row M H T k hk'
              obtain rfl := get_og' hx
              rw [if_pos hp] at e2
              simp only [drossref55_Merging_l4, if_pos (lt_true hx), Option.bind_some, e2, wrap_succ hk (show m.Origins.length ≤ 4611686018427387904 by have := H.nor; omega)])
            (fun k x hx hp => by
              have hk := lt_of_get hx
              have hk' : k < m.Table.Rows.length := by have := M.nor; omega
              obtain ⟨e1, e2⟩ := merges_row M H T k hk'
              obtain rfl := get_og' hx
              rw [if_neg (by rw [hp]; simp)] at e2
              simp only [drossref55_Merging_l4, if_pos (lt_true hx), Option.bind_some, e2])
            (by simp [drossref55_Merging_l4]) m.Origins 0 rfl (Nat.zero_le _)
          simp only [Int.natCast_zero] at ha hb
          have e2 : (t.Name == m.Table.Name) = true := by simp [h2]
          have e2' : (m.Table.Name == t.Name) = true := by simp [h2]
          have e3' : m.Table.Attrs = t.Attrs := h3.symm
          have d3 : decide (m.Table.Attrs = t.Attrs) = true := by simp [h3]
          have d4 : decide (t.Attrs = m.Table.Attrs) = true := by simp [h3]
          have d5 : decide (t.Name = m.Table.Name) = true := by simp [h2]
          simp only [h1, h4, e2, e2', if_true, d3, d4, d5, Bool.true_and, ha, hb, Option.bind_some]
          cases allFrom (fun k x => rowMer t m.Table x k) 0 m.Origins <;> exact ⟨rfl, rfl⟩
        · simp only [Bool.not_eq_true] at h4
          simp [h1, h2, h3, h4]
      · have h3' : ¬ m.Table.Attrs = t.Attrs := fun e => h3 e.symm
        simp [h1, h2, h3, h3']
    · have h2' : ¬ m.Table.Name = t.Name := fun e => h2 e.symm
      simp [h1, h2, h2']
  · simp only [Bool.not_eq_true] at h1
    simp [h1]
end Go.Proofs.YtdmddoljldjjeaaGreat
/- The merged table is a merging of the table. -/
set_option linter.unusedVariables false
set_option linter.unusedSimpArgs false
namespace Go.Proofs.YtdmddoljldjjeaaGreat
open Go Go.Ab
theorem nodup_inj {α β : Type} (f : α → β) : ∀ {l : List α}, (l.map f).Nodup → ∀ {x y : α}, x ∈ l → y ∈ l → f x = f y → x = y
  | [], _, x, y, hx, _, _ => by cases hx
  | z :: l, h, x, y, hx, hy, e => by
    rw [List.map_cons, List.nodup_cons] at h
    rcases List.mem_cons.1 hx with a | a
    · rcases List.mem_cons.1 hy with b | b
      · rw [a, b]
      · exact absurd (List.mem_map.2 ⟨y, b, by rw [← e, a]⟩) h.1
    · rcases List.mem_cons.1 hy with b | b
      · exact absurd (List.mem_map.2 ⟨x, a, by rw [e, b]⟩) h.1
      · exact nodup_inj f h.2 a b e
theorem atID_row {t : Table} (hv : tableErr t = 0) {r : Row} (hr : r ∈ t.Rows) (j : Nat) : atID t r.ID j = cellV r j := by
  obtain ⟨i, q, h1, h2, h3⟩ := findB_get t r.ID (List.mem_map.2 ⟨r, hr, rfl⟩)
  have hq : q = r := nodup_inj (fun r : Row => r.ID) (show (t.Rows.map fun r : Row => r.ID).Nodup from (tableErr_zero hv).2) (List.mem_of_getElem? h2) hr h3
  subst hq
  unfold atID
  rw [h1]
  unfold valAt rowV cellV
  simp [List.getD, h2]
theorem rowsCode_valid (n : Nat) : ∀ (l : List Row) (a : Int), rowsCode n a l = 0 → ∀ r ∈ l, r.Values.all valid = true ∧ a < r.ID
  | [], _, _, r, hr => by cases hr
  | q :: l, a, h, r, hr => by
    simp only [rowsCode] at h
    by_cases h1 : q.ID ≤ a
    · rw [if_pos h1] at h; cases h
    · rw [if_neg h1] at h
      by_cases h2 : q.Values.length = n
      · rw [if_neg (by simp [h2])] at h
        by_cases h3 : q.Values.all valid = true
        · rw [if_pos h3] at h
          rcases List.mem_cons.1 hr with e | e
          · subst e; exact ⟨h3, by omega⟩
          · have := rowsCode_valid n l q.ID h r e
            exact ⟨this.1, by omega⟩
        · rw [if_neg h3] at h; cases h
      · rw [if_pos h2] at h; cases h
theorem rowsCode_of (n : Nat) : ∀ (l : List Row) (a : Int), (∀ r ∈ l, a < r.ID ∧ r.Values.length = n ∧ r.Values.all valid = true) → l.Pairwise (fun r q => r.ID < q.ID) → rowsCode n a l = 0
  | [], _, _, _ => rfl
  | r :: l, a, h, hp => by
    obtain ⟨h1, h2, h3⟩ := h r (by simp)
    rw [List.pairwise_cons] at hp
    simp only [rowsCode]
    rw [if_neg (by omega), if_neg (by simp [h2]), if_pos h3]
    exact rowsCode_of n l r.ID (fun q hq => ⟨hp.1 q hq, (h q (by simp [hq])).2⟩) hp.2
/-- what holds of a row merged from a cluster -/
theorem merged_cell {t : Table} {rules x : List Int} (hv : tableErr t = 0) (T : TabOk t) (hx : ascB x = true) (hs : ∀ y ∈ x, y ∈ ids t) (j : Nat) {o : Int} (hj : (morg t rules x)[j]? = some o) :
    o ∈ x ∧ (mrow t rules x).Values[j]? = some (atID t o j) ∧ (j < t.Attrs.length → valid (atID t o j) = true) := by
  have K := keep_rows hv T (asc_ne hx) hs rules
  have hmem : ∀ r ∈ keepR t x, r ∈ t.Rows ∧ r.ID ∈ x := fun r hr => ⟨(List.mem_filter.1 hr).1, by simpa using (List.mem_filter.1 hr).2⟩
  unfold morg at hj
  unfold mrow
  rw [mergedV_eq] at hj ⊢
  simp only [List.getElem?_map, mvals_get, Nat.zero_add] at hj ⊢
  cases hrl : rules[j]? with
  | none => rw [hrl] at hj; cases hj
  | some rule =>
    rw [hrl] at hj
    simp only [Option.map_some, Option.some.injEq] at hj ⊢
    have hval : ∀ r ∈ t.Rows, ∀ i, valid (cellV r i) = true := by
      intro r hr i
      have h1 := (rowsCode_valid _ _ _ (tableErr_code hv) r hr).1
      unfold cellV
      rw [List.getD]
      cases hg : r.Values[i]? with
      | none => rfl
      | some v => exact (List.all_eq_true.1 h1) v (List.mem_of_getElem? hg)
    obtain ⟨r, hr, hc⟩ := chosen_cell (keepR t x) j rule K.ne (fun r hr => hval r (hmem r hr).1 j)
    rw [hc] at hj ⊢
    simp only at hj ⊢
    subst hj
    obtain ⟨m1, m2⟩ := hmem r hr
    exact ⟨m2, by rw [atID_row hv m1], fun _ => by rw [atID_row hv m1]; exact hval r m1 j⟩
theorem morg_len (t : Table) (rules x : List Int) : (morg t rules x).length = rules.length ∧ (mrow t rules x).Values.length = rules.length := by
  unfold morg mrow
  rw [mergedV_eq]
  simp [mvals_len]
theorem mtab_merges {t : Table} {cs : List (List Int)} {rules : List Int} (B : TB t cs rules) (h1 : tableErr t = 0) (h2 : rules.length = t.Attrs.length) (h3 : rules.all okRule = true) (h4 : divA t cs = true) :
    mergesB t (mtab t rules (sorted cs)) = true := by
  obtain ⟨_, _, hp⟩ := sorted_ok B.ncs h4
  have hasc := sorted_asc B.ncs h4
  have hd := h4
  rw [div_same h1] at hd
  have hdA := h4
  simp only [divA, divB, Bool.and_eq_true, List.all_eq_true, decide_eq_true_eq] at hdA hd
  have honce := once_perm hp.symm hdA.1
  have hfl := hp.flatten
  have hdiv : divA t (sorted cs) = true := by
    simp only [divA, Bool.and_eq_true, List.all_eq_true, decide_eq_true_eq]
    exact ⟨honce, by rw [hfl.length_eq]; exact hdA.2.1, fun x hx => hfl.mem_iff.2 (hdA.2.2 x hx)⟩
  have hca := ((once_iff _ _).1 honce).1
  have hsub : ∀ x ∈ sorted cs, ∀ y ∈ x, y ∈ ids t := fun x hx y hy => hd.2.2 y (hfl.mem_iff.1 (List.mem_flatten.2 ⟨x, hx, hy⟩))
  have hlen : (sorted cs).length ≤ 12 := by rw [hp.length_eq]; exact B.ncs
  have hID : ∀ x ∈ sorted cs, (mrow t rules x).ID = x.headD 0 := fun x hx => mrow_ID h1 rules (hca x hx) (hsub x hx)
  have hval : ∀ x ∈ sorted cs, (mrow t rules x).Values.all valid = true := by
    intro x hx
    rw [List.all_eq_true]
    intro v hv
    obtain ⟨j, hj, rfl⟩ := List.getElem_of_mem hv
    obtain ⟨l1, l2⟩ := morg_len t rules x
    have ho : (morg t rules x)[j]? = some ((morg t rules x)[j]'(by omega)) := List.getElem?_eq_getElem (by omega)
    obtain ⟨_, e2, e3⟩ := merged_cell h1 B.ok (hca x hx) (hsub x hx) j ho
    rw [List.getElem?_eq_getElem hj] at e2
    rw [Option.some.inj e2]
    exact e3 (by omega)
  have hpair : ((sorted cs).map (mrow t rules)).Pairwise (fun r q => r.ID < q.ID) := by
    rw [List.pairwise_map, List.pairwise_iff_getElem]
    intro i j hi hj hij
    have g1 := List.getElem_mem hi
    have g2 := List.getElem_mem hj
    rw [hID _ g1, hID _ g2]
    have hle := hasc i j hij hj
    rw [← hd_get hi, ← hd_get hj] at hle
    apply Classical.byContradiction
    intro hn
    have heq : (sorted cs)[i].headD 0 = (sorted cs)[j].headD 0 := by omega
    have := once_apart honce i j _ _ ((sorted cs)[i].headD 0) (List.getElem?_eq_getElem hi) (List.getElem?_eq_getElem hj) (asc_head (hca _ g1)).1 (by rw [heq]; exact (asc_head (hca _ g2)).1)
    omega
  have hpos : ∀ x ∈ sorted cs, 0 < x.headD 0 := by
    intro x hx
    obtain ⟨r, hr, he⟩ := List.mem_map.1 (hsub x hx _ (asc_head (hca x hx)).1)
    have := (rowsCode_valid _ _ _ (tableErr_code h1) r hr).2
    have he' : r.ID = x.headD 0 := he
    omega
  have hcode : rowsCode t.Attrs.length 0 ((sorted cs).map (mrow t rules)) = 0 := by
    refine rowsCode_of _ _ _ (fun r hr => ?_) hpair
    obtain ⟨x, hx, rfl⟩ := List.mem_map.1 hr
    exact ⟨by rw [hID x hx]; exact hpos x hx, by rw [(morg_len t rules x).2, h2], hval x hx⟩
  have hterr : tableErr (mtab t rules (sorted cs)).Table = 0 := by
    have key : ∀ rows : List Row, rows.length ≤ 1000 → rowsCode t.Attrs.length 0 rows = 0 → tableErr ⟨t.Name, t.Attrs, rows⟩ = 0 := by
      intro rows hr hc
      have h1' := h1
      unfold tableErr at h1'
      by_cases a1 : nameB t.Name = false
      · rw [if_pos a1] at h1'; cases h1'
      · rw [if_neg a1] at h1'
        by_cases a2 : t.Attrs.length > 16
        · rw [if_pos a2] at h1'; cases h1'
        · rw [if_neg a2] at h1'
          by_cases a3 : t.Rows.length > 1000
          · rw [if_pos a3] at h1'; cases h1'
          · rw [if_neg a3] at h1'
            by_cases a4 : namesB t.Attrs = false
            · rw [if_pos a4] at h1'; cases h1'
            · have a5 : ¬ rows.length > 1000 := by omega
              show (if nameB t.Name = false then (1 : Int) else if t.Attrs.length > 16 then 3 else if rows.length > 1000 then 3 else if namesB t.Attrs = false then 1 else rowsCode t.Attrs.length 0 rows) = 0
              rw [if_neg a1, if_neg a2, if_neg a5, if_neg a4]
              exact hc
    exact key _ (by rw [List.length_map]; omega) hcode
  have hget : ∀ (k : Nat) x, (sorted cs)[k]? = some x → cl (mtab t rules (sorted cs)) k = x ∧ og (mtab t rules (sorted cs)) k = morg t rules x := by
    intro k x hx
    simp [cl, og, mtab, List.getD, hx]
  have hfits : allFrom (rowFits (mtab t rules (sorted cs))) 0 (mtab t rules (sorted cs)).Table.Rows = true := by
    rw [allFrom_iff]
    intro k r hr
    rw [Nat.zero_add]
    simp only [mtab, List.getElem?_map] at hr
    cases hx : (sorted cs)[k]? with
    | none => rw [hx] at hr; cases hr
    | some x =>
      rw [hx] at hr
      simp only [Option.map_some, Option.some.injEq] at hr
      subst hr
      have hm := List.mem_of_getElem? hx
      obtain ⟨g1, g2⟩ := hget k x hx
      simp only [rowFits, g1, g2, Bool.and_eq_true, List.all_eq_true, decide_eq_true_eq]
      refine ⟨hID x hm, by rw [(morg_len t rules x).1]; exact h2, fun o ho => ?_⟩
      obtain ⟨j, hj, rfl⟩ := List.getElem_of_mem ho
      exact (merged_cell h1 B.ok (hca x hm) (hsub x hm) j (List.getElem?_eq_getElem hj)).1
  have hwf : wfB (mtab t rules (sorted cs)) = true := by
    simp only [wfB, Bool.and_eq_true, decide_eq_true_eq]
    exact ⟨hterr, by simp [mtab], by simp [mtab], honce, hfits⟩
  simp only [mergesB, Bool.and_eq_true, decide_eq_true_eq]
  refine ⟨hwf, rfl, rfl, hdiv, ?_⟩
  rw [allFrom_iff]
  intro k o ho
  rw [Nat.zero_add]
  simp only [mtab, List.getElem?_map] at ho
  cases hx : (sorted cs)[k]? with
  | none => rw [hx] at ho; cases ho
  | some x =>
    rw [hx] at ho
    simp only [Option.map_some, Option.some.injEq] at ho
    subst ho
    have hm := List.mem_of_getElem? hx
    unfold rowMer
    rw [allFrom_iff]
    intro j v hv
    rw [Nat.zero_add, decide_eq_true_eq]
    obtain ⟨_, e2, _⟩ := merged_cell h1 B.ok (hca x hm) (hsub x hm) j hv
    unfold valAt rowV
    simp only [mtab, List.getD, List.getElem?_map, hx, Option.map_some, Option.getD_some, e2]
end Go.Proofs.YtdmddoljldjjeaaGreat
/- Tables from recipes. -/
set_option linter.unusedVariables false
set_option linter.unusedSimpArgs false
namespace Go.Proofs.YtdmddoljldjjeaaGreat
open Go Go.Ab
theorem grow_loop {α : Type} {B : List α × Int → Option (LS (List α × Int) (List α))} (N : Nat) (f : Nat → α)
    (hB : ∀ (k : Nat) (out : List α), k < N → out.length = k → B (out, (k : Int)) = some (.next (out ++ [f k], ((k + 1 : Nat) : Int))))
    (hE : ∀ out : List α, B (out, (N : Int)) = some (.done out)) : LoopF B ([], 0) = some ((List.range N).map f) := by
  have key : ∀ (r k : Nat) (out : List α), k + r = N → out.length = k → LoopF B (out, (k : Int)) = some (out ++ (List.range' k r).map f) := by
    intro r
    induction r with
    | zero =>
      intro k out hk ho
      have : k = N := by omega
      subst this
      rw [Loop_done (hE out)]; simp
    | succ r ih =>
      intro k out hk ho
      rw [Loop_next (hB k out (by omega) ho), ih (k + 1) _ (by omega) (by simp [ho])]
      simp [List.range'_succ]
  have h := key N 0 [] (by omega) rfl
  simp only [Int.natCast_zero, List.nil_append] at h
  rw [h, List.range_eq_range']
theorem Of_some (c : Int) : ∃ v, drossref01_Of c = some v ∧ valid v = true ∧ v.Str.length ≤ 2 := by
  unfold drossref01_Of
  by_cases h0 : (Int.tmod c 12 == 0) = true
  · rw [if_pos h0]; exact ⟨_, rfl, by decide, by decide⟩
  rw [if_neg h0]
  by_cases h1 : (Int.tmod c 12 == 1) = true
  · rw [if_pos h1]; exact ⟨_, rfl, by decide, by decide⟩
  rw [if_neg h1]
  by_cases h2 : (Int.tmod c 12 == 2) = true
  · rw [if_pos h2]; exact ⟨_, rfl, by decide, by decide⟩
  rw [if_neg h2]
  by_cases h3 : (Int.tmod c 12 == 3) = true
  · rw [if_pos h3]; exact ⟨_, rfl, by decide, by decide⟩
  rw [if_neg h3]
  by_cases h4 : (Int.tmod c 12 == 4) = true
  · rw [if_pos h4]; exact ⟨_, rfl, by decide, by decide⟩
  rw [if_neg h4]
  by_cases h5 : (Int.tmod c 12 == 5) = true
  · rw [if_pos h5]; exact ⟨_, rfl, by decide, by decide⟩
  rw [if_neg h5]
  by_cases h6 : (Int.tmod c 12 == 6) = true
  · rw [if_pos h6]; exact ⟨_, rfl, by decide, by decide⟩
  rw [if_neg h6]
  by_cases h7 : (Int.tmod c 12 == 7) = true
  · rw [if_pos h7]; exact ⟨_, rfl, by decide, by decide⟩
  rw [if_neg h7]
  by_cases h8 : (Int.tmod c 12 == 8) = true
  · rw [if_pos h8]; exact ⟨_, rfl, by decide, by decide⟩
  rw [if_neg h8]
  by_cases h9 : (Int.tmod c 12 == 9) = true
  · rw [if_pos h9]; exact ⟨_, rfl, by decide, by decide⟩
  rw [if_neg h9]
  by_cases h10 : (Int.tmod c 12 == 10) = true
  · rw [if_pos h10]; exact ⟨_, rfl, by decide, by decide⟩
  rw [if_neg h10]
  exact ⟨_, rfl, by decide, by decide⟩
noncomputable def ofV (c : Int) : Value := (drossref01_Of c).getD ⟨0, 0, []⟩
theorem ofV_eq (c : Int) : drossref01_Of c = some (ofV c) ∧ valid (ofV c) = true ∧ (ofV c).Str.length ≤ 2 := by
  obtain ⟨v, h1, h2, h3⟩ := Of_some c
  have : ofV c = v := by unfold ofV; rw [h1]; rfl
  rw [this]; exact ⟨h1, h2, h3⟩
noncomputable def wval (x : Drossref03_Recipe) (i k : Nat) : Value := ofV (((x.Rows.getD i []).getD k 0))
def wstep (x : Drossref03_Recipe) : Nat := 1 + x.Gap.toNat % 3
noncomputable def wrow (x : Drossref03_Recipe) (n i : Nat) : Row := ⟨((1 + i * wstep x : Nat) : Int), (List.range n).map (wval x i)⟩
def wnames : List (List UInt8) := [[97], [98], [99], [100], [101], [102], [103], [104]]
noncomputable def wide (x : Drossref03_Recipe) (n : Nat) : Table := ⟨[114], wnames.take n, (List.range x.Rows.length).map (wrow x n)⟩
theorem wide_inner (x : Drossref03_Recipe) (n i : Nat) (hn : n ≤ 8) (hi : i < x.Rows.length) (hl : ∀ r ∈ x.Rows, r.length ≤ 1048576) :
    LoopF (drossref03_Wide_l3 x (n : Int) (i : Int)) ([], 0) = some ((List.range n).map (wval x i)) := by
  have hx : x.Rows[i]? = some (x.Rows.getD i []) := by simp [List.getD, List.getElem?_eq_getElem hi]
  have hxl := hl _ (List.mem_of_getElem? hx)
  refine grow_loop n (wval x i) (fun k out hk ho => ?_) (fun out => by simp [drossref03_Wide_l3])
  have hk' : ((k : Int) < (n : Int)) := by omega
  have hroom : roomB (out.length + 1) 32 = true := room_le (by omega) (by omega)
  have hw := wrap_nat (k := k) (by omega)
  simp only [drossref03_Wide_l3, if_pos hk', idx_get hx, Option.bind_some]
  by_cases h : k < (x.Rows.getD i []).length
  · have h' : ((k : Int) < ((x.Rows.getD i []).length : Int)) := by omega
    have hg : (x.Rows.getD i [])[k]? = some ((x.Rows.getD i []).getD k 0) := by
      generalize x.Rows.getD i [] = l at h
      simp [List.getD, List.getElem?_eq_getElem h]
    simp only [if_pos h', idx_get hg, Option.bind_some, (ofV_eq _).1, hroom, if_true, hw]
    rfl
  · have h' : ¬ ((k : Int) < ((x.Rows.getD i []).length : Int)) := by omega
    have hg : (x.Rows.getD i []).getD k 0 = 0 := by
      generalize x.Rows.getD i [] = l at h
      simp [List.getD, List.getElem?_eq_none (show l.length ≤ k by omega)]
    simp only [if_neg h', (ofV_eq _).1, Option.bind_some, hroom, if_true, hw]
    unfold wval
    rw [hg]
theorem Wide_eq (x : Drossref03_Recipe) (n : Nat) (hn : n ≤ 8) (hr : x.Rows.length ≤ 8) (hl : ∀ r ∈ x.Rows, r.length ≤ 1048576) (hg : 0 ≤ x.Gap ∧ x.Gap ≤ 255) : drossref03_Wide x (n : Int) = some (wide x n) := by
  have h1 : (0 : Int) ≤ (n : Int) := by omega
  have h2 : (n : Int) ≤ 8 := by omega
  have hroom : roomB ((wnames.take n).length) 16 = true := room_le (by simp; omega) (by omega)
  have ho : LoopF (drossref03_Wide_l4 x (n : Int)) ([], 0) = some ((List.range x.Rows.length).map (wrow x n)) := by
    refine grow_loop x.Rows.length (wrow x n) (fun i out hi ho => ?_) (fun out => by simp [drossref03_Wide_l4])
    have hi' : ((i : Int) < (x.Rows.length : Int)) := by omega
    have hroom : roomB (out.length + 1) 32 = true := room_le (by omega) (by omega)
    have hm : Int.tmod x.Gap 3 = ((x.Gap.toNat % 3 : Nat) : Int) := by
      rw [Int.tmod_eq_emod_of_nonneg hg.1]; omega
    have e1 : IntKind.i64.wrap (Int.tmod x.Gap 3) = ((x.Gap.toNat % 3 : Nat) : Int) := by rw [hm, wrap_i64 (by omega) (by omega)]
    have e2 : IntKind.i64.wrap (1 + IntKind.i64.wrap (Int.tmod x.Gap 3)) = ((wstep x : Nat) : Int) := by
      rw [e1, wrap_i64 (by omega) (by omega)]; unfold wstep; omega
    have hs : wstep x ≤ 3 := by unfold wstep; omega
    have hmul : i * wstep x ≤ 8 * 3 := Nat.mul_le_mul (by omega) hs
    have e3 : IntKind.i64.wrap ((i : Int) * ((wstep x : Nat) : Int)) = ((i * wstep x : Nat) : Int) := by
      rw [← Int.natCast_mul, wrap_i64 (by omega) (by omega)]
    have e4 : IntKind.i64.wrap (1 + IntKind.i64.wrap ((i : Int) * IntKind.i64.wrap (1 + IntKind.i64.wrap (Int.tmod x.Gap 3)))) = ((1 + i * wstep x : Nat) : Int) := by
      rw [e2, e3, wrap_i64 (by omega) (by omega)]; omega
    simp only [drossref03_Wide_l4, if_pos hi', wide_inner x n i hn hi hl, Option.bind_some, hroom, if_true, e4, wrap_nat (k := i) (by omega)]
    rfl
  simp only [drossref03_Wide, if_pos h1, if_pos h2, Option.bind_some, Int.toNat_natCast]
  have hroom' : roomB ((List.take n [[97], [98], [99], [100], [101], [102], [103], [104]] : List (List UInt8)).length) 16 = true := hroom
  rw [if_pos hroom', ho]
  rfl
end Go.Proofs.YtdmddoljldjjeaaGreat
/- Tables from recipes are valid; rules and clusters of plans. -/
set_option linter.unusedVariables false
set_option linter.unusedSimpArgs false
namespace Go.Proofs.YtdmddoljldjjeaaGreat
open Go Go.Ab
theorem wnames_ok {n : Nat} (h : n ≤ 8) : namesB (wnames.take n) = true := by
  have : n = 0 ∨ n = 1 ∨ n = 2 ∨ n = 3 ∨ n = 4 ∨ n = 5 ∨ n = 6 ∨ n = 7 ∨ n = 8 := by omega
  rcases this with rfl | rfl | rfl | rfl | rfl | rfl | rfl | rfl | rfl <;> decide
theorem wide_valid (x : Drossref03_Recipe) (n : Nat) (hn : n ≤ 8) (hr : x.Rows.length ≤ 8) : tableErr (wide x n) = 0 := by
  have h1 : ¬ (nameB [114] = false) := by decide
  have hlen : (wnames.take n).length = n := by simp [wnames]; omega
  have h2 : ¬ (wnames.take n).length > 16 := by omega
  have h3 : ¬ ((List.range x.Rows.length).map (wrow x n)).length > 1000 := by simp; omega
  have h4 : ¬ (namesB (wnames.take n) = false) := by rw [wnames_ok hn]; simp
  have hc : rowsCode (wnames.take n).length 0 ((List.range x.Rows.length).map (wrow x n)) = 0 := by
    refine rowsCode_of _ _ _ (fun r hr => ?_) ?_
    · obtain ⟨i, hi, rfl⟩ := List.mem_map.1 hr
      refine ⟨by simp only [wrow]; omega, by simp only [wrow, List.length_map, List.length_range]; omega, ?_⟩
      rw [List.all_eq_true]
      intro v hv
      obtain ⟨k, hk, rfl⟩ := List.mem_map.1 hv
      exact (ofV_eq _).2.1
    · rw [List.pairwise_map]
      refine List.Pairwise.imp ?_ List.pairwise_lt_range
      intro a b hab
      simp only [wrow]
      have hs : 1 ≤ wstep x := by unfold wstep; omega
      have : (a + 1) * wstep x ≤ b * wstep x := Nat.mul_le_mul_right _ hab
      rw [Nat.add_mul, Nat.one_mul] at this
      omega
  show (if nameB [114] = false then (1 : Int) else if (wnames.take n).length > 16 then 3 else if ((List.range x.Rows.length).map (wrow x n)).length > 1000 then 3 else if namesB (wnames.take n) = false then 1 else rowsCode (wnames.take n).length 0 ((List.range x.Rows.length).map (wrow x n))) = 0
  rw [if_neg h1, if_neg h2, if_neg h3, if_neg h4]
  exact hc
theorem okI_u8 {n : Int} (h : okI .u8 n) : 0 ≤ n ∧ n ≤ 255 := by
  have h' : (decide (IntKind.min .u8 ≤ n) && decide (n ≤ IntKind.max .u8)) = true := h
  simp only [Bool.and_eq_true, decide_eq_true_eq] at h'
  have e1 : IntKind.min .u8 = 0 := by decide
  have e2 : IntKind.max .u8 = 255 := by decide
  rw [e1, e2] at h'
  exact h'
/-- the table of a recipe -/
theorem Table03_eq (x : Drossref03_Recipe) (h : okDrossref03_Recipe x) (hr : x.Rows.length ≤ 8) : drossref03_Table x 8 = some (wide x (x.Attrs.toNat % 6), true) := by
  obtain ⟨ha, hg, hl⟩ := h
  have ha' := okI_u8 ha
  have hg' := okI_u8 hg
  have h1 : ¬ ((x.Rows.length : Int) > 8) := by omega
  have hm : Int.tmod x.Attrs 6 = ((x.Attrs.toNat % 6 : Nat) : Int) := by
    rw [Int.tmod_eq_emod_of_nonneg ha'.1]; omega
  have e1 : IntKind.i64.wrap (Int.tmod x.Attrs 6) = ((x.Attrs.toNat % 6 : Nat) : Int) := by rw [hm, wrap_i64 (by omega) (by omega)]
  simp only [drossref03_Table, if_neg h1, e1, Wide_eq x (x.Attrs.toNat % 6) (by omega) hr (fun r hr => (hl.2 r hr).1) hg', Option.bind_some]
end Go.Proofs.YtdmddoljldjjeaaGreat
/- Rules and clusters of plans. -/
set_option linter.unusedVariables false
set_option linter.unusedSimpArgs false
namespace Go.Proofs.YtdmddoljldjjeaaGreat
open Go Go.Ab
def ruleAt (p : Drossref55_Plan) (i : Nat) : Int := if i < p.Rules.length then 1 + ((p.Rules.getD i 0).toNat % 5 : Nat) else 1
def rulesOf (t : Table) (p : Drossref55_Plan) : List Int := (List.range t.Attrs.length).map (ruleAt p)
theorem rulesOf_ok (t : Table) (p : Drossref55_Plan) : (rulesOf t p).length = t.Attrs.length ∧ (rulesOf t p).all okRule = true := by
  refine ⟨by simp [rulesOf], ?_⟩
  rw [List.all_eq_true]
  intro r hr
  obtain ⟨i, hi, rfl⟩ := List.mem_map.1 hr
  simp only [okRule, Bool.and_eq_true, decide_eq_true_eq]
  unfold ruleAt
  split <;> omega
theorem List55_eq (t : Table) (p : Drossref55_Plan) (ht : t.Attrs.length ≤ 1048576) (h : okDrossref55_Plan p) : drossref55_List t p = some (rulesOf t p) := by
  have hl := grow_loop (B := drossref55_List_l1 t p) t.Attrs.length (ruleAt p) (fun k out hk ho => by
    have hk' : ((k : Int) < (t.Attrs.length : Int)) := by omega
    have hroom : roomB (out.length + 1) 8 = true := room_le (by omega) (by omega)
    have hw := wrap_nat (k := k) (by omega)
    simp only [drossref55_List_l1, if_pos hk']
    by_cases hr : k < p.Rules.length
    · have hr' : ((k : Int) < (p.Rules.length : Int)) := by omega
      have hg : p.Rules[k]? = some (p.Rules.getD k 0) := by simp [List.getD, List.getElem?_eq_getElem hr]
      have hu := okI_u8 (h.2.2 _ (List.mem_of_getElem? hg))
      have e0 : Int.tmod (p.Rules.getD k 0) 5 = (((p.Rules.getD k 0).toNat % 5 : Nat) : Int) := by
        rw [Int.tmod_eq_emod_of_nonneg hu.1]; omega
      have e1 : IntKind.i64.wrap (1 + IntKind.i64.wrap (Int.tmod (p.Rules.getD k 0) 5)) = ruleAt p k := by
        have e2 : IntKind.i64.wrap (((p.Rules.getD k 0).toNat % 5 : Nat) : Int) = (((p.Rules.getD k 0).toNat % 5 : Nat) : Int) := wrap_i64 (by omega) (by omega)
        rw [e0, e2, wrap_i64 (by omega) (by omega)]
        unfold ruleAt
        rw [if_pos hr]
      simp only [if_pos hr', idx_get hg, Option.bind_some, hroom, if_true, e1, hw]
    · have hr' : ¬ ((k : Int) < (p.Rules.length : Int)) := by omega
      have e1 : ruleAt p k = 1 := by unfold ruleAt; rw [if_neg hr]
      simp only [if_neg hr', hroom, if_true, e1, hw]) (fun out => by simp [drossref55_List_l1])
  simp only [drossref55_List, hl, Option.bind_some]
  rfl
end Go.Proofs.YtdmddoljldjjeaaGreat
/- Clusters of plans. -/
set_option linter.unusedVariables false
set_option linter.unusedSimpArgs false
namespace Go.Proofs.YtdmddoljldjjeaaGreat
open Go Go.Ab
def lab (p : Drossref55_Plan) (i : Nat) : Nat := if i < p.Labels.length then (p.Labels.getD i 0).toNat % 4 else 0
theorem label_eq (p : Drossref55_Plan) (h : okDrossref55_Plan p) (i : Nat) : drossref55_label p (i : Int) = some ((lab p i : Nat) : Int) := by
  simp only [drossref55_label]
  by_cases hr : i < p.Labels.length
  · have hr' : ((i : Int) < (p.Labels.length : Int)) := by omega
    have hg : p.Labels[i]? = some (p.Labels.getD i 0) := by simp [List.getD, List.getElem?_eq_getElem hr]
    have hu := okI_u8 (h.1.2 _ (List.mem_of_getElem? hg))
    have e0 : Int.tmod (p.Labels.getD i 0) 4 = (((p.Labels.getD i 0).toNat % 4 : Nat) : Int) := by
      rw [Int.tmod_eq_emod_of_nonneg hu.1]; omega
    simp only [if_pos hr', idx_get hg, Option.bind_some, e0]
    unfold lab; rw [if_pos hr]
  · have hr' : ¬ ((i : Int) < (p.Labels.length : Int)) := by omega
    rw [if_neg hr']
    unfold lab; rw [if_neg hr]; rfl
/-- the IDs of the rows with a label, from place k on -/
def labIDs (p : Drossref55_Plan) (n : Nat) : Nat → List Row → List Int
  | _, [] => []
  | k, r :: l => (if lab p k = n then [r.ID] else []) ++ labIDs p n (k + 1) l
theorem lab_loop (t : Table) (p : Drossref55_Plan) (h : okDrossref55_Plan p) (n : Nat) (ht : t.Rows.length ≤ 1048576) : ∀ (r : List Row) (k : Nat) (out : List Int), t.Rows.drop k = r → k ≤ t.Rows.length → out.length ≤ k →
    LoopF (drossref55_Clusters_l3 t p (n : Int)) (out, (k : Int)) = some (out ++ labIDs p n k r) := by
  intro r
  induction r with
  | nil =>
    intro k out hd hk ho
    have hk' : k = t.Rows.length := by
      have := congrArg List.length hd
      simp at this; omega
    subst hk'
    rw [Loop_done (t := out) (by simp [drossref55_Clusters_l3])]; simp [labIDs]
  | cons x r ih =>
    intro k out hd hk ho
    have hx : t.Rows[k]? = some x := by
      have := congrArg (·[0]?) hd
      simpa [List.getElem?_drop] using this
    have hd' : t.Rows.drop (k + 1) = r := by rw [← List.drop_drop, hd]; rfl
    have hlt := lt_of_get hx
    have hroom : roomB (out.length + 1) 8 = true := room_le (by omega) (by omega)
    have hw := wrap_nat (k := k) (by omega)
    by_cases e : lab p k = n
    · have e' : ((((lab p k : Nat) : Int) == (n : Int)) = true) := by simp [e]
      rw [Loop_next (s' := (out ++ [x.ID], ((k + 1 : Nat) : Int))) (by simp only [drossref55_Clusters_l3, if_pos (lt_true hx), label_eq p h k, Option.bind_some, if_pos e', idx_get hx, hroom, if_true, hw]), ih (k + 1) _ hd' hlt (by simp; omega)]
      simp [labIDs, e]
    · have e' : ¬ ((((lab p k : Nat) : Int) == (n : Int)) = true) := by
        rw [beq_iff_eq]; omega
      rw [Loop_next (s' := (out, ((k + 1 : Nat) : Int))) (by simp only [drossref55_Clusters_l3, if_pos (lt_true hx), label_eq p h k, Option.bind_some, if_neg e', hw]), ih (k + 1) _ hd' hlt (by omega)]
      simp [labIDs, e]
end Go.Proofs.YtdmddoljldjjeaaGreat
/- Clusters of plans divide a valid table. -/
set_option linter.unusedVariables false
set_option linter.unusedSimpArgs false
namespace Go.Proofs.YtdmddoljldjjeaaGreat
open Go Go.Ab
def labC (t : Table) (p : Drossref55_Plan) (n : Nat) : List (List Int) := if (labIDs p n 0 t.Rows) = [] then [] else [labIDs p n 0 t.Rows]
def clustersOf (t : Table) (p : Drossref55_Plan) : List (List Int) := labC t p 0 ++ labC t p 1 ++ labC t p 2 ++ labC t p 3
theorem Clusters55_eq (t : Table) (p : Drossref55_Plan) (h : okDrossref55_Plan p) (ht : t.Rows.length ≤ 1048576) : drossref55_Clusters t p = some (clustersOf t p) := by
  have step : ∀ (n : Nat) (out : List (List Int)), n < 4 → out.length ≤ 4 → drossref55_Clusters_l4 t p (out, (n : Int)) = some (.next (out ++ labC t p n, ((n + 1 : Nat) : Int))) := by
    intro n out hn ho
    have h1 : (n : Int) < 4 := by omega
    have hl := lab_loop t p h n ht t.Rows 0 [] rfl (Nat.zero_le _) (Nat.zero_le _)
    simp only [Int.natCast_zero, List.nil_append] at hl
    have hroom : roomB (out.length + 1) 24 = true := room_le (by omega) (by omega)
    have hw : IntKind.u8.wrap ((n : Int) + 1) = ((n + 1 : Nat) : Int) := by
      have : n = 0 ∨ n = 1 ∨ n = 2 ∨ n = 3 := by omega
      rcases this with rfl | rfl | rfl | rfl <;> decide
    simp only [drossref55_Clusters_l4, if_pos h1, hl, Option.bind_some, hroom, if_true, hw]
    unfold labC
    by_cases e : labIDs p n 0 t.Rows = []
    · rw [if_pos e, e]; simp
    · have : (((labIDs p n 0 t.Rows).length : Nat) : Int) > 0 := by
        have := List.length_pos_iff.2 e
        omega
      rw [if_neg e, if_pos this]
  have lc : ∀ n, (labC t p n).length ≤ 1 := by intro n; unfold labC; split <;> simp
  have l0 := lc 0
  have l1 := lc 1
  have l2 := lc 2
  have s0 := step 0 [] (by omega) (by simp)
  have s1 := step 1 (labC t p 0) (by omega) (by omega)
  have s2 := step 2 (labC t p 0 ++ labC t p 1) (by omega) (by simp; omega)
  have s3 := step 3 (labC t p 0 ++ labC t p 1 ++ labC t p 2) (by omega) (by simp; omega)
  simp only [List.nil_append] at s0
  simp only [drossref55_Clusters]
  rw [show ((0 : Int)) = ((0 : Nat) : Int) from rfl, Loop_next s0, Loop_next s1, Loop_next s2, Loop_next s3, Loop_done (t := clustersOf t p) (by simp [drossref55_Clusters_l4, clustersOf])]
  rfl
end Go.Proofs.YtdmddoljldjjeaaGreat
/- Clusters of plans divide a valid table. -/
set_option linter.unusedVariables false
set_option linter.unusedSimpArgs false
namespace Go.Proofs.YtdmddoljldjjeaaGreat
open Go Go.Ab
theorem ascB_of {l : List Int} (hne : l ≠ []) (hp : l.Pairwise (· < ·)) : ascB l = true := by
  simp only [ascB, Bool.and_eq_true, decide_eq_true_eq]
  refine ⟨?_, List.length_pos_iff.2 hne⟩
  rw [allFrom_iff]
  intro j x hx
  rw [List.getElem?_drop] at hx
  obtain ⟨h1, h2⟩ := List.getElem?_eq_some_iff.1 hx
  rw [List.pairwise_iff_getElem] at hp
  have := hp j (1 + j) (by omega) h1 (by omega)
  rw [decide_eq_true_eq]
  have e : 1 + j - 1 = j := by omega
  rw [e, List.getD, List.getElem?_eq_getElem (by omega)]
  simp only [Option.getD_some]
  rw [← h2]; exact this
theorem labIDs_mem (p : Drossref55_Plan) (n : Nat) : ∀ (l : List Row) (k : Nat) (x : Int), x ∈ labIDs p n k l ↔ ∃ j r, l[j]? = some r ∧ lab p (k + j) = n ∧ r.ID = x
  | [], k, x => by simp [labIDs]
  | q :: l, k, x => by
    simp only [labIDs, List.mem_append, labIDs_mem p n l (k + 1) x]
    constructor
    · rintro (h | ⟨j, r, h1, h2, h3⟩)
      · by_cases e : lab p k = n
        · rw [if_pos e] at h
          exact ⟨0, q, rfl, e, (List.mem_singleton.1 h).symm⟩
        · rw [if_neg e] at h; cases h
      · exact ⟨j + 1, r, by simpa using h1, by rw [← h2]; congr 1; omega, h3⟩
    · rintro ⟨j, r, h1, h2, h3⟩
      cases j with
      | zero =>
        simp at h1; subst h1
        left
        rw [if_pos (by simpa using h2)]; simp [h3]
      | succ j =>
        right
        exact ⟨j, r, by simpa using h1, by rw [← h2]; congr 1; omega, h3⟩
theorem labIDs_pair (p : Drossref55_Plan) (n : Nat) : ∀ (l : List Row) (k : Nat), (l.map (·.ID)).Pairwise (· < ·) → (labIDs p n k l).Pairwise (· < ·)
  | [], k, _ => by simp [labIDs]
  | q :: l, k, h => by
    rw [List.map_cons, List.pairwise_cons] at h
    have ih := labIDs_pair p n l (k + 1) h.2
    simp only [labIDs]
    split
    · rw [List.singleton_append, List.pairwise_cons]
      refine ⟨fun y hy => ?_, ih⟩
      obtain ⟨j, r, h1, _, h3⟩ := (labIDs_mem p n l (k + 1) y).1 hy
      exact h.1 y (List.mem_map.2 ⟨r, List.mem_of_getElem? h1, h3⟩)
    · simpa using ih
theorem rowsCode_pair (n : Nat) : ∀ (l : List Row) (a : Int), rowsCode n a l = 0 → (l.map (·.ID)).Pairwise (· < ·)
  | [], _, _ => by simp
  | r :: l, a, h => by
    simp only [rowsCode] at h
    by_cases h1 : r.ID ≤ a
    · rw [if_pos h1] at h; cases h
    · rw [if_neg h1] at h
      by_cases h2 : r.Values.length = n
      · rw [if_neg (by simp [h2])] at h
        by_cases h3 : r.Values.all valid = true
        · rw [if_pos h3] at h
          rw [List.map_cons, List.pairwise_cons]
          refine ⟨fun y hy => ?_, rowsCode_pair n l r.ID h⟩
          obtain ⟨q, hq, rfl⟩ := List.mem_map.1 hy
          exact (rowsCode_valid n l r.ID h q hq).2
        · rw [if_neg h3] at h; cases h
      · rw [if_pos h2] at h; cases h
end Go.Proofs.YtdmddoljldjjeaaGreat
/- Clusters of plans divide a valid table: divA. -/
set_option linter.unusedVariables false
set_option linter.unusedSimpArgs false
namespace Go.Proofs.YtdmddoljldjjeaaGreat
open Go Go.Ab
theorem labC_mem (t : Table) (p : Drossref55_Plan) (n : Nat) (x : Int) : x ∈ (labC t p n).flatten ↔ x ∈ labIDs p n 0 t.Rows := by
  unfold labC
  split
  · rename_i e; rw [e]; simp
  · simp
theorem lab_lt (p : Drossref55_Plan) (i : Nat) : lab p i < 4 := by unfold lab; split <;> omega
theorem clusters_div {t : Table} (hv : tableErr t = 0) (p : Drossref55_Plan) : divA t (clustersOf t p) = true := by
  have hpair := rowsCode_pair _ _ _ (tableErr_code hv)
  have hnd := (tableErr_zero hv).2
  have hpl : ∀ n, (labIDs p n 0 t.Rows).Pairwise (· < ·) := fun n => labIDs_pair p n t.Rows 0 hpair
  have hasc : ∀ n, ∀ c ∈ labC t p n, ascB c = true := by
    intro n c hc
    unfold labC at hc
    split at hc
    · cases hc
    · rename_i e
      rw [List.mem_singleton] at hc; subst hc
      exact ascB_of e (hpl n)
  have hndl : ∀ n, (labC t p n).flatten.Nodup := by
    intro n
    unfold labC
    split
    · simp
    · simp only [List.flatten_cons, List.flatten_nil, List.append_nil]
      rw [List.nodup_iff_pairwise_ne]
      exact (hpl n).imp (fun h => by omega)
  have hdis : ∀ n m x, x ∈ (labC t p n).flatten → x ∈ (labC t p m).flatten → n = m := by
    intro n m x h1 h2
    rw [labC_mem, labIDs_mem] at h1 h2
    obtain ⟨j, r, a1, a2, a3⟩ := h1
    obtain ⟨j', r', b1, b2, b3⟩ := h2
    have hj : j = j' := by
      obtain ⟨c1, c2⟩ := List.getElem?_eq_some_iff.1 a1
      obtain ⟨d1, d2⟩ := List.getElem?_eq_some_iff.1 b1
      have hp' := List.pairwise_iff_getElem.1 hpair
      rcases Nat.lt_trichotomy j j' with h | h | h
      · have := hp' j j' (by simpa using c1) (by simpa using d1) h
        simp only [List.getElem_map, c2, d2] at this
        omega
      · exact h
      · have := hp' j' j (by simpa using d1) (by simpa using c1) h
        simp only [List.getElem_map, c2, d2] at this
        omega
    subst hj
    omega
  have hfl : (clustersOf t p).flatten = (labC t p 0).flatten ++ (labC t p 1).flatten ++ (labC t p 2).flatten ++ (labC t p 3).flatten := by
    simp [clustersOf]
  have hnodup : (clustersOf t p).flatten.Nodup := by
    rw [hfl, List.nodup_append, List.nodup_append, List.nodup_append]
    refine ⟨⟨⟨hndl 0, hndl 1, ?_⟩, hndl 2, ?_⟩, hndl 3, ?_⟩
    · intro a ha b hb e; subst e; have := hdis 0 1 a ha hb; omega
    · intro a ha b hb e; subst e
      rcases List.mem_append.1 ha with h | h
      · have := hdis 0 2 a h hb; omega
      · have := hdis 1 2 a h hb; omega
    · intro a ha b hb e; subst e
      rcases List.mem_append.1 ha with h | h
      · rcases List.mem_append.1 h with h | h
        · have := hdis 0 3 a h hb; omega
        · have := hdis 1 3 a h hb; omega
      · have := hdis 2 3 a h hb; omega
  have hmem : ∀ x, x ∈ (clustersOf t p).flatten ↔ x ∈ ids t := by
    intro x
    rw [hfl, List.mem_append, List.mem_append, List.mem_append, labC_mem, labC_mem, labC_mem, labC_mem, labIDs_mem, labIDs_mem, labIDs_mem, labIDs_mem]
    constructor
    · have k : ∀ n, (∃ j r, t.Rows[j]? = some r ∧ lab p (0 + j) = n ∧ r.ID = x) → x ∈ ids t := by
        rintro n ⟨j, r, a1, _, a3⟩
        exact List.mem_map.2 ⟨r, List.mem_of_getElem? a1, a3⟩
      rintro (((h | h) | h) | h) <;> exact k _ h
    · intro h
      obtain ⟨r, hr, he⟩ := List.mem_map.1 h
      obtain ⟨j, hj, rfl⟩ := List.getElem_of_mem hr
      have hl := lab_lt p (0 + j)
      have hx : ∃ j' r', t.Rows[j']? = some r' ∧ lab p (0 + j') = lab p (0 + j) ∧ r'.ID = x := ⟨j, _, List.getElem?_eq_getElem hj, rfl, he⟩
      have : lab p (0 + j) = 0 ∨ lab p (0 + j) = 1 ∨ lab p (0 + j) = 2 ∨ lab p (0 + j) = 3 := by omega
      rcases this with e | e | e | e <;> rw [e] at hx
      · exact .inl (.inl (.inl hx))
      · exact .inl (.inl (.inr hx))
      · exact .inl (.inr hx)
      · exact .inr hx
  simp only [divA, Bool.and_eq_true, List.all_eq_true, decide_eq_true_eq]
  refine ⟨(once_iff _ _).2 ⟨fun c hc => ?_, hnodup, fun x _ => by simp⟩, ?_, fun x hx => (hmem x).2 hx⟩
  · unfold clustersOf at hc
    rcases List.mem_append.1 hc with h | h
    · rcases List.mem_append.1 h with h | h
      · rcases List.mem_append.1 h with h | h
        · exact hasc 0 c h
        · exact hasc 1 c h
      · exact hasc 2 c h
    · exact hasc 3 c h
  · have h1 := nodup_sub_len hnodup (fun x hx => (hmem x).1 hx)
    have h2 := nodup_sub_len hnd (fun x hx => (hmem x).2 hx)
    have h3 : (ids t).length = t.Rows.length := by simp [ids]
    omega
theorem clustersOf_len (t : Table) (p : Drossref55_Plan) : (clustersOf t p).length ≤ 4 := by
  have lc : ∀ n, (labC t p n).length ≤ 1 := by intro n; unfold labC; split <;> simp
  have l0 := lc 0
  have l1 := lc 1
  have l2 := lc 2
  have l3 := lc 3
  simp only [clustersOf, List.length_append]; omega
end Go.Proofs.YtdmddoljldjjeaaGreat
/- What is sorted stays as it is. -/
set_option linter.unusedVariables false
set_option linter.unusedSimpArgs false
namespace Go.Proofs.YtdmddoljldjjeaaGreat
open Go Go.Ab
theorem inner_id {data : List (List Int)} (hne : ∀ x ∈ data, x ≠ []) (hl : data.length ≤ 1048576) (h : ∀ a b, a < b → b < data.length → hd data a ≤ hd data b) (k : Nat) (hk : k < data.length) : LoopF drossref55_Table_l4 (data, (k : Int)) = some data := by
  cases k with
  | zero => exact Loop_done (by simp [drossref55_Table_l4])
  | succ k =>
    have hpos : (((k + 1 : Nat) : Int) > 0) := by omega
    have hw : IntKind.i64.wrap (((k + 1 : Nat) : Int) - 1) = (k : Int) := by
      rw [wrap_i64 (by omega) (by omega)]; omega
    have hk' : k < data.length := by omega
    have h1 : data[k + 1]? = some (data[k + 1]'hk) := List.getElem?_eq_getElem hk
    have h0 : data[k]? = some (data[k]'hk') := List.getElem?_eq_getElem hk'
    have n1 := head_get (hne _ (List.mem_of_getElem? h1))
    have n0 := head_get (hne _ (List.mem_of_getElem? h0))
    have hle := h k (k + 1) (by omega) hk
    rw [← hd_get hk, ← hd_get hk'] at hle
    have hc : ¬ (data[k + 1]'hk).headD 0 < (data[k]'hk').headD 0 := by omega
    exact Loop_done (by simp only [drossref55_Table_l4, if_pos hpos, idx_get h1, hw, idx_get h0, Option.bind_some, n1, n0, if_neg hc])
theorem outer_id {data : List (List Int)} (hne : ∀ x ∈ data, x ≠ []) (hl : data.length ≤ 1048576) (h : ∀ a b, a < b → b < data.length → hd data a ≤ hd data b) : ∀ (n i : Nat), n = data.length - i → LoopF drossref55_Table_l5 (data, (i : Int)) = some data := by
  intro n
  induction n with
  | zero =>
    intro i hn
    have h2 : ¬ ((i : Int) < ((data.length : Nat) : Int)) := by omega
    exact Loop_done (by simp only [drossref55_Table_l5, if_neg h2])
  | succ n ih =>
    intro i hn
    have h2 : ((i : Int) < ((data.length : Nat) : Int)) := by omega
    have hw := wrap_nat (k := i) (by omega)
    rw [Loop_next (s' := (data, ((i + 1 : Nat) : Int))) (by simp only [drossref55_Table_l5, if_pos h2, inner_id hne hl h i (by omega), Option.bind_some, hw])]
    exact ih (i + 1) (by omega)
theorem sorted_id {data : List (List Int)} (hne : ∀ x ∈ data, x ≠ []) (hl : data.length ≤ 1048576) (h : ∀ a b, a < b → b < data.length → hd data a ≤ hd data b) : sorted data = data := by
  have := outer_id hne hl h _ 0 rfl
  simp only [Int.natCast_zero] at this
  unfold sorted
  rw [this]; rfl
end Go.Proofs.YtdmddoljldjjeaaGreat
/- A cluster for each row alone. -/
set_option linter.unusedVariables false
set_option linter.unusedSimpArgs false
namespace Go.Proofs.YtdmddoljldjjeaaGreat
open Go Go.Ab
def alone (t : Table) : List (List Int) := t.Rows.map fun r => [r.ID]
theorem alone_flatten (t : Table) : (alone t).flatten = ids t := by
  unfold alone ids
  induction t.Rows with
  | nil => rfl
  | cons r l ih => simp only [List.map_cons, List.flatten_cons, ih]; rfl
theorem alone_div {t : Table} (hv : tableErr t = 0) : divA t (alone t) = true := by
  simp only [divA, Bool.and_eq_true, List.all_eq_true, decide_eq_true_eq, alone_flatten]
  refine ⟨(once_iff _ _).2 ⟨fun c hc => ?_, by rw [alone_flatten]; exact (tableErr_zero hv).2, fun x _ => by simp⟩, by simp [ids], fun x hx => hx⟩
  obtain ⟨r, hr, rfl⟩ := List.mem_map.1 hc
  exact ascB_of (by simp) (by simp)
theorem alone_sorted {t : Table} (hv : tableErr t = 0) (hn : t.Rows.length ≤ 1048576) : sorted (alone t) = alone t := by
  refine sorted_id (fun x hx => ?_) (by simpa [alone] using hn) ?_
  · obtain ⟨r, hr, rfl⟩ := List.mem_map.1 hx; simp
  · intro a b hab hb
    have hp := List.pairwise_iff_getElem.1 (rowsCode_pair _ _ _ (tableErr_code hv))
    have hb' : b < t.Rows.length := by simpa [alone] using hb
    have := hp a b (by simp; omega) (by simpa using hb') hab
    simp only [List.getElem_map] at this
    unfold hd alone
    simp only [List.getD, List.getElem?_map, List.getElem?_eq_getElem hb', List.getElem?_eq_getElem (show a < t.Rows.length by omega), Option.map_some, Option.getD_some, List.headD_cons]
    omega
end Go.Proofs.YtdmddoljldjjeaaGreat
/- The cells that a merging loses. -/
set_option linter.unusedVariables false
set_option linter.unusedSimpArgs false
namespace Go.Proofs.YtdmddoljldjjeaaGreat
open Go Go.Ab
/-- the lost cells of a row: those that hold a value other than the merged row -/
def cellsOf (mr : List Value) (id : Int) : Nat → List Value → List CellRef
  | _, [] => []
  | k, v :: l => (if v.Kind ≠ 0 ∧ v ≠ mr.getD k ⟨0, 0, []⟩ then [⟨id, (k : Int)⟩] else []) ++ cellsOf mr id (k + 1) l
theorem cellsOf_len (mr : List Value) (id : Int) : ∀ (l : List Value) (k : Nat), (cellsOf mr id k l).length ≤ l.length
  | [], k => Nat.le_refl _
  | v :: l, k => by
    simp only [cellsOf, List.length_append, List.length_cons]
    have := cellsOf_len mr id l (k + 1)
    split <;> simp <;> omega
def clIdx (m : Merged) (id : Int) : Nat := (m.Clusters.findIdx? (fun c => decide (id ∈ c))).getD 0
theorem clIdx_of {m : Merged} {id : Int} (h : id ∈ m.Clusters.flatten) : clIdx m id < m.Clusters.length ∧ id ∈ cl m (clIdx m id) := by
  obtain ⟨c, hc, hi⟩ := List.mem_flatten.1 h
  unfold clIdx
  cases hf : m.Clusters.findIdx? (fun c => decide (id ∈ c)) with
  | none =>
    rw [List.findIdx?_eq_none_iff] at hf
    have := hf c hc
    simp [hi] at this
  | some i =>
    have hlt := findIdx_lt _ _ hf
    rw [List.findIdx?_eq_some_iff_getElem] at hf
    have h2 := hf.2.1
    simp only [decide_eq_true_eq] at h2
    refine ⟨hlt, ?_⟩
    have := get_cl hlt
    rw [List.getElem?_eq_getElem hlt, Option.some.injEq] at this
    simp only [Option.getD_some]
    rw [← this]; exact h2
theorem cl_uniq {m : Merged} (h : onceB [] m.Clusters = true) {id : Int} {i j : Nat} (hi : i < m.Clusters.length) (hj : j < m.Clusters.length) (h1 : id ∈ cl m i) (h2 : id ∈ cl m j) : i = j :=
  once_apart h i j _ _ id (get_cl hi) (get_cl hj) h1 h2

/-! ### the map from IDs to clusters -/
theorem at_inner (m : Merged) (i : Nat) (c : List Int) (hl : c.length ≤ 1073741824) : ∀ (r : List Int) (k : Nat) (a : List (Int × Int)), c.drop k = r → k ≤ c.length →
    ∃ a', LoopF (survivor_Lost_l3 i c) (a, (k : Int)) = some a' ∧ (∀ x, x ∈ r → mget a' x = some (i : Int)) ∧ (∀ x, mget a x = some (i : Int) → mget a' x = some (i : Int)) ∧ (∀ x, x ∉ r → mget a' x = mget a x) := by
  intro r
  induction r with
  | nil =>
    intro k a hd hk
    have hk' : k = c.length := by
      have := congrArg List.length hd
      simp at this; omega
    subst hk'
    exact ⟨a, Loop_done (by simp [survivor_Lost_l3]), fun x hx => (by simp at hx), fun x h => h, fun x _ => rfl⟩
  | cons x r ih =>
    intro k a hd hk
    have hx : c[k]? = some x := by
      have := congrArg (·[0]?) hd
      simpa [List.getElem?_drop] using this
    have hd' : c.drop (k + 1) = r := by rw [← List.drop_drop, hd]; rfl
    have hlt := lt_of_get hx
    obtain ⟨a', h1, h2, h3, h4⟩ := ih (k + 1) (mset a x (i : Int)) hd' hlt
    refine ⟨a', ?_, fun y hy => ?_, fun y hy => ?_, fun y hy => ?_⟩
    · rw [Loop_next (s' := (mset a x (i : Int), ((k + 1 : Nat) : Int))) (by simp only [survivor_Lost_l3, if_pos (lt_true hx), idx_get hx, Option.bind_some, wrap_succ hlt (show c.length ≤ 4611686018427387904 by omega)])]
      exact h1
    · rcases List.mem_cons.1 hy with e | e
      · subst e
        exact h3 y (by rw [mget_mset]; simp)
      · exact h2 y e
    · refine h3 y ?_
      rw [mget_mset]
      split
      · rfl
      · exact hy
    · simp only [List.mem_cons, not_or] at hy
      rw [h4 y hy.2, mget_mset, if_neg hy.1]
theorem at_outer (m : Merged) (hl : m.Clusters.length ≤ 1048576) (hc : ∀ c ∈ m.Clusters, c.length ≤ 1048576) (ho : onceB [] m.Clusters = true) : ∀ (n k : Nat) (a : List (Int × Int)), n = m.Clusters.length - k → k ≤ m.Clusters.length → (∀ i x, i < k → x ∈ cl m i → mget a x = some (i : Int)) →
    ∃ a', LoopF (survivor_Lost_l4 m) (a, (k : Int)) = some a' ∧ (∀ i x, i < m.Clusters.length → x ∈ cl m i → mget a' x = some (i : Int)) := by
  intro n
  induction n with
  | zero =>
    intro k a hn hk hi
    have hk' : k = m.Clusters.length := by omega
    subst hk'
    exact ⟨a, Loop_done (by simp [survivor_Lost_l4]), hi⟩
  | succ n ih =>
    intro k a hn hk hi
    have hlt : k < m.Clusters.length := by omega
    have hx := get_cl hlt
    have hcl := hc _ (List.mem_of_getElem? hx)
    obtain ⟨a', h1, h2, h3, h4⟩ := at_inner m k (cl m k) (by omega) (cl m k) 0 a rfl (Nat.zero_le _)
    simp only [Int.natCast_zero] at h1
    obtain ⟨a'', h5, h6⟩ := ih (k + 1) a' (by omega) hlt (fun i x hik hxi => by
      by_cases e : i = k
      · subst e; exact h2 x hxi
      · rw [h4 x (fun hh => e (cl_uniq ho (by omega) hlt hxi hh))]
        exact hi i x (by omega) hxi)
    refine ⟨a'', ?_, h6⟩
    rw [Loop_next (s' := (a', ((k + 1 : Nat) : Int))) (by simp only [survivor_Lost_l4, if_pos (lt_true hx), idx_get hx, Option.bind_some, h1, wrap_succ hlt (show m.Clusters.length ≤ 4611686018427387904 by omega)])]
    exact h5

/-! ### the cells of one row -/
theorem cells_loop {B : List CellRef × Int → Option (LS (List CellRef × Int) (List CellRef))} (vs mr : List Value) (id : Int)
    (hB : ∀ (k : Nat) (out : List CellRef) v, vs[k]? = some v → out.length ≤ 1000000 → B (out, (k : Int)) = some (.next (if v.Kind ≠ 0 ∧ v ≠ mr.getD k ⟨0, 0, []⟩ then out ++ [⟨id, (k : Int)⟩] else out, ((k + 1 : Nat) : Int))))
    (hE : ∀ out, B (out, (vs.length : Int)) = some (.done out)) : ∀ (r : List Value) (k : Nat) (out : List CellRef), vs.drop k = r → k ≤ vs.length → out.length + r.length ≤ 1000000 → LoopF B (out, (k : Int)) = some (out ++ cellsOf mr id k r) := by
  intro r
  induction r with
  | nil =>
    intro k out hd hk ho
    have hk' : k = vs.length := by
      have := congrArg List.length hd
      simp at this; omega
    subst hk'
    rw [Loop_done (hE out)]
    simp [cellsOf]
  | cons v r ih =>
    intro k out hd hk ho
    have hx : vs[k]? = some v := by
      have := congrArg (·[0]?) hd
      simpa [List.getElem?_drop] using this
    have hd' : vs.drop (k + 1) = r := by rw [← List.drop_drop, hd]; rfl
    have hlt := lt_of_get hx
    simp only [List.length_cons] at ho
    rw [Loop_next (hB k out v hx (by omega)), ih (k + 1) _ hd' hlt (by split <;> (try simp) <;> omega)]
    simp only [cellsOf]
    split <;> simp
/-! ### all rows -/
def lostCells (t m : Table) (M : Merged) : List Row → List CellRef
  | [] => []
  | r :: l => cellsOf (rowV M.Table (clIdx M r.ID)) r.ID 0 r.Values ++ lostCells t m M l
theorem rows_cells {B : List CellRef × Int → Option (LS (List CellRef × Int) (List CellRef))} (t : Table) (m : Merged) (hn : t.Rows.length ≤ 8) (hna : t.Attrs.length ≤ 20) (hv : tableErr t = 0)
    (hB : ∀ (k : Nat) (out : List CellRef) r, t.Rows[k]? = some r → out.length ≤ 900000 → B (out, (k : Int)) = some (.next (out ++ cellsOf (rowV m.Table (clIdx m r.ID)) r.ID 0 r.Values, ((k + 1 : Nat) : Int))))
    (hE : ∀ out, B (out, (t.Rows.length : Int)) = some (.done out)) : ∀ (r : List Row) (k : Nat) (out : List CellRef), t.Rows.drop k = r → k ≤ t.Rows.length → out.length ≤ k * 20 → ∃ o, LoopF B (out, (k : Int)) = some o ∧ o = out ++ lostCells t t m r ∧ o.length ≤ 160 := by
  intro r
  induction r with
  | nil =>
    intro k out hd hk ho
    have hk' : k = t.Rows.length := by
      have := congrArg List.length hd
      simp at this; omega
    subst hk'
    exact ⟨out, Loop_done (hE out), by simp [lostCells], by omega⟩
  | cons x r ih =>
    intro k out hd hk ho
    have hx : t.Rows[k]? = some x := by
      have := congrArg (·[0]?) hd
      simpa [List.getElem?_drop] using this
    have hd' : t.Rows.drop (k + 1) = r := by rw [← List.drop_drop, hd]; rfl
    have hlt := lt_of_get hx
    have hlen := cellsOf_len (rowV m.Table (clIdx m x.ID)) x.ID x.Values 0
    have hxl := (tableErr_zero hv).1 x (List.mem_of_getElem? hx)
    obtain ⟨o, h1, h2, h3⟩ := ih (k + 1) (out ++ cellsOf (rowV m.Table (clIdx m x.ID)) x.ID 0 x.Values) hd' hlt (by simp; omega)
    refine ⟨o, by rw [Loop_next (hB k out x hx (by omega))]; exact h1, ?_, h3⟩
    rw [h2]; simp [lostCells]
end Go.Proofs.YtdmddoljldjjeaaGreat
/- SurvivorLost answers true. -/
set_option linter.unusedVariables false
set_option linter.unusedSimpArgs false
namespace Go.Proofs.YtdmddoljldjjeaaGreat
open Go Go.Ab
theorem row_getD {t : Table} {k : Nat} {r : Row} (h : t.Rows[k]? = some r) : t.Rows.getD k ⟨0, []⟩ = r := by simp [List.getD, h]
end Go.Proofs.YtdmddoljldjjeaaGreat
/- The merged table for a cluster for each row alone is the table; nothing is lost. -/
set_option linter.unusedVariables false
set_option linter.unusedSimpArgs false
namespace Go.Proofs.YtdmddoljldjjeaaGreat
open Go Go.Ab
theorem keep_alone {t : Table} (hv : tableErr t = 0) {r : Row} (hr : r ∈ t.Rows) : keepR t [r.ID] = [r] := by
  have hnd := (tableErr_zero hv).2
  unfold keepR ids at *
  have e : (t.Rows.filter fun x => decide (x.ID ∈ [r.ID])) = t.Rows.filter fun x => x.ID == r.ID := by
    apply List.filter_congr; intro x _; by_cases hx : x.ID = r.ID <;> simp [hx]
  rw [e]
  revert hr hnd
  induction t.Rows with
  | nil => intro h; cases h
  | cons q l ih =>
    intro hr hnd
    rw [List.map_cons, List.nodup_cons] at hnd
    rw [List.filter_cons]
    by_cases hq : q.ID = r.ID
    · have hqr : q = r := by
        rcases List.mem_cons.1 hr with h | h
        · exact h.symm
        · exact absurd (List.mem_map.2 ⟨r, h, hq.symm⟩) hnd.1
      subst hqr
      have : l.filter (fun x => x.ID == q.ID) = [] := by
        rw [List.filter_eq_nil_iff]
        intro x hx hxe
        exact hnd.1 (List.mem_map.2 ⟨x, hx, by simpa using hxe⟩)
      simp [this]
    · have hr' : r ∈ l := by
        rcases List.mem_cons.1 hr with h | h
        · exact absurd (by rw [h]) hq
        · exact h
      have : ¬ ((q.ID == r.ID) = true) := by simpa using hq
      rw [if_neg this]
      exact ih hr' hnd.2
theorem mrow_alone {t : Table} {rules : List Int} (hv : tableErr t = 0) (hl : rules.length = t.Attrs.length) {r : Row} (hr : r ∈ t.Rows) : mrow t rules [r.ID] = r := by
  have hval := (rowsCode_valid _ _ _ (tableErr_code hv) r hr).1
  have hlen := (tableErr_zero hv).1 r hr
  unfold mrow
  rw [keep_alone hv hr, mergedV_eq]
  have hvs : ((mvals [r] 0 rules).map (·.1)) = r.Values := by
    apply List.ext_getElem?
    intro j
    rw [List.getElem?_map, mvals_get]
    by_cases hj : j < rules.length
    · rw [List.getElem?_eq_getElem hj]
      obtain ⟨q, hq, he⟩ := chosen_cell [r] (0 + j) (rules[j]) (by simp) (fun x hx => by
        rw [List.mem_singleton] at hx; subst hx
        have hj' : 0 + j < x.Values.length := by omega
        have : x.Values[0 + j]? = some (x.Values[0 + j]'hj') := List.getElem?_eq_getElem hj'
        rw [cellV_eq this]
        exact List.all_eq_true.1 hval _ (List.getElem_mem hj'))
      rw [List.mem_singleton] at hq; subst hq
      simp only [Option.map_some, he]
      have hj' : j < q.Values.length := by omega
      rw [List.getElem?_eq_getElem hj']
      have : q.Values[0 + j]? = some (q.Values[j]'hj') := by rw [Nat.zero_add]; exact List.getElem?_eq_getElem hj'
      rw [cellV_eq this]
    · rw [List.getElem?_eq_none (by omega), List.getElem?_eq_none (by omega)]; rfl
  rw [hvs]
  rfl
theorem mtab_alone {t : Table} {rules : List Int} (hv : tableErr t = 0) (hl : rules.length = t.Attrs.length) : (mtab t rules (alone t)).Table = t := by
  have : (alone t).map (mrow t rules) = t.Rows := by
    unfold alone
    rw [List.map_map]
    conv => rhs; rw [← List.map_id t.Rows]
    apply List.map_congr_left
    intro r hr
    exact mrow_alone hv hl hr
  unfold mtab
  rw [this]
theorem merOk_mtab {t : Table} {rules : List Int} {l : List (List Int)} (A : TabArgs t rules l) (ha : t.Attrs.length ≤ 1048576) : MerOk (mtab t rules l) := by
  have B := mb_mtab A
  have hcl := A.cl
  have hrs := A.rs
  have hlen : ∀ x, (mergedV (keepR t x) rules).1.length = rules.length ∧ (mergedV (keepR t x) rules).2.length = rules.length := fun x => by
    have h := mergedV_len (keepR t x) rules ([], [])
    simp only [List.length_nil, Nat.zero_add] at h
    exact h
  refine ⟨⟨B.na, B.nr, B.nv, B.sh⟩, ha, by simp only [mtab, List.length_map]; omega, by simp only [mtab]; omega, fun c hc => A.len c hc, by simp only [mtab, List.length_map]; omega, ?_⟩
  intro c hc
  obtain ⟨x, hx, rfl⟩ := List.mem_map.1 hc
  show (mergedV (keepR t x) rules).2.length ≤ _
  rw [(hlen x).2]; omega
theorem lost_row1 {t : Table} {m : Merged} (M : MF t m) (T : TabOk t) (at' : List (Int × Int)) (hat : ∀ i x, i < m.Clusters.length → x ∈ cl m i → mget at' x = some (i : Int)) (k : Nat) (hk : k < t.Rows.length) (hna : t.Attrs.length ≤ 20)
    (c : Nat) (hc : c < m.Clusters.length) (hcl : (t.Rows.getD k ⟨0, []⟩).ID ∈ cl m c) (out : List CellRef) (ho : out.length ≤ 900000) :
    LoopF (survivor_Lost_l7 m at' (t.Rows.getD k ⟨0, []⟩)) (out, 0) = some (out ++ cellsOf (rowV m.Table c) (t.Rows.getD k ⟨0, []⟩).ID 0 (rowV t k)) := by
  have hkl := rowV_len M.tv hk
  have hcr : c < m.Table.Rows.length := by have := M.ncl; omega
  have hcv := rowV_len M.mv hcr
  have hA := M.attrs
  have hg : (mget at' (t.Rows.getD k ⟨0, []⟩).ID).getD 0 = (c : Int) := by rw [hat c _ hc hcl]; rfl
  have hval : ∀ (j : Nat) v, (rowV t k)[j]? = some v → (m.Table.Rows.getD c ⟨0, []⟩).Values[j]? = some ((rowV m.Table c).getD j ⟨0, 0, []⟩) := fun j v hj => get_val (by have := lt_of_get hj; rw [hcv, ← hA, ← hkl]; exact this)
  have hbool : ∀ a b : Value, (!(a.Kind == b.Kind && (a.Num == b.Num && a.Str == b.Str))) = decide (a ≠ b) := fun a b => by
    have := veq_eq a b
    unfold veq at this
    rw [this]; simp
  have h := cells_loop (B := survivor_Lost_l7 m at' (t.Rows.getD k ⟨0, []⟩)) (rowV t k) (rowV m.Table c) (t.Rows.getD k ⟨0, []⟩).ID
    (fun j o v hj hol => by
      have hlt := lt_of_get hj
      have hw := wrap_succ hlt (show (rowV t k).length ≤ 4611686018427387904 by omega)
      have hj' : (t.Rows.getD k ⟨0, []⟩).Values[j]? = some v := hj
      have hroom : roomB (o.length + 1) 16 = true := room_le (by omega) (by omega)
      have hlt' : (j : Int) < (((t.Rows.getD k ⟨0, []⟩).Values.length : Nat) : Int) := lt_true hj'
      simp only [survivor_Lost_l7, if_pos hlt', idx_get hj', Option.bind_some, hg, idx_get (get_row hcr), idx_get (hval j v hj), hbool, hroom, if_true, hw]
      by_cases e1 : v.Kind = 0
      · have : ¬ ((v.Kind != 0) = true) := by simp [e1]
        rw [if_neg this]
        simp [e1]
      · have : ((v.Kind != 0) = true) := by simp [e1]
        rw [if_pos this]
        by_cases e2 : v = (rowV m.Table c).getD j ⟨0, 0, []⟩
        · simp only [← e2]; simp
        · simp only [Option.bind_some, e2, ne_eq, not_false_eq_true, decide_true, if_true, e1, and_self])
    (fun o => by
      have : ¬ (((rowV t k).length : Int) < (((t.Rows.getD k ⟨0, []⟩).Values.length : Nat) : Int)) := by unfold rowV; omega
      simp only [survivor_Lost_l7, if_neg this]) (rowV t k) 0 out rfl (Nat.zero_le _) (by omega)
  simp only [Int.natCast_zero] at h
  exact h
theorem Lost_eq {t : Table} {m : Merged} (H : MerOk m) (T : TabOk t) (hf : t.Rows.length ≤ 8 ∧ t.Attrs.length ≤ 20) (hv : tableErr t = 0) (hmm : mergesB t m = true) :
    survivor_Lost t m = some (lostCells t t m t.Rows, 0) := by
  have hat : t.Attrs.length ≤ 1073741824 := T.attrs
  obtain ⟨e1, e2⟩ := merges_eq t m hv H T hat
  have hmm' := hmm
  simp only [mergesB, Bool.and_eq_true, decide_eq_true_eq] at hmm'
  have M := mf_of hv hmm'.1 hmm'.2.2.1 hmm'.2.2.2.1
  obtain ⟨a, ha1, ha2⟩ := at_outer m H.ncl H.lcl M.once _ 0 [] rfl (Nat.zero_le _) (fun i x h => absurd h (Nat.not_lt_zero _))
  simp only [Int.natCast_zero] at ha1
  have hidx : ∀ (k : Nat) r, t.Rows[k]? = some r → clIdx m r.ID < m.Clusters.length ∧ r.ID ∈ cl m (clIdx m r.ID) := fun k r hr =>
    clIdx_of ((M.ids r.ID).1 (List.mem_map.2 ⟨r, List.mem_of_getElem? hr, rfl⟩))
  obtain ⟨o1, h1, h2, h3⟩ := rows_cells (B := survivor_Lost_l8 t m a) t m hf.1 hf.2 hv (fun k out r hr ho => by
    have hk := lt_of_get hr
    obtain ⟨g1, g2⟩ := hidx k r hr
    have hrow := lost_row1 M T a ha2 k hk hf.2 (clIdx m r.ID) g1 (by rw [row_getD hr]; exact g2) out ho
    unfold rowV at hrow
    rw [row_getD hr] at hrow
    simp only [survivor_Lost_l8, if_pos (lt_true hr), idx_get hr, Option.bind_some, hrow, wrap_succ hk (show t.Rows.length ≤ 4611686018427387904 by omega)]
    rfl) (fun out => by simp [survivor_Lost_l8]) t.Rows 0 [] rfl (Nat.zero_le _) (Nat.zero_le _)
  simp only [Int.natCast_zero] at h1
  simp only [survivor_Lost, table_Valid_table t T, hv, bne_self_eq_false, Bool.false_eq_true, if_false, e1, hmm, if_true, Option.bind_some, ha1, h1, h2, List.nil_append]
theorem cellsOf_self (id : Int) (vs : List Value) : ∀ (l : List Value) (k : Nat), vs.drop k = l → cellsOf vs id k l = []
  | [], _, _ => rfl
  | v :: l, k, h => by
    have hx : vs[k]? = some v := by
      have := congrArg (·[0]?) h
      simpa [List.getElem?_drop] using this
    have hd : vs.drop (k + 1) = l := by rw [← List.drop_drop, h]; rfl
    simp only [cellsOf, cellsOf_self id vs l (k + 1) hd, List.append_nil]
    rw [if_neg (by simp [List.getD, hx])]
theorem lost_none {t : Table} {m : Merged} (h : ∀ r ∈ t.Rows, rowV m.Table (clIdx m r.ID) = r.Values) : ∀ l : List Row, (∀ r ∈ l, r ∈ t.Rows) → lostCells t t m l = []
  | [], _ => rfl
  | r :: l, hl => by
    simp only [lostCells]
    rw [h r (hl r (by simp)), cellsOf_self r.ID r.Values r.Values 0 rfl, lost_none h l (fun x hx => hl x (by simp [hx]))]
    rfl
end Go.Proofs.YtdmddoljldjjeaaGreat
/- SurvivorTable answers true. -/
set_option linter.unusedVariables false
set_option linter.unusedSimpArgs false
namespace Go.Proofs.YtdmddoljldjjeaaGreat
open Go Go.Ab
end Go.Proofs.YtdmddoljldjjeaaGreat
/- SurvivorMerging answers true. -/
set_option linter.unusedVariables false
set_option linter.unusedSimpArgs false
namespace Go.Proofs.YtdmddoljldjjeaaGreat
open Go Go.Ab
theorem wide_ok (x : Drossref03_Recipe) (n : Nat) (hn : n ≤ 8) (hr : x.Rows.length ≤ 8) : TabOk (wide x n) ∧ (wide x n).Rows.length ≤ 8 ∧ (wide x n).Attrs.length ≤ 8 ∧ (∀ r ∈ (wide x n).Rows, r.Values.length ≤ 8) := by
  have ha : (wide x n).Attrs.length ≤ 8 := by simp [wide, wnames]; omega
  have hrl : (wide x n).Rows.length ≤ 8 := by simp [wide]; omega
  have hv : ∀ r ∈ (wide x n).Rows, r.Values.length ≤ 8 := by
    intro r h
    obtain ⟨i, _, rfl⟩ := List.mem_map.1 h
    simp [wrow]; omega
  refine ⟨⟨by omega, by omega, fun r h => by have := hv r h; omega, ?_⟩, hrl, ha, hv⟩
  intro r h v hv'
  obtain ⟨i, _, rfl⟩ := List.mem_map.1 h
  obtain ⟨k, _, rfl⟩ := List.mem_map.1 hv'
  have := (ofV_eq ((x.Rows.getD i []).getD k 0)).2.2
  unfold wval; omega
theorem alone_loop (t : Table) (b : Bool) (hn : t.Rows.length ≤ 8) : LoopF (drosslaw55_SurvivorMerging_l1 (t, b)) ([], 0) = some (alone t) := by
  have h := LoopF_foldl t.Rows (fun (b : List (List Int)) i => (b, i)) (drosslaw55_SurvivorMerging_l1 (t, b)) (fun (l : List (List Int)) (r : Row) => l ++ [[r.ID]]) id (fun k l => l.length = k) (b0 := []) (s0 := ([], 0)) rfl rfl
    (fun k l r hr hk hI => by
      have hroom : roomB (l.length + 1) 24 = true := room_le (by omega) (by omega)
      refine ⟨?_, by simp [hI]⟩
      simp only [drosslaw55_SurvivorMerging_l1, if_pos (lt_true hr), idx_get hr, Option.bind_some, hroom, if_true, wrap_succ hk (show t.Rows.length ≤ 4611686018427387904 by omega)])
    (fun l _ => by simp [drosslaw55_SurvivorMerging_l1])
  rw [h]
  have : ∀ (rs : List Row) (acc : List (List Int)), rs.foldl (fun l r => l ++ [[r.ID]]) acc = acc ++ rs.map fun r => [r.ID] := by
    intro rs
    induction rs with
    | nil => intro acc; simp
    | cons r rs ih => intro acc; rw [List.foldl_cons, ih]; simp
  rw [this]; rfl
theorem sorted_sorted {t : Table} {cs : List (List Int)} (hc : cs.length ≤ 12) (hd : divA t cs = true) : sorted (sorted cs) = sorted cs := by
  obtain ⟨_, _, hp⟩ := sorted_ok hc hd
  have hne : ∀ x ∈ cs, x ≠ [] := by
    simp only [divA, Bool.and_eq_true] at hd
    exact fun x hx => onceB_ne hd.1 x hx
  exact sorted_id (fun x hx => hne x (hp.mem_iff.1 hx)) (by rw [hp.length_eq]; omega) (sorted_asc hc hd)
theorem div_sorted {t : Table} {cs : List (List Int)} (hc : cs.length ≤ 12) (hd : divA t cs = true) : divA t (sorted cs) = true := by
  obtain ⟨_, _, hp⟩ := sorted_ok hc hd
  have hdA := hd
  simp only [divA, Bool.and_eq_true, List.all_eq_true, decide_eq_true_eq] at hdA
  have hfl := hp.flatten
  simp only [divA, Bool.and_eq_true, List.all_eq_true, decide_eq_true_eq]
  exact ⟨once_perm hp.symm hdA.1, by rw [hfl.length_eq]; exact hdA.2.1, fun x hx => hfl.mem_iff.2 (hdA.2.2 x hx)⟩
theorem tb_plain {t : Table} {cs : List (List Int)} {rules : List Int} (T : TabOk t) (h1 : t.Rows.length ≤ 8) (hv : ∀ r ∈ t.Rows, r.Values.length ≤ 8) (hc : cs.length ≤ 12) (hl : ∀ c ∈ cs, c.length ≤ 1048576) (hr : rules.length ≤ 1048576) : TB t cs rules :=
  ⟨T, by omega, fun r h => by have := hv r h; omega, hc, hl, hr⟩
theorem div_len {t : Table} {cs : List (List Int)} (hd : divA t cs = true) (hn : t.Rows.length ≤ 8) : ∀ c ∈ cs, c.length ≤ 1048576 := by
  intro c hc
  simp only [divA, Bool.and_eq_true, decide_eq_true_eq] at hd
  have h2 : c.length ≤ cs.flatten.length := by
    obtain ⟨a, b, rfl⟩ := List.append_of_mem hc
    simp only [List.flatten_append, List.flatten_cons, List.length_append]
    omega
  omega
theorem Table_good {t : Table} {cs : List (List Int)} {rules : List Int} (B : TB t cs rules) (hv : tableErr t = 0) (h2 : rules.length = t.Attrs.length) (h3 : rules.all okRule = true) (h4 : divA t cs = true) : tableB t cs rules = (mtab t rules (sorted cs), 0) := by
  unfold tableB
  rw [if_neg (by simp [hv]), if_neg (by simp [h2]), if_neg (by simp [h3]), if_neg (by simp [h4])]
theorem SurvivorMerging_holds (x : Drossref03_Recipe) (p : Drossref55_Plan) (h : okDrossref03_Recipe x) (hp : okDrossref55_Plan p) : drosslaw55_SurvivorMerging x p = some true := by
  by_cases hr : x.Rows.length ≤ 8
  · have hx6 : x.Attrs.toNat % 6 ≤ 8 := by omega
    generalize hn : x.Attrs.toNat % 6 = n at hx6
    have hT := Table03_eq x h hr
    rw [hn] at hT
    obtain ⟨T, hrl, hal, hvl⟩ := wide_ok x n hx6 hr
    have hv := wide_valid x n hx6 hr
    generalize ht : wide x n = t at hT T hrl hal hvl hv
    obtain ⟨g1, g2⟩ := rulesOf_ok t p
    have hd := clusters_div hv p
    have hcl := clustersOf_len t p
    have B : TB t (clustersOf t p) (rulesOf t p) := tb_plain T hrl hvl (by omega) (div_len hd hrl) (by omega)
    have hTab := (Table_eq t _ _ B).1
    rw [Table_good B hv g1 g2 hd] at hTab
    have A := tabArgs B hv g1 g2 hd
    have MO := merOk_mtab A (by omega)
    have hmer := (merges_eq t _ hv MO T T.attrs).2
    rw [mtab_merges B hv g1 g2 hd] at hmer
    have B' : TB t (sorted (clustersOf t p)) (rulesOf t p) := by
      have := (sorted_ok (by omega) hd).2.2
      exact tb_plain T hrl hvl (by rw [this.length_eq]; omega) (div_len (div_sorted (by omega) hd) hrl) (by omega)
    have hch := (Check_eq t (rulesOf t p) (mtab t (rulesOf t p) (sorted (clustersOf t p))) B').1
    have hdS := div_sorted (by omega) hd
    rw [show (mtab t (rulesOf t p) (sorted (clustersOf t p))).Clusters = sorted (clustersOf t p) from rfl, Table_good B' hv g1 g2 hdS, sorted_sorted (by omega) hd] at hch
    simp only [decide_true, Bool.and_self] at hch
    -- alone
    have hda := alone_div hv
    have hla : (alone t).length ≤ 8 := by simpa [alone] using hrl
    have Ba : TB t (alone t) (rulesOf t p) := tb_plain T hrl hvl (by omega) (div_len hda hrl) (by omega)
    have hsa := alone_sorted hv (show t.Rows.length ≤ 1048576 by omega)
    have hTa := (Table_eq t _ _ Ba).1
    rw [Table_good Ba hv g1 g2 hda, hsa] at hTa
    have Aa := tabArgs Ba hv g1 g2 hda
    rw [hsa] at Aa
    have MOa := merOk_mtab Aa (by omega)
    have hma := mtab_merges Ba hv g1 g2 hda
    rw [hsa] at hma
    have hL := Lost_eq MOa T ⟨hrl, by omega⟩ hv hma
    have htab := mtab_alone hv g1
    rw [lost_none (fun r hr => ?_) t.Rows (fun _ h => h)] at hL
    · have hEq := Equal_eq (mtab t (rulesOf t p) (alone t)).Table t (by rw [htab]; exact T.attrs) (by rw [htab]; exact T.rows) (by rw [htab]; exact T.vals) (by rw [htab]; exact T.short)
      rw [htab] at hEq
      simp only [drosslaw55_SurvivorMerging, awake_true, hT, Option.bind_some, if_true, Bool.not_true, Bool.false_eq_true, if_false, List55_eq t p (show t.Attrs.length ≤ 1048576 by omega) hp, Clusters55_eq t p hp (show t.Rows.length ≤ 1048576 by omega), hTab, bne_self_eq_false, hmer, hch, alone_loop t true hrl, hTa, hL, beq_self_eq_true, htab, hEq, decide_true]
      rfl
    · -- the row of a row's cluster is the row
      have hmem : r.ID ∈ (mtab t (rulesOf t p) (alone t)).Clusters.flatten := by
        show r.ID ∈ (alone t).flatten
        rw [alone_flatten]; exact List.mem_map.2 ⟨r, hr, rfl⟩
      obtain ⟨c1, c2⟩ := clIdx_of hmem
      rw [htab]
      generalize clIdx (mtab t (rulesOf t p) (alone t)) r.ID = i at c1 c2
      have c1' : i < t.Rows.length := by simpa [mtab, alone] using c1
      have : cl (mtab t (rulesOf t p) (alone t)) i = [(t.Rows[i]'c1').ID] := by
        simp [cl, mtab, alone, List.getD, List.getElem?_map, List.getElem?_eq_getElem c1']
      rw [this, List.mem_singleton] at c2
      have hir : t.Rows[i]'c1' = r := nodup_inj (fun (r : Row) => r.ID) (l := t.Rows) (tableErr_zero hv).2 (List.getElem_mem c1') hr c2.symm
      simp [rowV, List.getD, List.getElem?_eq_getElem c1', hir]
  · have hT : drossref03_Table x 8 = some (⟨[], [], []⟩, false) := by
      have : (x.Rows.length : Int) > 8 := by omega
      simp [drossref03_Table, this]
    simp only [drosslaw55_SurvivorMerging, hT, awake_true, Option.bind_some, if_true, Bool.not_false]
end Go.Proofs.YtdmddoljldjjeaaGreat
