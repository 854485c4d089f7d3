/- The Lean functions that the program's functions are lifted to, and the plain laws about them. -/
import Derived.Test.YtlaodgbkpmdhoaaGreatDoorL1
/- Denial: the examples of the chapter. -/
set_option linter.unusedVariables false
set_option linter.unusedSimpArgs false
namespace Go.Proofs.YtlaodgbkpmdhoaaGreatDoor
open Go Go.Ab

def exT18 : Table := ⟨[114], [[97], [98]], [⟨1, [⟨1, 2, []⟩, ⟨1, 1, []⟩]⟩, ⟨2, [⟨1, 2, []⟩, ⟨1, 2, []⟩]⟩, ⟨3, [⟨1, 7, []⟩, ⟨1, 2, []⟩]⟩]⟩
theorem ofV18_1 : ofV 1 = ⟨1, 1, []⟩ := by simp [ofV, drossref01_Of]
theorem ofV18_2 : ofV 2 = ⟨1, 2, []⟩ := by simp [ofV, drossref01_Of]
theorem ofV18_11 : ofV 11 = ⟨1, 7, []⟩ := by simp [ofV, drossref01_Of]
theorem Wide18 : drossref03_Wide (Drossref03_Recipe.mk 0 0 [[2, 1], [2, 2], [11, 2]]) 2 = some exT18 := by
  have h := Wide_eq (Drossref03_Recipe.mk 0 0 [[2, 1], [2, 2], [11, 2]]) 2 (by omega) (by simp) (by simp) (by simp)
  have h' : drossref03_Wide (Drossref03_Recipe.mk 0 0 [[2, 1], [2, 2], [11, 2]]) 2 = some (wide (Drossref03_Recipe.mk 0 0 [[2, 1], [2, 2], [11, 2]]) 2) := h
  rw [h']
  have e : wide (Drossref03_Recipe.mk 0 0 [[2, 1], [2, 2], [11, 2]]) 2 = exT18 := by
    simp [wide, wrow, wval, wstep, exT18, wnames, List.range, List.range.loop, ofV18_1, ofV18_2, ofV18_11]
  rw [e]
def no18 : List Atom := [⟨atT 1 0, 3, atT 1 1⟩, ⟨atT 1 1, 4, ⟨0, 0, ⟨1, 5, []⟩⟩⟩, ⟨⟨0, 0, ⟨1, 6, []⟩⟩, 3, atT 1 0⟩]
def yes18 : List Atom := [⟨atT 1 0, 3, ⟨0, 0, ⟨1, 2, []⟩⟩⟩, ⟨⟨0, 0, ⟨1, 1, []⟩⟩, 3, atT 1 0⟩]
theorem no_contra : contraB no18 = true := by decide +kernel
theorem yes_contra : contraB yes18 = false := by decide +kernel
theorem ex_dt : DT exT18 := by
  have hv : ∀ r ∈ exT18.Rows, ∀ v ∈ r.Values, v.Str = [] := by decide
  refine ⟨⟨by decide, by decide, by decide, fun r hr v hvm => by rw [hv r hr v hvm]; simp⟩, by decide +kernel, by decide, fun r hr v hvm => by rw [hv r hr v hvm]; simp⟩
def want18 : Denial := ⟨2, [bothA 1 0, bothA 2 1]⟩
def less18 : Denial := ⟨1, [⟨atT 1 0, 3, ⟨0, 0, ⟨1, 6, []⟩⟩⟩]⟩
theorem idsA_of {rows : List Row} {l : List Int} (hp : (rows.map Row.ID).Perm l) (hs : l.Pairwise fun a b => a ≤ b) : idsA rows = l :=
  int_asc_unique ((srtI_perm _).trans hp) (srtI_sorted _) hs
def r18a : Row := ⟨1, [⟨1, 2, []⟩, ⟨1, 1, []⟩]⟩
def r18b : Row := ⟨2, [⟨1, 2, []⟩, ⟨1, 2, []⟩]⟩
theorem viol_want : setO (violL exT18 want18) = [[1, 2]] := by
  have h : (asgN exT18 want18.Vars.toNat).filter (fun a => want18.Atoms.all (satA a)) = [[r18a, r18b], [r18b, r18a]] := by decide +kernel
  have e1 : idsA [r18a, r18b] = [1, 2] := idsA_of (by decide) (by decide)
  have e2 : idsA [r18b, r18a] = [1, 2] := idsA_of (List.Perm.swap _ _ _) (by decide)
  unfold violL
  rw [h, List.map_cons, List.map_cons, e1, e2]
  decide
theorem viol_less : setO (violL exT18 less18) = [[1], [2]] := by
  have h : (asgN exT18 less18.Vars.toNat).filter (fun a => less18.Atoms.all (satA a)) = [[r18a], [r18b]] := by decide +kernel
  have e1 : idsA [r18a] = [1] := idsA_of (by decide) (by decide)
  have e2 : idsA [r18b] = [2] := idsA_of (by decide) (by decide)
  unfold violL
  rw [h, List.map_cons, List.map_cons, e1, e2]
  decide
theorem Same_self18 (l : List Denial) (hl : l.length ≤ 1000000) (ha : ∀ d ∈ l, d.Atoms.length ≤ 1000000) : drossref18_Same l l = some true := by
  have inner : ∀ (k : Nat) (d : Denial), l[k]? = some d → LoopF (drossref18_Same_l3 l l (k : Int)) 0 = some (.inl ()) := by
    intro k d hd
    have h := LoopF_all d.Atoms (drossref18_Same_l3 l l (k : Int)) (fun _ => true) false
      (fun j a hx hk hp => by
        have e : ((((a.Left.Var == a.Left.Var) && ((a.Left.Attr == a.Left.Attr) && ((a.Left.Value.Kind == a.Left.Value.Kind) && ((a.Left.Value.Num == a.Left.Value.Num) && (a.Left.Value.Str == a.Left.Value.Str))))) && ((a.Op == a.Op) && ((a.Right.Var == a.Right.Var) && ((a.Right.Attr == a.Right.Attr) && ((a.Right.Value.Kind == a.Right.Value.Kind) && ((a.Right.Value.Num == a.Right.Value.Num) && (a.Right.Value.Str == a.Right.Value.Str)))))))) = true := by simp
        simp only [drossref18_Same_l3, idx_get hd, Option.bind_some, if_pos (lt_true hx), idx_get hx, if_pos e, wrap_succ hk (show d.Atoms.length ≤ 4611686018427387904 by have := ha d (List.mem_of_getElem? hd); omega)])
      (fun j a hx hp => by cases hp)
      (by simp [drossref18_Same_l3, idx_get hd])
    rw [h]; simp
  have h := LoopF_all l (drossref18_Same_l4 l l) (fun _ => true) false
    (fun k d hd hk hp => by
      simp only [drossref18_Same_l4, if_pos (lt_true hd), idx_get hd, Option.bind_some, bne_self_eq_false, Bool.false_eq_true, if_false, inner k d hd, wrap_succ hk (show l.length ≤ 4611686018427387904 by omega)])
    (fun k d hd hp => by cases hp)
    (by simp [drossref18_Same_l4])
  unfold drossref18_Same
  rw [if_neg (by simp), h, Option.bind_some]
  have : (l.all fun _ => true) = true := by simp
  rw [this]; rfl
theorem viol_at {t : Table} (H : DT t) {d : Denial} (he : denErr t d = 0) (hl : d.Atoms.length ≤ 1048576) : denial_Violations t d = some (setO (violL t d), 0) := by
  rw [DViolations_eq t d H.ok H.str H.few hl]
  unfold violR
  rw [if_pos he]
theorem awake18 : drosslaw18_awake = some true := by
  have h1 : denial_FromFD 2 (FD.mk 1 2) = some ([want18], 0) := by
    have h := FromFD_eq (n := 2) (s := 1) (r := 2) (by omega) (by omega) (by omega)
    have e : (if fdB 2 1 2 = true then (fdL 1 2, (0 : Int)) else ([], 1)) = ([want18], 0) := by decide +kernel
    rw [e] at h
    exact h
  have h2 : denial_Violations exT18 want18 = some ([[1, 2]], 0) := by
    rw [viol_at ex_dt (by decide +kernel) (by decide), viol_want]
  have h3 : denial_Violations exT18 less18 = some ([[1], [2]], 0) := by
    rw [viol_at ex_dt (by decide +kernel) (by decide), viol_less]
  have h4 : denial_FromOD 2 (OD.mk [0] [1]) = some (odL [0] [1], 0) := by
    have h := FromOD_eq 2 (OD.mk [0] [1]) (by simp) (by simp)
    have e : odR 2 (OD.mk [0] [1]) = (odL [0] [1], 0) := by decide +kernel
    rw [e] at h
    exact h
  have h5 : ((odL [0] [1]).length : Int) = 2 := by decide +kernel
  have h6 := Same_self18 [want18] (by simp) (by simp [want18])
  have h7 := Lists_self [[1, 2]] (by simp) (by simp)
  have h8 := Lists_self [[1], [2]] (by simp) (by simp)
  have h9 := Contradictory_eq no18 (by decide)
  have h10 := Contradictory_eq yes18 (by decide)
  rw [no_contra] at h9
  rw [yes_contra] at h10
  have h2' : denial_Violations exT18 (Denial.mk 2 [(Atom.mk (Term.mk 1 0 (Value.mk 0 0 [])) 1 (Term.mk 2 0 (Value.mk 0 0 []))), (Atom.mk (Term.mk 1 1 (Value.mk 0 0 [])) 2 (Term.mk 2 1 (Value.mk 0 0 [])))]) = _ := h2
  have h3' : denial_Violations exT18 (Denial.mk 1 [(Atom.mk (Term.mk 1 0 (Value.mk 0 0 [])) 3 (Term.mk 0 0 (Value.mk 1 6 [])))]) = _ := h3
  have h6' : drossref18_Same [want18] [(Denial.mk 2 [(Atom.mk (Term.mk 1 0 (Value.mk 0 0 [])) 1 (Term.mk 2 0 (Value.mk 0 0 []))), (Atom.mk (Term.mk 1 1 (Value.mk 0 0 [])) 2 (Term.mk 2 1 (Value.mk 0 0 [])))])] = _ := h6
  have h9' : denial_Contradictory [(Atom.mk (Term.mk 1 0 (Value.mk 0 0 [])) 3 (Term.mk 1 1 (Value.mk 0 0 []))), (Atom.mk (Term.mk 1 1 (Value.mk 0 0 [])) 4 (Term.mk 0 0 (Value.mk 1 5 []))), (Atom.mk (Term.mk 0 0 (Value.mk 1 6 [])) 3 (Term.mk 1 0 (Value.mk 0 0 [])))] = _ := h9
  have h10' : denial_Contradictory [(Atom.mk (Term.mk 1 0 (Value.mk 0 0 [])) 3 (Term.mk 0 0 (Value.mk 1 2 []))), (Atom.mk (Term.mk 0 0 (Value.mk 1 1 [])) 3 (Term.mk 1 0 (Value.mk 0 0 [])))] = _ := h10
  simp only [drosslaw18_awake, Wide18, h1, drosslaw18_at, drosslaw18_num, Option.bind_some, h2', h3', h4, bne_self_eq_false, Bool.false_eq_true, if_false, h6', if_true, h7, h8, h5, h9', h10', Bool.not_false]
end Go.Proofs.YtlaodgbkpmdhoaaGreatDoor
/- The law DenialValid. -/
set_option linter.unusedVariables false
set_option linter.unusedSimpArgs false
namespace Go.Proofs.YtlaodgbkpmdhoaaGreatDoor
open Go Go.Ab
theorem DenialValid_holds (n : Int) (d : Denial) (h0 : okI .i64 n) (h : okDenial d) : drosslaw18_DenialValid n d = some true := by
  have hl : d.Atoms.length ≤ 1048576 := h.2.1
  by_cases h25 : (d.Atoms.length : Int) > 25
  · simp only [drosslaw18_DenialValid, awake18, Option.bind_some, if_true, h25, decide_true]
  · have hc : drosslaw18_copied d = some d := by
      unfold drosslaw18_copied slices_Clone_Atom
      rw [if_pos (room_le (by omega) (by omega))]; rfl
    have hL : ∃ o, LoopF (drosslaw18_DenialValid_l1 d) 0 = some o ∧ (o = .inl () ∨ o = .inr true) := by
      have key : ∀ (r : List Atom) (k : Nat), d.Atoms.drop k = r → k ≤ d.Atoms.length → ∃ o, LoopF (drosslaw18_DenialValid_l1 d) (k : Int) = some o ∧ (o = .inl () ∨ o = .inr true) := by
        intro r
        induction r with
        | nil =>
          intro k hd hk
          have := drop_n18 hd hk
          subst this
          exact ⟨_, Loop_done (t := .inl ()) (by simp [drosslaw18_DenialValid_l1]), .inl rfl⟩
        | cons a r ih =>
          intro k hd hk
          obtain ⟨x1, x2, x3⟩ := drop_c18 hd
          by_cases hs : (IntKind.i64.wrap ((a.Left.Value.Str.length : Int) + (a.Right.Value.Str.length : Int))) > 500
          · exact ⟨_, Loop_done (t := .inr true) (by simp only [drosslaw18_DenialValid_l1, if_pos (lt_true x1), idx_get x1, Option.bind_some, if_pos hs]), .inr rfl⟩
          · obtain ⟨o, ho1, ho2⟩ := ih (k + 1) x2 x3
            refine ⟨o, ?_, ho2⟩
            rw [Loop_next (s' := ((k + 1 : Nat) : Int)) (by simp only [drosslaw18_DenialValid_l1, if_pos (lt_true x1), idx_get x1, Option.bind_some, if_neg hs, wrap_succ x3 (show d.Atoms.length ≤ 4611686018427387904 by omega)])]
            exact ho1
      exact key d.Atoms 0 rfl (Nat.zero_le _)
    obtain ⟨o, ho1, ho2⟩ := hL
    simp only [drosslaw18_DenialValid, awake18, Option.bind_some, if_true, h25, decide_false, Bool.false_eq_true, if_false, ho1]
    rcases ho2 with rfl | rfl
    · simp only [hc, Option.bind_some, DValid_eq n d hl, ref_DValid_eq n d hl, beq_self_eq_true]
    · rfl
end Go.Proofs.YtlaodgbkpmdhoaaGreatDoor
