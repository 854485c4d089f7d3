/- The Lean functions that the program's functions are lifted to, and the plain laws about them. -/
import Derived.Test.YtlaodgbkpmdhoaaGreatDoorL1
/- Denial: what Contradictory computes. -/
set_option linter.unusedVariables false
set_option linter.unusedSimpArgs false
namespace Go.Proofs.YtlaodgbkpmdhoaaGreatDoor
open Go Go.Ab

theorem teq_eq (v x : Term) : ((v.Var == x.Var) && ((v.Attr == x.Attr) && ((v.Value.Kind == x.Value.Kind) && ((v.Value.Num == x.Value.Num) && (v.Value.Str == x.Value.Str))))) = decide (x = v) := by
  obtain ⟨a, b, ⟨c, d, e⟩⟩ := v
  obtain ⟨a', b', ⟨c', d', e'⟩⟩ := x
  rw [Bool.eq_iff_iff]
  simp only [Bool.and_eq_true, beq_iff_eq, decide_eq_true_eq, Term.mk.injEq, Value.mk.injEq]
  constructor
  · rintro ⟨rfl, rfl, rfl, rfl, rfl⟩; exact ⟨rfl, rfl, rfl, rfl, rfl⟩
  · rintro ⟨rfl, rfl, rfl, rfl, rfl⟩; exact ⟨rfl, rfl, rfl, rfl, rfl⟩
def posT (T : List Term) (t : Term) : Nat := (T.findIdx? fun y => decide (y = t)).getD T.length
theorem posT_mem {T : List Term} {t : Term} (h : t ∈ T) : (T.findIdx? fun y => decide (y = t)) = some (posT T t) ∧ posT T t < T.length := by
  unfold posT
  cases hf : T.findIdx? fun y => decide (y = t) with
  | none =>
    rw [List.findIdx?_eq_none_iff] at hf
    have := hf t h
    simp at this
  | some i =>
    rw [List.findIdx?_eq_some_iff_getElem] at hf
    obtain ⟨hi, _⟩ := hf
    exact ⟨rfl, hi⟩
theorem posT_not {T : List Term} {t : Term} (h : t ∉ T) : (T.findIdx? fun y => decide (y = t)) = none ∧ posT T t = T.length := by
  have hf : (T.findIdx? fun y => decide (y = t)) = none := by
    rw [List.findIdx?_eq_none_iff]
    intro x hx
    simp only [decide_eq_false_iff_not]
    rintro rfl; exact h hx
  exact ⟨hf, by unfold posT; rw [hf]; rfl⟩
theorem Index_Term_eq (T : List Term) (t : Term) (hl : T.length ≤ 1000000) : slices_Index_Term T t = some (if t ∈ T then (posT T t : Int) else -1) := by
  have h := LoopF_find T (slices_Index_Term_l1 T t) (fun y => decide (y = t))
    (fun k x hx hk hp => by simp only [slices_Index_Term_l1, if_pos (lt_true hx), idx_get hx, Option.bind_some, teq_eq, hp, Bool.false_eq_true, if_false, wrap_succ hk (show T.length ≤ 4611686018427387904 by omega)])
    (fun k x hx hp => by simp only [slices_Index_Term_l1, if_pos (lt_true hx), idx_get hx, Option.bind_some, teq_eq, hp, if_true])
    (by simp [slices_Index_Term_l1])
  unfold slices_Index_Term
  rw [h, Option.bind_some]
  by_cases hm : t ∈ T
  · rw [if_pos hm, (posT_mem hm).1]
  · rw [if_neg hm, (posT_not hm).1]
def nodeT (T : List Term) (t : Term) : List Term := if t ∈ T then T else T ++ [t]
def nodeF (T : List Term) (F : FnM) (t : Term) : FnM := if t ∈ T then F else updM F T.length T.length 1
def putsA (op : Int) (l r : Nat) (F : FnM) : FnM := if op = 1 then putM (putM F l r 1) r l 1 else if op = 3 then putM F l r 2 else if op = 4 then putM F l r 1 else F
def stepA18 (S : List Term × FnM) (a : Atom) : List Term × FnM :=
  (nodeT (nodeT S.1 a.Left) a.Right, putsA a.Op (posT S.1 a.Left) (posT (nodeT S.1 a.Left) a.Right) (nodeF (nodeT S.1 a.Left) (nodeF S.1 S.2 a.Left) a.Right))
theorem nodeT_len (T : List Term) (t : Term) : T.length ≤ (nodeT T t).length ∧ (nodeT T t).length ≤ T.length + 1 ∧ posT T t < (nodeT T t).length := by
  unfold nodeT
  by_cases h : t ∈ T
  · rw [if_pos h]; exact ⟨by omega, by omega, (posT_mem h).2⟩
  · rw [if_neg h, (posT_not h).2]; simp
theorem node_sup {T : List Term} {F : FnM} (t : Term) (h : supM T.length F) : supM (nodeT T t).length (nodeF T F t) := by
  unfold nodeT nodeF
  by_cases hm : t ∈ T
  · rw [if_pos hm, if_pos hm]; exact h
  · rw [if_neg hm, if_neg hm]
    rw [show (T ++ [t]).length = T.length + 1 by simp]
    exact supM_upd (supM_le h (by omega)) (by omega) (by omega)
theorem putM_sup {n : Nat} {F : FnM} {i j : Nat} {w : Int} (h : supM n F) (hi : i < n) (hj : j < n) : supM n (putM F i j w) := supM_upd h hi hj
theorem putsA_sup {n : Nat} {F : FnM} {l r : Nat} (op : Int) (h : supM n F) (hl : l < n) (hr : r < n) : supM n (putsA op l r F) := by
  unfold putsA
  split
  · exact putM_sup (putM_sup h hl hr) hr hl
  · split
    · exact putM_sup h hl hr
    · split
      · exact putM_sup h hl hr
      · exact h
theorem step_sup {S : List Term × FnM} (a : Atom) (h : supM S.1.length S.2) : supM (stepA18 S a).1.length (stepA18 S a).2 := by
  have h1 := nodeT_len S.1 a.Left
  have h2 := nodeT_len (nodeT S.1 a.Left) a.Right
  exact putsA_sup _ (node_sup a.Right (node_sup a.Left h)) (show posT S.1 a.Left < (nodeT (nodeT S.1 a.Left) a.Right).length by omega) h2.2.2
theorem step_len (S : List Term × FnM) (a : Atom) : S.1.length ≤ (stepA18 S a).1.length ∧ (stepA18 S a).1.length ≤ S.1.length + 2 := by
  have h1 := nodeT_len S.1 a.Left
  have h2 := nodeT_len (nodeT S.1 a.Left) a.Right
  show S.1.length ≤ (nodeT (nodeT S.1 a.Left) a.Right).length ∧ (nodeT (nodeT S.1 a.Left) a.Right).length ≤ S.1.length + 2
  omega
theorem rows_short {n : Nat} (hn : n ≤ 1000) {F : FnM} : ∀ x ∈ matF n F, x.length ≤ 1000 := by
  intro x hx
  obtain ⟨i, _, rfl⟩ := List.mem_map.1 hx
  rw [rowF_len]; exact hn
theorem last_nat {n : Nat} (h : n ≤ 1000000) : (IntKind.i64.wrap ((((n + 1) : Nat) : Int) - 1)) = (n : Int) := wrap_last h
/-- the rest of node -/
theorem node_tail {α : Type} {n : Nat} (hn : n ≤ 900) {F : FnM} (hs : supM n F) (K : List Int → List (List Int) → Option α) :
    (if 0 ≤ (((n + 1) : Nat) : Int) then (if roomB (n + 1) 8 = true then (if roomB (((matF n F).map fun x => x ++ [0]).length + 1) 24 = true then
      (idx (((matF n F).map fun x => x ++ [0]) ++ [(List.replicate (n + 1) 0)]) (IntKind.i64.wrap ((((n + 1) : Nat) : Int) - 1))).bind fun (x : List Int) =>
      (idx x (IntKind.i64.wrap ((((n + 1) : Nat) : Int) - 1))).bind fun (y : Int) =>
      K x ((((matF n F).map fun x => x ++ [0]) ++ [(List.replicate (n + 1) 0)]).set ((IntKind.i64.wrap ((((n + 1) : Nat) : Int) - 1)).toNat) (x.set (IntKind.i64.wrap ((((n + 1) : Nat) : Int) - 1)).toNat 1))
      else none) else none) else none) = K (rowF (n + 1) F n) (matF (n + 1) (updM F n n 1)) := by
  rw [matF_grow hs, last_nat (by omega), if_pos (by omega), if_pos (room8 (by omega)), if_pos (room_le (by rw [List.length_map, matF_len]; omega) (by omega))]
  rw [idx_get (matF_get (show n < n + 1 by omega)), Option.bind_some, idx_get (rowF_get (show n < n + 1 by omega)), Option.bind_some, Int.toNat_natCast, matF_set (by omega) (by omega)]
theorem puts_eq {n : Nat} {F : FnM} {l r : Nat} (hl : l < n) (hr : r < n) (T : List Term) (op k : Int) {τ : Type} :
    (if (op == 1) = true then
      (idx (matF n F) (l : Int)).bind fun (x : List Int) => (idx x (r : Int)).bind fun (y : Int) =>
      (idx ((matF n F).set ((l : Int)).toNat (x.set ((r : Int)).toNat (if 1 > y then 1 else y))) (r : Int)).bind fun (x2 : List Int) => (idx x2 (l : Int)).bind fun (y2 : Int) =>
      some (LS.next (T, (((matF n F).set ((l : Int)).toNat (x.set ((r : Int)).toNat (if 1 > y then 1 else y))).set ((r : Int)).toNat (x2.set ((l : Int)).toNat (if 1 > y2 then 1 else y2))), k))
    else if (op == 3) = true then
      (idx (matF n F) (l : Int)).bind fun (x : List Int) => (idx x (r : Int)).bind fun (y : Int) =>
      some (LS.next (T, ((matF n F).set ((l : Int)).toNat (x.set ((r : Int)).toNat (if 2 > y then 2 else y))), k))
    else if (op == 4) = true then
      (idx (matF n F) (l : Int)).bind fun (x : List Int) => (idx x (r : Int)).bind fun (y : Int) =>
      some (LS.next (T, ((matF n F).set ((l : Int)).toNat (x.set ((r : Int)).toNat (if 1 > y then 1 else y))), k))
    else some (LS.next (T, matF n F, k))) = (some (LS.next (T, matF n (putsA op l r F), k)) : Option (LS (List Term × List (List Int) × Int) τ)) := by
  have e1 := matF_get (F := F) hl
  have e2 := rowF_get (F := F) (i := l) hr
  unfold putsA
  by_cases h1 : op = 1
  · have e3 := matF_get (F := putM F l r 1) hr
    have e4 := rowF_get (F := putM F l r 1) (i := r) hl
    unfold putM at e3 e4
    rw [if_pos (by simpa using h1), if_pos h1]
    simp only [idx_get e1, idx_get e2, Option.bind_some, Int.toNat_natCast, matF_set hl hr, ite_max, idx_get e3, idx_get e4, matF_set hr hl]
    rfl
  · rw [if_neg (by simpa using h1), if_neg h1]
    by_cases h3 : op = 3
    · rw [if_pos (by simpa using h3), if_pos h3]
      simp only [idx_get e1, idx_get e2, Option.bind_some, Int.toNat_natCast, matF_set hl hr, ite_max]
      rfl
    · rw [if_neg (by simpa using h3), if_neg h3]
      by_cases h4 : op = 4
      · rw [if_pos (by simpa using h4), if_pos h4]
        simp only [idx_get e1, idx_get e2, Option.bind_some, Int.toNat_natCast, matF_set hl hr, ite_max]
        rfl
      · rw [if_neg (by simpa using h4), if_neg h4]
theorem l19_step (atoms : List Atom) {T : List Term} {F : FnM} {k : Nat} {a : Atom} (hk : atoms[k]? = some a) (hn : T.length ≤ 500) (hs : supM T.length F) :
    denial_Contradictory_l19 atoms (T, matF T.length F, (k : Int)) = some (.next ((stepA18 (T, F) a).1, matF (stepA18 (T, F) a).1.length (stepA18 (T, F) a).2, IntKind.i64.wrap ((k : Int) + 1))) := by
  have i1 := Index_Term_eq T a.Left (by omega)
  have i2 := Index_Term_eq T a.Right (by omega)
  have g0 : LoopF (denial_Contradictory_l16 (matF T.length F)) (matF T.length F, 0) = some ((matF T.length F).map fun x => x ++ [0]) :=
    grow_loop18 (matF T.length F) T.length (matF_len _ _) (by omega) (rows_short (by omega)) _ (fun o k => by simp only [denial_Contradictory_l16, matF_len])
  have g0' : LoopF (denial_Contradictory_l17 (matF T.length F)) (matF T.length F, 0) = some ((matF T.length F).map fun x => x ++ [0]) := g0
  have hlen0 : (matF T.length F).length ≤ ((matF T.length F).map fun x => x ++ [0]).length := by rw [List.length_map]; exact Nat.le_refl _
  by_cases hL : a.Left ∈ T
  · obtain ⟨_, hl⟩ := posT_mem hL
    have hT1 : nodeT T a.Left = T := by unfold nodeT; rw [if_pos hL]
    have hF1 : nodeF T F a.Left = F := by unfold nodeF; rw [if_pos hL]
    by_cases hR : a.Right ∈ T
    · obtain ⟨_, hr⟩ := posT_mem hR
      have hT2 : nodeT T a.Right = T := by unfold nodeT; rw [if_pos hR]
      have hF2 : nodeF T F a.Right = F := by unfold nodeF; rw [if_pos hR]
      simp only [denial_Contradictory_l19, if_pos (lt_true hk), idx_get hk, Option.bind_some, i1, i2, if_pos hL, if_pos hR, if_pos (show (posT T a.Left : Int) ≥ 0 by omega), if_pos (show (posT T a.Right : Int) ≥ 0 by omega)]
      rw [puts_eq hl hr]
      simp only [stepA18, hT1, hF1, hT2, hF2]
    · obtain ⟨_, hr⟩ := posT_not hR
      have hT2 : nodeT T a.Right = T ++ [a.Right] := by unfold nodeT; rw [if_neg hR]
      have hF2 : nodeF T F a.Right = updM F T.length T.length 1 := by unfold nodeF; rw [if_neg hR]
      simp only [denial_Contradictory_l19, if_pos (lt_true hk), idx_get hk, Option.bind_some, i1, i2, if_pos hL, if_neg hR, if_pos (show (posT T a.Left : Int) ≥ 0 by omega), if_neg (show ¬ (-1 : Int) ≥ 0 by omega), room_le (show T.length + 1 ≤ 1073741824 by omega) (show 48 ≤ 65536 by omega), if_true, g0, if_pos hlen0]
      have nt := node_tail (show T.length ≤ 900 by omega) hs (fun _ M => (some (T ++ [a.Right], M, ((posT T a.Left : Nat) : Int), IntKind.i64.wrap ((((T.length + 1) : Nat) : Int) - 1)) : Option (List Term × List (List Int) × Int × Int)))
      rw [nt]
      simp only [Option.bind_some, last_nat (show T.length ≤ 1000000 by omega)]
      rw [puts_eq (show posT T a.Left < T.length + 1 by omega) (show T.length < T.length + 1 by omega)]
      simp only [stepA18, hT1, hF1, hT2, hF2, hr, List.length_append, List.length_singleton]
  · obtain ⟨_, hl⟩ := posT_not hL
    have hT1 : nodeT T a.Left = T ++ [a.Left] := by unfold nodeT; rw [if_neg hL]
    have hF1 : nodeF T F a.Left = updM F T.length T.length 1 := by unfold nodeF; rw [if_neg hL]
    have hs1 : supM (T.length + 1) (updM F T.length T.length 1) := supM_upd (supM_le hs (by omega)) (by omega) (by omega)
    have i3 := Index_Term_eq (T ++ [a.Left]) a.Right (by simp; omega)
    simp only [denial_Contradictory_l19, if_pos (lt_true hk), idx_get hk, Option.bind_some, i1, if_neg hL, if_neg (show ¬ (-1 : Int) ≥ 0 by omega), room_le (show T.length + 1 ≤ 1073741824 by omega) (show 48 ≤ 65536 by omega), if_true, g0', if_pos hlen0, i3]
    by_cases hR : a.Right ∈ T ++ [a.Left]
    · obtain ⟨_, hr⟩ := posT_mem hR
      have hT2 : nodeT (T ++ [a.Left]) a.Right = T ++ [a.Left] := by unfold nodeT; rw [if_pos hR]
      have hF2 : nodeF (T ++ [a.Left]) (updM F T.length T.length 1) a.Right = updM F T.length T.length 1 := by unfold nodeF; rw [if_pos hR]
      simp only [if_pos hR, if_pos (show (posT (T ++ [a.Left]) a.Right : Int) ≥ 0 by omega)]
      have nt := node_tail (show T.length ≤ 900 by omega) hs (fun _ M => (some (T ++ [a.Left], M, IntKind.i64.wrap ((((T.length + 1) : Nat) : Int) - 1), ((posT (T ++ [a.Left]) a.Right : Nat) : Int)) : Option (List Term × List (List Int) × Int × Int)))
      rw [nt]
      simp only [Option.bind_some, last_nat (show T.length ≤ 1000000 by omega)]
      rw [List.length_append, List.length_singleton] at hr
      rw [puts_eq (show T.length < T.length + 1 by omega) hr]
      simp only [stepA18, hT1, hF1, hT2, hF2, hl, List.length_append, List.length_singleton]
    · obtain ⟨_, hr⟩ := posT_not hR
      have hT2 : nodeT (T ++ [a.Left]) a.Right = (T ++ [a.Left]) ++ [a.Right] := by unfold nodeT; rw [if_neg hR]
      have hF2 : nodeF (T ++ [a.Left]) (updM F T.length T.length 1) a.Right = updM (updM F T.length T.length 1) (T.length + 1) (T.length + 1) 1 := by
        unfold nodeF; rw [if_neg hR]; simp
      simp only [if_neg hR, if_neg (show ¬ (-1 : Int) ≥ 0 by omega), room_le (show T.length + 1 + 1 ≤ 1073741824 by omega) (show 48 ≤ 65536 by omega), if_true]
      have nt := node_tail (show T.length ≤ 900 by omega) hs (fun (x : List Int) M => (LoopF (denial_Contradictory_l18 T ((matF T.length F).map fun x => x ++ [0]) x) (M, 0)).bind (fun (o3 : List (List Int)) =>
        if (((matF T.length F).map fun x => x ++ [0]) ++ [(List.replicate (T.length + 1) 0)]).length ≤ o3.length then
        if 0 ≤ ((((T.length + 1) + 1) : Nat) : Int) then
        if roomB ((T.length + 1) + 1) 8 = true then
        if roomB (o3.length + 1) 24 = true then
        (idx (o3 ++ [(List.replicate ((T.length + 1) + 1) 0)]) (IntKind.i64.wrap (((((T.length + 1) + 1) : Nat) : Int) - 1))).bind fun (x2 : List Int) =>
        (idx x2 (IntKind.i64.wrap (((((T.length + 1) + 1) : Nat) : Int) - 1))).bind fun (y2 : Int) =>
        if (matF T.length F).length ≤ o3.length then
        (some (((T ++ [a.Left]) ++ [a.Right]), ((o3 ++ [(List.replicate ((T.length + 1) + 1) 0)]).set ((IntKind.i64.wrap (((((T.length + 1) + 1) : Nat) : Int) - 1)).toNat) (x2.set (IntKind.i64.wrap (((((T.length + 1) + 1) : Nat) : Int) - 1)).toNat 1)), (IntKind.i64.wrap ((((T.length + 1) : Nat) : Int) - 1)), (IntKind.i64.wrap (((((T.length + 1) + 1) : Nat) : Int) - 1))) : Option (List Term × List (List Int) × Int × Int))
        else none else none else none else none else none))
      rw [nt]
      have g1 : LoopF (denial_Contradictory_l18 T ((matF T.length F).map fun x => x ++ [0]) (rowF (T.length + 1) F T.length)) (matF (T.length + 1) (updM F T.length T.length 1), 0) = some ((matF (T.length + 1) (updM F T.length T.length 1)).map fun x => x ++ [0]) :=
        grow_loop18 (matF (T.length + 1) (updM F T.length T.length 1)) (T.length + 1) (matF_len _ _) (by omega) (rows_short (by omega)) _ (fun o k => by simp only [denial_Contradictory_l18, List.length_append, List.length_map, matF_len, List.length_singleton, List.length_set])
      have hlen1 : (((matF T.length F).map fun x => x ++ [0]) ++ [(List.replicate (T.length + 1) 0)]).length ≤ ((matF (T.length + 1) (updM F T.length T.length 1)).map fun x => x ++ [0]).length := by simp [matF_len]
      have hlen2 : (matF T.length F).length ≤ ((matF (T.length + 1) (updM F T.length T.length 1)).map fun x => x ++ [0]).length := by simp [matF_len]
      simp only [g1, Option.bind_some, if_pos hlen1, if_pos hlen2]
      have nt2 := node_tail (show T.length + 1 ≤ 900 by omega) hs1 (fun (x : List Int) M => (some (((T ++ [a.Left]) ++ [a.Right]), M, (IntKind.i64.wrap ((((T.length + 1) : Nat) : Int) - 1)), (IntKind.i64.wrap (((((T.length + 1) + 1) : Nat) : Int) - 1))) : Option (List Term × List (List Int) × Int × Int)))
      rw [nt2]
      simp only [Option.bind_some, last_nat (show T.length ≤ 1000000 by omega), last_nat (show T.length + 1 ≤ 1000000 by omega)]
      rw [puts_eq (show T.length < T.length + 1 + 1 by omega) (show T.length + 1 < T.length + 1 + 1 by omega)]
      simp only [stepA18, hT1, hF1, hT2, hF2, hl, hr, List.length_append, List.length_singleton]
/-- terms and matrix of the atoms -/
def foldA18 (atoms : List Atom) : List Term × FnM := atoms.foldl stepA18 ([], zeroF)
theorem foldA_ok : ∀ (l : List Atom) (S : List Term × FnM), supM S.1.length S.2 → supM (l.foldl stepA18 S).1.length (l.foldl stepA18 S).2 ∧ (l.foldl stepA18 S).1.length ≤ S.1.length + 2 * l.length
  | [], S, h => ⟨h, by simp⟩
  | a :: l, S, h => by
    rw [List.foldl_cons]
    obtain ⟨h1, h2⟩ := foldA_ok l (stepA18 S a) (step_sup a h)
    have := step_len S a
    refine ⟨h1, ?_⟩
    rw [List.length_cons]; omega
theorem l19_loop (atoms : List Atom) (hl : atoms.length ≤ 100) : LoopF (denial_Contradictory_l19 atoms) ([], [], 0) = some ((foldA18 atoms).1, matF (foldA18 atoms).1.length (foldA18 atoms).2) := by
  have h := LoopF_foldl atoms (fun (S : List Term × FnM) (i : Int) => (S.1, matF S.1.length S.2, i)) (denial_Contradictory_l19 atoms) stepA18 (fun S => (S.1, matF S.1.length S.2)) (fun k S => supM S.1.length S.2 ∧ S.1.length ≤ 2 * k) (b0 := ([], zeroF)) (s0 := ([], [], 0)) rfl ⟨fun _ _ _ => rfl, Nat.le_refl _⟩
    (fun k S x hx hk hI => by
      obtain ⟨hI1, hI2⟩ := hI
      refine ⟨?_, step_sup x hI1, by have := step_len S x; omega⟩
      rw [l19_step atoms hx (by omega) hI1, wrap_succ hk (by omega)])
    (fun S _ => by simp [denial_Contradictory_l19])
  exact h
/-- the diagonal -/
theorem l50_loop (T : List Term) (hn : T.length ≤ 1000) (F : FnM) : LoopF (denial_Contradictory_l50 T (matF T.length F)) 0 = some (if (List.range T.length).all (fun i => decide (F i i ≠ 2)) then .inl () else .inr true) := by
  refine LoopF_all (List.range T.length) _ (fun i => decide (F i i ≠ 2)) true (fun k x hx hk hp => ?_) (fun k x hx hp => ?_) (by simp [denial_Contradictory_l50])
  · rw [List.length_range] at hk
    obtain ⟨rfl, _⟩ := range_at hx
    have hp' : ¬ ((F x x == 2) = true) := by simpa using hp
    simp only [denial_Contradictory_l50, if_pos (show (x : Int) < ((T.length : Nat) : Int) by omega), idx_get (matF_get hk), idx_get (rowF_get hk), Option.bind_some, if_neg hp', wrap_succ hk (show T.length ≤ 4611686018427387904 by omega)]
  · obtain ⟨rfl, hk⟩ := range_at hx
    have hp' : (F x x == 2) = true := by simpa using hp
    simp only [denial_Contradictory_l50, if_pos (show (x : Int) < ((T.length : Nat) : Int) by omega), idx_get (matF_get hk), idx_get (rowF_get hk), Option.bind_some, if_pos hp']
def clash (T : List Term) (F : FnM) (a : Atom) : Bool := decide (a.Op = 2) && (decide (0 < F (posT T a.Left) (posT T a.Right)) && decide (0 < F (posT T a.Right) (posT T a.Left)))
theorem l69_loop (atoms : List Atom) (hl : atoms.length ≤ 100) (T : List Term) (hn : T.length ≤ 1000) (hT : ∀ a ∈ atoms, a.Left ∈ T ∧ a.Right ∈ T) (F : FnM) :
    ∃ o, LoopF (denial_Contradictory_l69 atoms (matF T.length F)) (T, matF T.length F, 0) = some o ∧ (if atoms.any (clash T F) = true then ∃ k : Nat, o = .inr ((k : Int), T, matF T.length F) else o = .inl (T, matF T.length F)) := by
  have key : ∀ (r : List Atom) (k : Nat), atoms.drop k = r → k ≤ atoms.length → ∃ o, LoopF (denial_Contradictory_l69 atoms (matF T.length F)) (T, matF T.length F, (k : Int)) = some o ∧ (if r.any (clash T F) = true then ∃ k : Nat, o = .inr ((k : Int), T, matF T.length F) else o = .inl (T, matF T.length F)) := by
    intro r
    induction r with
    | nil =>
      intro k hd hk
      have := drop_n18 hd hk
      subst this
      exact ⟨_, Loop_done (t := .inl (T, matF T.length F)) (by simp [denial_Contradictory_l69]), by simp⟩
    | cons a r ih =>
      intro k hd hk
      obtain ⟨x1, x2, x3⟩ := drop_c18 hd
      obtain ⟨hL, hR⟩ := hT a (List.mem_of_getElem? x1)
      obtain ⟨_, hl'⟩ := posT_mem hL
      obtain ⟨_, hr'⟩ := posT_mem hR
      have e1 := matF_get (F := F) hl'
      have e2 := rowF_get (F := F) (i := posT T a.Left) hr'
      have e3 := matF_get (F := F) hr'
      have e4 := rowF_get (F := F) (i := posT T a.Right) hl'
      have hstep : denial_Contradictory_l69 atoms (matF T.length F) (T, matF T.length F, (k : Int)) = if clash T F a = true then some (.done (.inr ((k : Int), T, matF T.length F))) else some (.next (T, matF T.length F, ((k + 1 : Nat) : Int))) := by
        simp only [denial_Contradictory_l69, Nat.le_refl, if_true, if_pos (lt_true x1), idx_get x1, Option.bind_some, Index_Term_eq T a.Left (by omega), Index_Term_eq T a.Right (by omega), if_pos hL, if_pos hR, if_pos (show (posT T a.Left : Int) ≥ 0 by omega), if_pos (show (posT T a.Right : Int) ≥ 0 by omega), wrap_succ x3 (show atoms.length ≤ 4611686018427387904 by omega)]
        unfold clash
        by_cases h2 : a.Op = 2
        · rw [if_pos (by simpa using h2)]
          simp only [idx_get e1, idx_get e2, Option.bind_some, h2, decide_true, Bool.true_and]
          by_cases h3 : F (posT T a.Left) (posT T a.Right) > 0
          · rw [if_pos h3]
            simp only [idx_get e3, idx_get e4, Option.bind_some, show decide (0 < F (posT T a.Left) (posT T a.Right)) = true by simpa using h3, Bool.true_and, decide_eq_true_eq]
          · rw [if_neg h3]
            simp only [show decide (0 < F (posT T a.Left) (posT T a.Right)) = false by simpa using h3, Bool.false_and, Bool.false_eq_true, if_false]
        · rw [if_neg (by simpa using h2)]
          simp [h2]
      cases hc : clash T F a with
      | true =>
        rw [hc] at hstep
        exact ⟨_, Loop_done hstep, by simp only [List.any_cons, hc, Bool.true_or, if_true]; exact ⟨k, rfl⟩⟩
      | false =>
        rw [hc] at hstep
        simp only [Bool.false_eq_true, if_false] at hstep
        obtain ⟨o, ho1, ho2⟩ := ih (k + 1) x2 x3
        exact ⟨o, by rw [Loop_next hstep]; exact ho1, by simpa only [List.any_cons, hc, Bool.false_or] using ho2⟩
  exact key atoms 0 rfl (Nat.zero_le _)
def contraB (atoms : List Atom) : Bool :=
  let S := foldA18 atoms
  let F := closeF S.1.length (constM S.1 S.2)
  (List.range S.1.length).any (fun i => decide (F i i = 2)) || atoms.any (clash S.1 F)
theorem node_mem {T : List Term} {t : Term} : t ∈ nodeT T t ∧ ∀ x ∈ T, x ∈ nodeT T t := by
  unfold nodeT
  by_cases h : t ∈ T
  · rw [if_pos h]; exact ⟨h, fun x hx => hx⟩
  · rw [if_neg h]; exact ⟨by simp, fun x hx => by simp [hx]⟩
theorem foldA_mem : ∀ (l : List Atom) (S : List Term × FnM), (∀ x ∈ S.1, x ∈ (l.foldl stepA18 S).1) ∧ ∀ a ∈ l, a.Left ∈ (l.foldl stepA18 S).1 ∧ a.Right ∈ (l.foldl stepA18 S).1
  | [], S => ⟨fun x hx => hx, by simp⟩
  | a :: l, S => by
    rw [List.foldl_cons]
    obtain ⟨h1, h2⟩ := foldA_mem l (stepA18 S a)
    have m1 := @node_mem S.1 a.Left
    have m2 := @node_mem (nodeT S.1 a.Left) a.Right
    refine ⟨fun x hx => h1 x (m2.2 x (m1.2 x hx)), fun b hb => ?_⟩
    rcases List.mem_cons.1 hb with rfl | hb
    · exact ⟨h1 _ (m2.2 _ m1.1), h1 _ m2.1⟩
    · exact h2 b hb
theorem Contradictory_eq (atoms : List Atom) (hl : atoms.length ≤ 100) : denial_Contradictory atoms = some (contraB atoms) := by
  have hok := foldA_ok atoms ([], zeroF) (fun _ _ _ => rfl)
  have hmem := (foldA_mem atoms ([], zeroF)).2
  have hn : (foldA18 atoms).1.length ≤ 200 := by have := hok.2; simp at this; unfold foldA18; omega
  unfold denial_Contradictory contraB
  rw [l19_loop atoms hl]
  simp only [Option.bind_some]
  change ∀ a ∈ atoms, a.Left ∈ (foldA18 atoms).1 ∧ a.Right ∈ (foldA18 atoms).1 at hmem
  generalize (foldA18 atoms).1 = T at *
  generalize (foldA18 atoms).2 = F0 at *
  rw [const_23 T (by omega)]
  simp only [Option.bind_some]
  generalize constM T F0 = F1
  rw [clo_49 T rfl (by omega) (matF T.length F1) (matF_len _ _)]
  simp only [Option.bind_some, matF_len, Nat.le_refl, if_true]
  generalize closeF T.length F1 = F
  rw [l50_loop T (by omega)]
  simp only [Option.bind_some]
  have hany : ((List.range T.length).any fun i => decide (F i i = 2)) = !((List.range T.length).all fun i => decide (F i i ≠ 2)) := by
    rw [← any_not]
    simp only [Bool.not_not]
    congr 1
    funext i
    simp
  rw [hany]
  cases hd : (List.range T.length).all fun i => decide (F i i ≠ 2) with
  | false => simp
  | true =>
    obtain ⟨o, ho1, ho2⟩ := l69_loop atoms hl T (by omega) hmem F
    simp only [if_true, ho1, Option.bind_some, Bool.not_true, Bool.false_or]
    cases hc : atoms.any (clash T F) with
    | true =>
      rw [hc] at ho2
      simp only [if_true] at ho2
      obtain ⟨k, rfl⟩ := ho2
      simp [matF_len]
    | false =>
      rw [hc] at ho2
      simp only [Bool.false_eq_true, if_false] at ho2
      subst ho2
      simp [matF_len]
end Go.Proofs.YtlaodgbkpmdhoaaGreatDoor
/- Denial: the examples of the chapter. -/
set_option linter.unusedVariables false
set_option linter.unusedSimpArgs false
namespace Go.Proofs.YtlaodgbkpmdhoaaGreatDoor
open Go Go.Ab

def exT18 : Table := ⟨[114], [[97], [98]], [⟨1, [⟨1, 2, []⟩, ⟨1, 1, []⟩]⟩, ⟨2, [⟨1, 2, []⟩, ⟨1, 2, []⟩]⟩, ⟨3, [⟨1, 7, []⟩, ⟨1, 2, []⟩]⟩]⟩
theorem ofV18_1 : ofV 1 = ⟨1, 1, []⟩ := by simp [ofV, drossref01_Of]
theorem ofV18_2 : ofV 2 = ⟨1, 2, []⟩ := by simp [ofV, drossref01_Of]
theorem ofV18_11 : ofV 11 = ⟨1, 7, []⟩ := by simp [ofV, drossref01_Of]
theorem Wide18 : drossref03_Wide (Drossref03_Recipe.mk 0 0 [[2, 1], [2, 2], [11, 2]]) 2 = some exT18 := by
  have h := Wide_eq (Drossref03_Recipe.mk 0 0 [[2, 1], [2, 2], [11, 2]]) 2 (by omega) (by simp) (by simp) (by simp)
  have h' : drossref03_Wide (Drossref03_Recipe.mk 0 0 [[2, 1], [2, 2], [11, 2]]) 2 = some (wide (Drossref03_Recipe.mk 0 0 [[2, 1], [2, 2], [11, 2]]) 2) := h
  rw [h']
  have e : wide (Drossref03_Recipe.mk 0 0 [[2, 1], [2, 2], [11, 2]]) 2 = exT18 := by
    simp [wide, wrow, wval, wstep, exT18, wnames, List.range, List.range.loop, ofV18_1, ofV18_2, ofV18_11]
  rw [e]
def no18 : List Atom := [⟨atT 1 0, 3, atT 1 1⟩, ⟨atT 1 1, 4, ⟨0, 0, ⟨1, 5, []⟩⟩⟩, ⟨⟨0, 0, ⟨1, 6, []⟩⟩, 3, atT 1 0⟩]
def yes18 : List Atom := [⟨atT 1 0, 3, ⟨0, 0, ⟨1, 2, []⟩⟩⟩, ⟨⟨0, 0, ⟨1, 1, []⟩⟩, 3, atT 1 0⟩]
theorem no_contra : contraB no18 = true := by decide +kernel
theorem yes_contra : contraB yes18 = false := by decide +kernel
theorem ex_dt : DT exT18 := by
  have hv : ∀ r ∈ exT18.Rows, ∀ v ∈ r.Values, v.Str = [] := by decide
  refine ⟨⟨by decide, by decide, by decide, fun r hr v hvm => by rw [hv r hr v hvm]; simp⟩, by decide +kernel, by decide, fun r hr v hvm => by rw [hv r hr v hvm]; simp⟩
def want18 : Denial := ⟨2, [bothA 1 0, bothA 2 1]⟩
def less18 : Denial := ⟨1, [⟨atT 1 0, 3, ⟨0, 0, ⟨1, 6, []⟩⟩⟩]⟩
theorem idsA_of {rows : List Row} {l : List Int} (hp : (rows.map Row.ID).Perm l) (hs : l.Pairwise fun a b => a ≤ b) : idsA rows = l :=
  int_asc_unique ((srtI_perm _).trans hp) (srtI_sorted _) hs
def r18a : Row := ⟨1, [⟨1, 2, []⟩, ⟨1, 1, []⟩]⟩
def r18b : Row := ⟨2, [⟨1, 2, []⟩, ⟨1, 2, []⟩]⟩
theorem viol_want : setO (violL exT18 want18) = [[1, 2]] := by
  have h : (asgN exT18 want18.Vars.toNat).filter (fun a => want18.Atoms.all (satA a)) = [[r18a, r18b], [r18b, r18a]] := by decide +kernel
  have e1 : idsA [r18a, r18b] = [1, 2] := idsA_of (by decide) (by decide)
  have e2 : idsA [r18b, r18a] = [1, 2] := idsA_of (List.Perm.swap _ _ _) (by decide)
  unfold violL
  rw [h, List.map_cons, List.map_cons, e1, e2]
  decide
theorem viol_less : setO (violL exT18 less18) = [[1], [2]] := by
  have h : (asgN exT18 less18.Vars.toNat).filter (fun a => less18.Atoms.all (satA a)) = [[r18a], [r18b]] := by decide +kernel
  have e1 : idsA [r18a] = [1] := idsA_of (by decide) (by decide)
  have e2 : idsA [r18b] = [2] := idsA_of (by decide) (by decide)
  unfold violL
  rw [h, List.map_cons, List.map_cons, e1, e2]
  decide
theorem Same_self18 (l : List Denial) (hl : l.length ≤ 1000000) (ha : ∀ d ∈ l, d.Atoms.length ≤ 1000000) : drossref18_Same l l = some true := by
  have inner : ∀ (k : Nat) (d : Denial), l[k]? = some d → LoopF (drossref18_Same_l3 l l (k : Int)) 0 = some (.inl ()) := by
    intro k d hd
    have h := LoopF_all d.Atoms (drossref18_Same_l3 l l (k : Int)) (fun _ => true) false
      (fun j a hx hk hp => by
        have e : ((((a.Left.Var == a.Left.Var) && ((a.Left.Attr == a.Left.Attr) && ((a.Left.Value.Kind == a.Left.Value.Kind) && ((a.Left.Value.Num == a.Left.Value.Num) && (a.Left.Value.Str == a.Left.Value.Str))))) && ((a.Op == a.Op) && ((a.Right.Var == a.Right.Var) && ((a.Right.Attr == a.Right.Attr) && ((a.Right.Value.Kind == a.Right.Value.Kind) && ((a.Right.Value.Num == a.Right.Value.Num) && (a.Right.Value.Str == a.Right.Value.Str)))))))) = true := by simp
        simp only [drossref18_Same_l3, idx_get hd, Option.bind_some, if_pos (lt_true hx), idx_get hx, if_pos e, wrap_succ hk (show d.Atoms.length ≤ 4611686018427387904 by have := ha d (List.mem_of_getElem? hd); omega)])
      (fun j a hx hp => by cases hp)
      (by simp [drossref18_Same_l3, idx_get hd])
    rw [h]; simp
  have h := LoopF_all l (drossref18_Same_l4 l l) (fun _ => true) false
    (fun k d hd hk hp => by
      simp only [drossref18_Same_l4, if_pos (lt_true hd), idx_get hd, Option.bind_some, bne_self_eq_false, Bool.false_eq_true, if_false, inner k d hd, wrap_succ hk (show l.length ≤ 4611686018427387904 by omega)])
    (fun k d hd hp => by cases hp)
    (by simp [drossref18_Same_l4])
  unfold drossref18_Same
  rw [if_neg (by simp), h, Option.bind_some]
  have : (l.all fun _ => true) = true := by simp
  rw [this]; rfl
theorem viol_at {t : Table} (H : DT t) {d : Denial} (he : denErr t d = 0) (hl : d.Atoms.length ≤ 1048576) : denial_Violations t d = some (setO (violL t d), 0) := by
  rw [DViolations_eq t d H.ok H.str H.few hl]
  unfold violR
  rw [if_pos he]
theorem awake18 : drosslaw18_awake = some true := by
  have h1 : denial_FromFD 2 (FD.mk 1 2) = some ([want18], 0) := by
    have h := FromFD_eq (n := 2) (s := 1) (r := 2) (by omega) (by omega) (by omega)
    have e : (if fdB 2 1 2 = true then (fdL 1 2, (0 : Int)) else ([], 1)) = ([want18], 0) := by decide +kernel
    rw [e] at h
    exact h
  have h2 : denial_Violations exT18 want18 = some ([[1, 2]], 0) := by
    rw [viol_at ex_dt (by decide +kernel) (by decide), viol_want]
  have h3 : denial_Violations exT18 less18 = some ([[1], [2]], 0) := by
    rw [viol_at ex_dt (by decide +kernel) (by decide), viol_less]
  have h4 : denial_FromOD 2 (OD.mk [0] [1]) = some (odL [0] [1], 0) := by
    have h := FromOD_eq 2 (OD.mk [0] [1]) (by simp) (by simp)
    have e : odR 2 (OD.mk [0] [1]) = (odL [0] [1], 0) := by decide +kernel
    rw [e] at h
    exact h
  have h5 : ((odL [0] [1]).length : Int) = 2 := by decide +kernel
  have h6 := Same_self18 [want18] (by simp) (by simp [want18])
  have h7 := Lists_self [[1, 2]] (by simp) (by simp)
  have h8 := Lists_self [[1], [2]] (by simp) (by simp)
  have h9 := Contradictory_eq no18 (by decide)
  have h10 := Contradictory_eq yes18 (by decide)
  rw [no_contra] at h9
  rw [yes_contra] at h10
  have h2' : denial_Violations exT18 (Denial.mk 2 [(Atom.mk (Term.mk 1 0 (Value.mk 0 0 [])) 1 (Term.mk 2 0 (Value.mk 0 0 []))), (Atom.mk (Term.mk 1 1 (Value.mk 0 0 [])) 2 (Term.mk 2 1 (Value.mk 0 0 [])))]) = _ := h2
  have h3' : denial_Violations exT18 (Denial.mk 1 [(Atom.mk (Term.mk 1 0 (Value.mk 0 0 [])) 3 (Term.mk 0 0 (Value.mk 1 6 [])))]) = _ := h3
  have h6' : drossref18_Same [want18] [(Denial.mk 2 [(Atom.mk (Term.mk 1 0 (Value.mk 0 0 [])) 1 (Term.mk 2 0 (Value.mk 0 0 []))), (Atom.mk (Term.mk 1 1 (Value.mk 0 0 [])) 2 (Term.mk 2 1 (Value.mk 0 0 [])))])] = _ := h6
  have h9' : denial_Contradictory [(Atom.mk (Term.mk 1 0 (Value.mk 0 0 [])) 3 (Term.mk 1 1 (Value.mk 0 0 []))), (Atom.mk (Term.mk 1 1 (Value.mk 0 0 [])) 4 (Term.mk 0 0 (Value.mk 1 5 []))), (Atom.mk (Term.mk 0 0 (Value.mk 1 6 [])) 3 (Term.mk 1 0 (Value.mk 0 0 [])))] = _ := h9
  have h10' : denial_Contradictory [(Atom.mk (Term.mk 1 0 (Value.mk 0 0 [])) 3 (Term.mk 0 0 (Value.mk 1 2 []))), (Atom.mk (Term.mk 0 0 (Value.mk 1 1 [])) 3 (Term.mk 1 0 (Value.mk 0 0 [])))] = _ := h10
  simp only [drosslaw18_awake, Wide18, h1, drosslaw18_at, drosslaw18_num, Option.bind_some, h2', h3', h4, bne_self_eq_false, Bool.false_eq_true, if_false, h6', if_true, h7, h8, h5, h9', h10', Bool.not_false]
end Go.Proofs.YtlaodgbkpmdhoaaGreatDoor
/- Denial: violations of several constraints; pairs of rows. -/
set_option linter.unusedVariables false
set_option linter.unusedSimpArgs false
namespace Go.Proofs.YtlaodgbkpmdhoaaGreatDoor
open Go Go.Ab

end Go.Proofs.YtlaodgbkpmdhoaaGreatDoor
/- Denial: the matrices of both layers are equal, and sound. -/
set_option linter.unusedVariables false
set_option linter.unusedSimpArgs false
namespace Go.Proofs.YtlaodgbkpmdhoaaGreatDoor
open Go Go.Ab

def putsOf (op : Int) (l r : Nat) : List (Nat × Nat × Int) := if op = 1 then [(l, r, 1), (r, l, 1)] else if op = 3 then [(l, r, 2)] else if op = 4 then [(l, r, 1)] else []
def hitP (L : List (Nat × Nat × Int)) (i j : Nat) (w : Int) : Prop := ∃ p ∈ L, p.1 = i ∧ p.2.1 = j ∧ w ≤ p.2.2
theorem put_ge (F : FnM) (a b i j : Nat) (v w : Int) : w ≤ putM F a b v i j ↔ w ≤ F i j ∨ (a = i ∧ b = j ∧ w ≤ v) := by
  unfold putM updM
  by_cases h : i = a ∧ j = b
  · obtain ⟨rfl, rfl⟩ := h
    rw [if_pos ⟨rfl, rfl⟩]
    simp only [true_and]
    omega
  · rw [if_neg h]
    constructor
    · intro hw; exact .inl hw
    · rintro (hw | ⟨rfl, rfl, _⟩)
      · exact hw
      · exact absurd ⟨rfl, rfl⟩ h
theorem putsA_ge (op : Int) (l r : Nat) (F : FnM) (i j : Nat) (w : Int) : w ≤ putsA op l r F i j ↔ w ≤ F i j ∨ hitP (putsOf op l r) i j w := by
  unfold putsA putsOf hitP
  split
  · rw [put_ge, put_ge]; simp [or_assoc]
  · split
    · rw [put_ge]; simp
    · split
      · rw [put_ge]; simp
      · simp
theorem nodeF_ge {T : List Term} {F : FnM} (t : Term) (hs : supM T.length F) (i j : Nat) (w : Int) : w ≤ nodeF T F t i j ↔ w ≤ F i j ∨ (i = j ∧ T.length ≤ i ∧ i < (nodeT T t).length ∧ w ≤ 1) := by
  unfold nodeF nodeT
  by_cases h : t ∈ T
  · rw [if_pos h, if_pos h]
    constructor
    · intro hw; exact .inl hw
    · rintro (hw | ⟨_, h1, h2, _⟩)
      · exact hw
      · omega
  · rw [if_neg h, if_neg h]
    unfold updM
    rw [show (T ++ [t]).length = T.length + 1 by simp]
    by_cases hij : i = T.length ∧ j = T.length
    · rw [if_pos hij]
      have h0 := hs i j (by omega)
      omega
    · rw [if_neg hij]
      constructor
      · intro hw; exact .inl hw
      · rintro (hw | ⟨rfl, h1, h2, _⟩)
        · exact hw
        · omega
theorem posT_node (T : List Term) (t : Term) : posT (nodeT T t) t = posT T t := by
  unfold nodeT
  by_cases h : t ∈ T
  · rw [if_pos h]
  · rw [if_neg h]
    unfold posT
    rw [List.findIdx?_append, (posT_not h).1]
    simp
theorem posT_pre {T U : List Term} {t : Term} (h : t ∈ T) : posT (T ++ U) t = posT T t := by
  have h1 := (posT_mem h).1
  unfold posT at h1 ⊢
  rw [List.findIdx?_append]
  cases hf : T.findIdx? fun y => decide (y = t) with
  | none => rw [hf] at h1; cases h1
  | some i => simp
theorem node_pre (T : List Term) (t : Term) : ∃ U, nodeT T t = T ++ U := by
  unfold nodeT
  split
  · exact ⟨[], by simp⟩
  · exact ⟨[t], rfl⟩
theorem step_pre (S : List Term × FnM) (a : Atom) : ∃ U, (stepA18 S a).1 = S.1 ++ U := by
  obtain ⟨U, hU⟩ := node_pre S.1 a.Left
  obtain ⟨V, hV⟩ := node_pre (nodeT S.1 a.Left) a.Right
  exact ⟨U ++ V, by show nodeT (nodeT S.1 a.Left) a.Right = _; rw [hV, hU, List.append_assoc]⟩
theorem fold_pre : ∀ (l : List Atom) (S : List Term × FnM), ∃ U, (l.foldl stepA18 S).1 = S.1 ++ U
  | [], S => ⟨[], by simp⟩
  | a :: l, S => by
    obtain ⟨U, hU⟩ := step_pre S a
    obtain ⟨V, hV⟩ := fold_pre l (stepA18 S a)
    exact ⟨U ++ V, by rw [List.foldl_cons, hV, hU, List.append_assoc]⟩
/-- the places of an atom's terms, at the step and at the end -/
theorem pos_final (l : List Atom) (S : List Term × FnM) (a : Atom) :
    posT (l.foldl stepA18 (stepA18 S a)).1 a.Left = posT S.1 a.Left ∧ posT (l.foldl stepA18 (stepA18 S a)).1 a.Right = posT (nodeT S.1 a.Left) a.Right := by
  obtain ⟨V, hV⟩ := fold_pre l (stepA18 S a)
  obtain ⟨W, hW⟩ := node_pre (nodeT S.1 a.Left) a.Right
  have e1 : (stepA18 S a).1 = nodeT (nodeT S.1 a.Left) a.Right := rfl
  constructor
  · rw [hV, e1, hW, List.append_assoc, posT_pre (node_mem).1, posT_node]
  · rw [hV, e1, posT_pre (node_mem).1, posT_node]
theorem fold_ge : ∀ (l : List Atom) (S : List Term × FnM), supM S.1.length S.2 → ∀ (i j : Nat) (w : Int),
    w ≤ (l.foldl stepA18 S).2 i j ↔ w ≤ S.2 i j ∨ (i = j ∧ S.1.length ≤ i ∧ i < (l.foldl stepA18 S).1.length ∧ w ≤ 1) ∨ ∃ a ∈ l, hitP (putsOf a.Op (posT (l.foldl stepA18 S).1 a.Left) (posT (l.foldl stepA18 S).1 a.Right)) i j w
  | [], S, hs, i, j, w => by
    simp only [List.foldl_nil, List.not_mem_nil, false_and, exists_false, or_false]
    constructor
    · intro h; exact .inl h
    · rintro (h | h)
      · exact h
      · omega
  | a :: l, S, hs, i, j, w => by
    rw [List.foldl_cons, fold_ge l (stepA18 S a) (step_sup a hs) i j w]
    obtain ⟨p1, p2⟩ := pos_final l S a
    have n1 := nodeT_len S.1 a.Left
    have n2 := nodeT_len (nodeT S.1 a.Left) a.Right
    obtain ⟨V, hV⟩ := fold_pre l (stepA18 S a)
    have hTl : (stepA18 S a).1.length ≤ (l.foldl stepA18 (stepA18 S a)).1.length := by rw [hV]; simp
    have e2 : (stepA18 S a).1.length = (nodeT (nodeT S.1 a.Left) a.Right).length := rfl
    have hstep : w ≤ (stepA18 S a).2 i j ↔ (w ≤ S.2 i j ∨ (i = j ∧ S.1.length ≤ i ∧ i < (nodeT S.1 a.Left).length ∧ w ≤ 1)) ∨ (i = j ∧ (nodeT S.1 a.Left).length ≤ i ∧ i < (nodeT (nodeT S.1 a.Left) a.Right).length ∧ w ≤ 1) ∨ hitP (putsOf a.Op (posT S.1 a.Left) (posT (nodeT S.1 a.Left) a.Right)) i j w := by
      show w ≤ putsA a.Op (posT S.1 a.Left) (posT (nodeT S.1 a.Left) a.Right) (nodeF (nodeT S.1 a.Left) (nodeF S.1 S.2 a.Left) a.Right) i j ↔ _
      rw [putsA_ge, nodeF_ge a.Right (node_sup a.Left hs), nodeF_ge a.Left hs, or_assoc]
    rw [hstep]
    constructor
    · rintro (((h | h) | h | h) | h | ⟨b, hb, h⟩)
      · exact .inl h
      · exact .inr (.inl (by omega))
      · exact .inr (.inl (by omega))
      · exact .inr (.inr ⟨a, by simp, by rw [p1, p2]; exact h⟩)
      · exact .inr (.inl (by omega))
      · exact .inr (.inr ⟨b, by simp [hb], h⟩)
    · rintro (h | h | ⟨b, hb, h⟩)
      · exact .inl (.inl (.inl h))
      · by_cases c1 : i < (nodeT S.1 a.Left).length
        · exact .inl (.inl (.inr (by omega)))
        · by_cases c2 : i < (nodeT (nodeT S.1 a.Left) a.Right).length
          · exact .inl (.inr (.inl (by omega)))
          · exact .inr (.inl (by omega))
      · rcases List.mem_cons.1 hb with rfl | hb
        · rw [p1, p2] at h
          exact .inl (.inr (.inr h))
        · exact .inr (.inr ⟨b, hb, h⟩)
theorem constRow_ge (T : List Term) (a : Nat) (i j : Nat) (w : Int) : ∀ (l : List Nat) (F : FnM), w ≤ (l.foldl (constRow T a) F) i j ↔ w ≤ F i j ∨ (a = i ∧ j ∈ l ∧ cLess (termAt T i) (termAt T j) = true ∧ w ≤ 2)
  | [], F => by simp
  | b :: l, F => by
    rw [List.foldl_cons, constRow_ge T a i j w l]
    unfold constRow
    split
    · rename_i h
      rw [put_ge]
      constructor
      · rintro ((h1 | ⟨rfl, rfl, h1⟩) | ⟨rfl, h1, h2⟩)
        · exact .inl h1
        · exact .inr ⟨rfl, by simp, h, h1⟩
        · exact .inr ⟨rfl, by simp [h1], h2⟩
      · rintro (h1 | ⟨rfl, h1, h2, h3⟩)
        · exact .inl (.inl h1)
        · rcases List.mem_cons.1 h1 with e | h1
          · exact .inl (.inr ⟨rfl, e.symm, h3⟩)
          · exact .inr ⟨rfl, h1, h2, h3⟩
    · rename_i h
      constructor
      · rintro (h1 | ⟨rfl, h1, h2⟩)
        · exact .inl h1
        · exact .inr ⟨rfl, by simp [h1], h2⟩
      · rintro (h1 | ⟨rfl, h1, h2, h3⟩)
        · exact .inl h1
        · rcases List.mem_cons.1 h1 with e | h1
          · rw [e] at h2; exact absurd h2 h
          · exact .inr ⟨rfl, h1, h2, h3⟩
theorem constM_ge (T : List Term) (F : FnM) (i j : Nat) (w : Int) : w ≤ constM T F i j ↔ w ≤ F i j ∨ (i < T.length ∧ j < T.length ∧ cLess (termAt T i) (termAt T j) = true ∧ w ≤ 2) := by
  have key : ∀ (l : List Nat) (F : FnM), w ≤ (l.foldl (fun F i => (List.range T.length).foldl (constRow T i) F) F) i j ↔ w ≤ F i j ∨ (i ∈ l ∧ j < T.length ∧ cLess (termAt T i) (termAt T j) = true ∧ w ≤ 2) := by
    intro l
    induction l with
    | nil => intro F; simp
    | cons a l ih =>
      intro F
      rw [List.foldl_cons, ih, constRow_ge]
      simp only [List.mem_range, List.mem_cons]
      constructor
      · rintro ((h | ⟨rfl, h⟩) | ⟨h1, h⟩)
        · exact .inl h
        · exact .inr ⟨.inl rfl, h⟩
        · exact .inr ⟨.inr h1, h⟩
      · rintro (h | ⟨rfl | h1, h⟩)
        · exact .inl (.inl h)
        · exact .inl (.inr ⟨rfl, h⟩)
        · exact .inr ⟨h1, h⟩
  unfold constM
  rw [key]
  simp
/-- the program's matrix before the closure -/
theorem pre_ge (atoms : List Atom) (i j : Nat) (w : Int) : w ≤ constM (foldA18 atoms).1 (foldA18 atoms).2 i j ↔
    (w ≤ 0 ∨ (i = j ∧ i < (foldA18 atoms).1.length ∧ w ≤ 1) ∨ ∃ a ∈ atoms, hitP (putsOf a.Op (posT (foldA18 atoms).1 a.Left) (posT (foldA18 atoms).1 a.Right)) i j w) ∨
      (i < (foldA18 atoms).1.length ∧ j < (foldA18 atoms).1.length ∧ cLess (termAt (foldA18 atoms).1 i) (termAt (foldA18 atoms).1 j) = true ∧ w ≤ 2) := by
  rw [constM_ge]
  unfold foldA18
  rw [fold_ge atoms ([], zeroF) (fun _ _ _ => rfl)]
  simp [zeroF]
/-! ### soundness -/
theorem le_tr {a b c : Value} (h1 : vcmp a b ≤ 0) (h2 : vcmp b c ≤ 0) : vcmp a c ≤ 0 ∧ ((vcmp a b < 0 ∨ vcmp b c < 0) → vcmp a c < 0) := by
  by_cases e1 : vcmp a b = 0
  · rw [vcmp_eq] at e1
    subst e1
    rw [vcmp_self]
    exact ⟨h2, by rintro (h | h) <;> omega⟩
  · by_cases e2 : vcmp b c = 0
    · rw [vcmp_eq] at e2
      subst e2
      rw [vcmp_self]
      exact ⟨h1, by rintro (h | h) <;> omega⟩
    · have := vcmp_trans a b c (by omega) (by omega)
      exact ⟨by omega, fun _ => this⟩
structure Sound (n : Nat) (val : Nat → Value) (F : FnM) : Prop where
  le : ∀ i j, i < n → j < n → 1 ≤ F i j → vcmp (val i) (val j) ≤ 0
  lt : ∀ i j, i < n → j < n → 2 ≤ F i j → vcmp (val i) (val j) < 0
theorem step_sound {n : Nat} {val : Nat → Value} {k i j : Nat} (hk : k < n) (hi : i < n) (hj : j < n) {F : FnM} (h : Sound n val F) : Sound n val (stepC18 k i F j) := by
  unfold stepC18
  split
  · rename_i hc
    obtain ⟨c1, c2⟩ := hc
    have t := le_tr (h.le i k hi hk (by omega)) (h.le k j hk hj (by omega))
    refine ⟨fun a b ha hb hw => ?_, fun a b ha hb hw => ?_⟩
    · unfold updM at hw
      by_cases e : a = i ∧ b = j
      · obtain ⟨rfl, rfl⟩ := e
        exact t.1
      · rw [if_neg e] at hw
        exact h.le a b ha hb hw
    · unfold updM at hw
      by_cases e : a = i ∧ b = j
      · obtain ⟨rfl, rfl⟩ := e
        rw [if_pos ⟨rfl, rfl⟩] at hw
        unfold mx3 at hw
        have : 2 ≤ F a b ∨ 2 ≤ F a k ∨ 2 ≤ F k b := by omega
        rcases this with h2 | h2 | h2
        · exact h.lt a b ha hb h2
        · exact t.2 (.inl (h.lt a k ha hk h2))
        · exact t.2 (.inr (h.lt k b hk hb h2))
      · rw [if_neg e] at hw
        exact h.lt a b ha hb hw
  · exact h
theorem foldl_sound {n : Nat} {val : Nat → Value} (g : FnM → Nat → FnM) (hg : ∀ F x, x < n → Sound n val F → Sound n val (g F x)) : ∀ (l : List Nat) (F : FnM), (∀ x ∈ l, x < n) → Sound n val F → Sound n val (l.foldl g F)
  | [], F, _, h => h
  | x :: l, F, hl, h => foldl_sound g hg l (g F x) (fun y hy => hl y (by simp [hy])) (hg F x (hl x (by simp)) h)
theorem close_sound {n : Nat} {val : Nat → Value} {F : FnM} (h : Sound n val F) : Sound n val (closeF n F) := by
  refine foldl_sound _ (fun F k hk h => ?_) _ F (fun x hx => List.mem_range.1 hx) h
  refine foldl_sound _ (fun F i hi h => ?_) _ F (fun x hx => List.mem_range.1 hx) h
  exact foldl_sound _ (fun F j hj h => step_sound hk hi hj h) _ F (fun x hx => List.mem_range.1 hx) h
theorem hit_cases {op : Int} {l r i j : Nat} {w : Int} (h : hitP (putsOf op l r) i j w) : (op = 1 ∧ ((l = i ∧ r = j) ∨ (r = i ∧ l = j)) ∧ w ≤ 1) ∨ (op = 3 ∧ l = i ∧ r = j ∧ w ≤ 2) ∨ (op = 4 ∧ l = i ∧ r = j ∧ w ≤ 1) := by
  obtain ⟨p, hp, h1, h2, h3⟩ := h
  unfold putsOf at hp
  split at hp
  · rename_i ho
    simp only [List.mem_cons, List.not_mem_nil, or_false] at hp
    rcases hp with rfl | rfl
    · exact .inl ⟨ho, .inl ⟨h1, h2⟩, h3⟩
    · exact .inl ⟨ho, .inr ⟨h1, h2⟩, h3⟩
  · split at hp
    · rename_i ho
      rw [List.mem_singleton] at hp
      subst hp
      exact .inr (.inl ⟨ho, h1, h2, h3⟩)
    · split at hp
      · rename_i ho
        rw [List.mem_singleton] at hp
        subst hp
        exact .inr (.inr ⟨ho, h1, h2, h3⟩)
      · cases hp
theorem termAt_pos {T : List Term} {t : Term} (h : t ∈ T) : termAt T (posT T t) = t := by
  obtain ⟨h1, h2⟩ := posT_mem h
  rw [List.findIdx?_eq_some_iff_getElem] at h1
  obtain ⟨hi, hp, _⟩ := h1
  have := termAt_get h2
  rw [List.getElem?_eq_getElem hi] at this
  have e := Option.some.inj this
  rw [← e]
  simpa using hp
theorem contra_sound {atoms : List Atom} (h : contraB atoms = true) (rows : List Row) : atoms.all (satA rows) = false := by
  cases hall : atoms.all (satA rows) with
  | false => rfl
  | true =>
    exfalso
    rw [List.all_eq_true] at hall
    have hmem := (foldA_mem atoms ([], zeroF)).2
    have hpre := pre_ge atoms
    unfold contraB at h
    change ∀ a ∈ atoms, a.Left ∈ (foldA18 atoms).1 ∧ a.Right ∈ (foldA18 atoms).1 at hmem
    simp only at h
    generalize constM (foldA18 atoms).1 (foldA18 atoms).2 = F0 at *
    generalize (foldA18 atoms).1 = T at *
    have hs0 : Sound T.length (fun i => valN rows (termAt T i)) F0 := by
      have key : ∀ i j w, 1 ≤ w → i < T.length → j < T.length → w ≤ F0 i j → w ≤ 2 ∧ vcmp (valN rows (termAt T i)) (valN rows (termAt T j)) ≤ 0 ∧ (2 ≤ w → vcmp (valN rows (termAt T i)) (valN rows (termAt T j)) < 0) := by
        intro i j w hw1 hi hj hw
        rcases (hpre i j w).1 hw with (h0 | ⟨rfl, _, h0⟩ | ⟨a, ha, hhit⟩) | ⟨_, _, hc, h0⟩
        · omega
        · exact ⟨by omega, by rw [vcmp_self]; exact Int.le_refl _, fun h => by omega⟩
        · have hsat := hall a ha
          obtain ⟨hL, hR⟩ := hmem a ha
          have eL := termAt_pos hL
          have eR := termAt_pos hR
          have hneg := vcmp_neg (valN rows a.Left) (valN rows a.Right)
          unfold satA opB at hsat
          rcases hit_cases hhit with ⟨ho, hlr, h0⟩ | ⟨ho, rfl, rfl, h0⟩ | ⟨ho, rfl, rfl, h0⟩
          · simp only [ho, if_true, decide_eq_true_eq] at hsat
            rcases hlr with ⟨rfl, rfl⟩ | ⟨rfl, rfl⟩
            · rw [eL, eR]; exact ⟨by omega, by omega, fun h => by omega⟩
            · rw [eL, eR]; exact ⟨by omega, by omega, fun h => by omega⟩
          · simp only [ho, show ¬ (3 : Int) = 1 by decide, show ¬ (3 : Int) = 2 by decide, if_true, if_false, decide_eq_true_eq] at hsat
            rw [eL, eR]; exact ⟨by omega, by omega, fun h => hsat⟩
          · simp only [ho, show ¬ (4 : Int) = 1 by decide, show ¬ (4 : Int) = 2 by decide, show ¬ (4 : Int) = 3 by decide, if_false, decide_eq_true_eq] at hsat
            rw [eL, eR]; exact ⟨by omega, by omega, fun h => by omega⟩
        · unfold cLess at hc
          simp only [Bool.and_eq_true, decide_eq_true_eq] at hc
          obtain ⟨c1, c2, c3⟩ := hc
          have e1 : valN rows (termAt T i) = (termAt T i).Value := by unfold valN; rw [if_pos c1]
          have e2 : valN rows (termAt T j) = (termAt T j).Value := by unfold valN; rw [if_pos c2]
          rw [e1, e2]
          exact ⟨h0, by omega, fun _ => c3⟩
      exact ⟨fun i j hi hj hw => (key i j 1 (by omega) hi hj hw).2.1, fun i j hi hj hw => (key i j 2 (by omega) hi hj hw).2.2 (by omega)⟩
    have hs := close_sound hs0
    rw [Bool.or_eq_true, List.any_eq_true, List.any_eq_true] at h
    rcases h with ⟨i, hi, h2⟩ | ⟨a, ha, hc⟩
    · rw [List.mem_range] at hi
      rw [decide_eq_true_eq] at h2
      have := hs.lt i i hi hi (by omega)
      rw [vcmp_self] at this
      omega
    · obtain ⟨hL, hR⟩ := hmem a ha
      have l1 := (posT_mem hL).2
      have l2 := (posT_mem hR).2
      unfold clash at hc
      simp only [Bool.and_eq_true, decide_eq_true_eq] at hc
      obtain ⟨c1, c2, c3⟩ := hc
      have g1 := hs.le _ _ l1 l2 (by omega)
      have g2 := hs.le _ _ l2 l1 (by omega)
      simp only [termAt_pos hL, termAt_pos hR] at g1 g2
      have hneg := vcmp_neg (valN rows a.Left) (valN rows a.Right)
      have hsat := hall a ha
      unfold satA opB at hsat
      simp only [c1, show ¬ (2 : Int) = 1 by decide, if_true, if_false, decide_eq_true_eq] at hsat
      omega
end Go.Proofs.YtlaodgbkpmdhoaaGreatDoor
/- Denial: the reference's Contradictory. -/
set_option linter.unusedVariables false
set_option linter.unusedSimpArgs false
namespace Go.Proofs.YtlaodgbkpmdhoaaGreatDoor
open Go Go.Ab

theorem eq_sw (a b : Term) : decide (a = b) = decide (b = a) := by rw [Bool.eq_iff_iff, decide_eq_true_eq, decide_eq_true_eq]; exact eq_comm
theorem ref_l10 (T : List Term) (a : Atom) (hl : T.length ≤ 1000000) : LoopF (drossref18_Contradictory_l10 T a) 0 = some (match T.findIdx? (fun y => decide (y = a.Left)) with | some i => .inr (i : Int) | none => .inl ()) := by
  refine LoopF_find T _ (fun y => decide (y = a.Left)) (fun k x hx hk hp => ?_) (fun k x hx hp => ?_) (by simp [drossref18_Contradictory_l10])
  · rw [eq_sw] at hp
    simp only [drossref18_Contradictory_l10, if_pos (lt_true hx), idx_get hx, Option.bind_some, teq_eq, hp, Bool.false_eq_true, if_false, wrap_succ hk (show T.length ≤ 4611686018427387904 by omega)]
  · rw [eq_sw] at hp
    simp only [drossref18_Contradictory_l10, if_pos (lt_true hx), idx_get hx, Option.bind_some, teq_eq, hp, if_true]
theorem ref_l12 (T : List Term) (a : Atom) (hl : T.length ≤ 1000000) : LoopF (drossref18_Contradictory_l12 T a) 0 = some (match T.findIdx? (fun y => decide (y = a.Right)) with | some i => .inr (i : Int) | none => .inl ()) := by
  refine LoopF_find T _ (fun y => decide (y = a.Right)) (fun k x hx hk hp => ?_) (fun k x hx hp => ?_) (by simp [drossref18_Contradictory_l12])
  · rw [eq_sw] at hp
    simp only [drossref18_Contradictory_l12, if_pos (lt_true hx), idx_get hx, Option.bind_some, teq_eq, hp, Bool.false_eq_true, if_false, wrap_succ hk (show T.length ≤ 4611686018427387904 by omega)]
  · rw [eq_sw] at hp
    simp only [drossref18_Contradictory_l12, if_pos (lt_true hx), idx_get hx, Option.bind_some, teq_eq, hp, if_true]
def stepR18 (S : List Term × List Arr3_int) (a : Atom) : List Term × List Arr3_int :=
  (nodeT (nodeT S.1 a.Left) a.Right, S.2 ++ [⟨(posT S.1 a.Left : Int), a.Op, (posT (nodeT S.1 a.Left) a.Right : Int)⟩])
theorem l13_step (atoms : List Atom) {T : List Term} {Q : List Arr3_int} {k : Nat} {a : Atom} (hk : atoms[k]? = some a) (hn : T.length ≤ 500) (hq : Q.length ≤ 500) :
    drossref18_Contradictory_l13 atoms (T, Q, (k : Int)) = some (.next ((stepR18 (T, Q) a).1, (stepR18 (T, Q) a).2, IntKind.i64.wrap ((k : Int) + 1))) := by
  have e1 : ∀ (T : List Term), T.length ≤ 600 → ((LoopF (drossref18_Contradictory_l10 T a) 0).bind (fun o => match o with
      | .inl () => if roomB (T.length + 1) 48 = true then some ((T ++ [a.Left]), ((T.length : Nat) : Int)) else none
      | .inr t4 => some (T, t4))) = some (nodeT T a.Left, (posT T a.Left : Int)) := by
    intro T hT
    rw [ref_l10 T a (by omega), Option.bind_some]
    by_cases hm : a.Left ∈ T
    · rw [(posT_mem hm).1]; simp only [nodeT, if_pos hm]
    · rw [(posT_not hm).1]
      simp only [nodeT, if_neg hm, (posT_not hm).2, room_le (show T.length + 1 ≤ 1073741824 by omega) (show 48 ≤ 65536 by omega), if_true]
  have e2 : ∀ (T : List Term), T.length ≤ 600 → ((LoopF (drossref18_Contradictory_l12 T a) 0).bind (fun o => match o with
      | .inl () => if roomB (T.length + 1) 48 = true then some ((T ++ [a.Right]), ((T.length : Nat) : Int)) else none
      | .inr t4 => some (T, t4))) = some (nodeT T a.Right, (posT T a.Right : Int)) := by
    intro T hT
    rw [ref_l12 T a (by omega), Option.bind_some]
    by_cases hm : a.Right ∈ T
    · rw [(posT_mem hm).1]; simp only [nodeT, if_pos hm]
    · rw [(posT_not hm).1]
      simp only [nodeT, if_neg hm, (posT_not hm).2, room_le (show T.length + 1 ≤ 1073741824 by omega) (show 48 ≤ 65536 by omega), if_true]
  have n1 := nodeT_len T a.Left
  have e1' := e1 T (by omega)
  have e2' := e2 (nodeT T a.Left) (by omega)
  simp only [drossref18_Contradictory_l13, if_pos (lt_true hk), idx_get hk, Option.bind_some]
  rw [show ∀ (X : Option (List Term × Int)) (Y : List Term × Int → Option (LS (List Term × List Arr3_int × Int) (List Term × List Arr3_int))), X = some (nodeT T a.Left, (posT T a.Left : Int)) → X.bind Y = Y (nodeT T a.Left, (posT T a.Left : Int)) from fun X Y h => by rw [h, Option.bind_some]]
  · simp only
    rw [show ∀ (X : Option (List Term × Int)) (Y : List Term × Int → Option (LS (List Term × List Arr3_int × Int) (List Term × List Arr3_int))), X = some (nodeT (nodeT T a.Left) a.Right, (posT (nodeT T a.Left) a.Right : Int)) → X.bind Y = Y (nodeT (nodeT T a.Left) a.Right, (posT (nodeT T a.Left) a.Right : Int)) from fun X Y h => by rw [h, Option.bind_some]]
    · simp only [room_le (show Q.length + 1 ≤ 1073741824 by omega) (show 24 ≤ 65536 by omega), if_true]
      rfl
    · exact e2'
  · exact e1'
theorem foldR_fst : ∀ (l : List Atom) (S : List Term × List Arr3_int) (F : FnM), (l.foldl stepR18 S).1 = (l.foldl stepA18 (S.1, F)).1
  | [], _, _ => rfl
  | a :: l, S, F => by
    rw [List.foldl_cons, List.foldl_cons, foldR_fst l (stepR18 S a) (stepA18 (S.1, F) a).2]
    rfl
theorem foldR_snd : ∀ (l : List Atom) (S : List Term × List Arr3_int), (l.foldl stepR18 S).2 = S.2 ++ l.map fun a => (⟨(posT (l.foldl stepR18 S).1 a.Left : Int), a.Op, (posT (l.foldl stepR18 S).1 a.Right : Int)⟩ : Arr3_int)
  | [], S => by simp
  | a :: l, S => by
    rw [List.foldl_cons, foldR_snd l (stepR18 S a)]
    have hp := pos_final l (S.1, zeroF) a
    have e : (l.foldl stepR18 (stepR18 S a)).1 = (l.foldl stepA18 (stepA18 (S.1, zeroF) a)).1 := foldR_fst l (stepR18 S a) (stepA18 (S.1, zeroF) a).2
    rw [List.map_cons, e, hp.1, hp.2]
    show (S.2 ++ [_]) ++ _ = _
    rw [List.append_assoc]
    rfl
def pairsR (atoms : List Atom) : List Arr3_int := atoms.map fun a => ⟨(posT (foldA18 atoms).1 a.Left : Int), a.Op, (posT (foldA18 atoms).1 a.Right : Int)⟩
theorem l13_loop (atoms : List Atom) (hl : atoms.length ≤ 100) : LoopF (drossref18_Contradictory_l13 atoms) ([], [], 0) = some ((foldA18 atoms).1, pairsR atoms) := by
  have h := LoopF_foldl atoms (fun (S : List Term × List Arr3_int) (i : Int) => (S.1, S.2, i)) (drossref18_Contradictory_l13 atoms) stepR18 id (fun k S => S.1.length ≤ 2 * k ∧ S.2.length = k) (b0 := ([], [])) (s0 := ([], [], 0)) rfl ⟨Nat.le_refl _, rfl⟩
    (fun k S x hx hk hI => by
      obtain ⟨hI1, hI2⟩ := hI
      have n1 := nodeT_len S.1 x.Left
      have n2 := nodeT_len (nodeT S.1 x.Left) x.Right
      refine ⟨?_, by show (nodeT (nodeT S.1 x.Left) x.Right).length ≤ _; omega, by show (S.2 ++ [_]).length = _; simp [hI2]⟩
      rw [l13_step atoms hx (by omega) (by omega), wrap_succ hk (by omega)])
    (fun S _ => by simp [drossref18_Contradictory_l13])
  rw [h]
  congr 1
  have e1 : (atoms.foldl stepR18 ([], [])).1 = (foldA18 atoms).1 := foldR_fst atoms ([], []) zeroF
  have e2 := foldR_snd atoms ([], [])
  rw [e1, List.nil_append] at e2
  exact Prod.ext e1 e2
/-! ### the first matrix -/
def le2 (F : FnM) : Prop := ∀ i j, F i j ≤ 2
theorem updM_put {F : FnM} (h : le2 F) (i j : Nat) : updM F i j 2 = putM F i j 2 := by
  unfold putM
  rw [Int.max_eq_right (h i j)]
theorem putM_le2 {F : FnM} (h : le2 F) {i j : Nat} {w : Int} (hw : w ≤ 2) : le2 (putM F i j w) := by
  intro a b
  have := (put_ge F i j a b w (putM F i j w a b)).1 (Int.le_refl _)
  rcases this with h1 | ⟨_, _, h1⟩
  · have := h a b; omega
  · omega
def initRow (T : List Term) (i : Nat) : FnM := (List.range T.length).foldl (constRow T i) (updM zeroF i i 1)
theorem upd1_le2 (i : Nat) : le2 (updM zeroF i i 1) := by
  intro a b
  unfold updM zeroF
  split <;> omega
theorem constRow_le2 (T : List Term) (i : Nat) {F : FnM} (h : le2 F) (k : Nat) : le2 (constRow T i F k) := by
  unfold constRow
  split
  · exact putM_le2 h (by omega)
  · exact h
theorem rowF_set {n : Nat} {F : FnM} {i j : Nat} {v : Int} (hj : j < n) : (rowF n F i).set j v = rowF n (updM F i j v) i := by
  apply List.ext_getElem?
  intro b
  by_cases hb : b < n
  · rw [rowF_get hb]
    by_cases hbj : b = j
    · subst hbj
      rw [List.getElem?_set_self (by rw [rowF_len]; exact hb)]
      simp [updM]
    · rw [List.getElem?_set_ne (fun e => hbj e.symm), rowF_get hb]
      simp [updM, hbj]
  · rw [List.getElem?_eq_none (by rw [List.length_set, rowF_len]; omega), List.getElem?_eq_none (by rw [rowF_len]; omega)]
theorem l16_loop (T : List Term) (hn : T.length ≤ 1000) (hs : ∀ t ∈ T, t.Value.Str.length ≤ 1073741824) {i : Nat} (hi : i < T.length) (M : List (List Int)) (hM : i < M.length) (F : FnM) (hF : le2 F) :
    LoopF (drossref18_Contradictory_l16 T (i : Int)) (M.set i (rowF T.length F i), 0) = some (M.set i (rowF T.length ((List.range T.length).foldl (constRow T i) F) i)) := by
  have h := LoopF_foldl (List.range T.length) (fun (F : FnM) (k : Int) => (M.set i (rowF T.length F i), k)) (drossref18_Contradictory_l16 T (i : Int)) (constRow T i) (fun F => M.set i (rowF T.length F i)) (fun _ F => le2 F) (b0 := F) (s0 := (M.set i (rowF T.length F i), 0)) rfl hF
    (fun k F x hx hk hI => by
      rw [List.length_range] at hk
      obtain ⟨rfl, _⟩ := range_at hx
      refine ⟨?_, constRow_le2 T i hI x⟩
      have ti := termAt_get hi
      have tk := termAt_get hk
      have e1 : (M.set i (rowF T.length F i))[i]? = some (rowF T.length F i) := List.getElem?_set_self hM
      simp only [drossref18_Contradictory_l16, if_pos (show (x : Int) < ((T.length : Nat) : Int) by omega), idx_get ti, idx_get tk, Option.bind_some, wrap_succ hk (show T.length ≤ 4611686018427387904 by omega)]
      unfold constRow cLess
      by_cases h1 : (termAt T i).Var = 0
      · rw [if_pos (by simpa using h1)]
        by_cases h2 : (termAt T x).Var = 0
        · rw [if_pos (by simpa using h2)]
          simp only [ref_Compare_eq _ _ (hs _ (List.mem_of_getElem? ti)), Option.bind_some, h1, h2, decide_true, Bool.true_and]
          cases decide (vcmp (termAt T i).Value (termAt T x).Value < 0) with
          | true =>
            simp only [if_true, idx_get e1, idx_get (rowF_get (F := F) (i := i) hk), Option.bind_some, Int.toNat_natCast, List.set_set, rowF_set hk, updM_put hI]
          | false => simp only [Bool.false_eq_true, if_false]
        · rw [if_neg (by simpa using h2)]
          simp [h2]
      · rw [if_neg (by simpa using h1)]
        simp [h1])
    (fun F _ => by simp [drossref18_Contradictory_l16])
  exact h
def R0 (T : List Term) : FnM := fun i j => if i < T.length ∧ j < T.length then initRow T i i j else 0
def mixM (T : List Term) (i : Nat) : List (List Int) := (List.range T.length).map fun j => if j < i then rowF T.length (R0 T) j else []
theorem rep_row {n i : Nat} (hi : i < n) : (List.replicate n (0 : Int)).set i 1 = rowF n (updM zeroF i i 1) i := by
  have : List.replicate n (0 : Int) = rowF n zeroF i := by
    apply List.ext_getElem?
    intro j
    by_cases hj : j < n
    · rw [rowF_get hj]; simp [hj, zeroF]
    · rw [List.getElem?_eq_none (by simp; omega), List.getElem?_eq_none (by rw [rowF_len]; omega)]
  rw [this, rowF_set hi]
theorem l17_loop (T : List Term) (hn : T.length ≤ 1000) (hs : ∀ t ∈ T, t.Value.Str.length ≤ 1073741824) :
    LoopF (drossref18_Contradictory_l17 T) (List.replicate T.length ([] : List Int), 0) = some (matF T.length (R0 T)) := by
  have h := LoopF_foldl (List.range T.length) (fun (_ : Unit) (k : Int) => (mixM T k.toNat, k)) (drossref18_Contradictory_l17 T) (fun b _ => b) (fun _ => matF T.length (R0 T)) (fun _ _ => True) (b0 := ()) (s0 := (List.replicate T.length ([] : List Int), 0))
    (by
      simp only [Int.toNat_zero, mixM, Nat.not_lt_zero, if_false]
      congr 1
      rw [List.map_const', List.length_range]) trivial
    (fun k b x hx hk _ => by
      rw [List.length_range] at hk
      obtain ⟨rfl, _⟩ := range_at hx
      refine ⟨?_, trivial⟩
      have hlen : (mixM T x).length = T.length := by simp [mixM]
      have e0 : (mixM T x)[x]? = some [] := by
        unfold mixM
        rw [List.getElem?_map, List.getElem?_range hk]
        simp
      have e1 : ((mixM T x).set x (List.replicate T.length (0 : Int)))[x]? = some (List.replicate T.length 0) := List.getElem?_set_self (by omega)
      have e2 : (List.replicate T.length (0 : Int))[x]? = some 0 := by simp [hk]
      have e3 := l16_loop T hn hs hk (mixM T x) (by omega) (updM zeroF x x 1) (upd1_le2 x)
      simp only [drossref18_Contradictory_l17, Int.toNat_natCast, if_pos (show (x : Int) < ((T.length : Nat) : Int) by omega), if_pos (show (0 : Int) ≤ ((T.length : Nat) : Int) by omega), room8 (show T.length ≤ 17592186044416 by omega), if_true, idx_get e0, idx_get e1, idx_get e2, Option.bind_some, List.set_set, rep_row hk, e3, wrap_succ hk (show T.length ≤ 4611686018427387904 by omega)]
      congr 3
      apply List.ext_getElem?
      intro j
      by_cases hj : j < T.length
      · by_cases hjx : j = x
        · subst hjx
          rw [List.getElem?_set_self (by omega)]
          unfold mixM
          rw [List.getElem?_map, List.getElem?_range hj]
          simp only [Option.map_some, show j < j + 1 by omega, if_true]
          congr 1
          apply List.map_congr_left
          intro c hc
          rw [List.mem_range] at hc
          unfold R0
          rw [if_pos ⟨hj, hc⟩]
          rfl
        · rw [List.getElem?_set_ne (fun e => hjx e.symm)]
          unfold mixM
          rw [List.getElem?_map, List.getElem?_map, List.getElem?_range hj]
          simp only [Option.map_some]
          by_cases hlt : j < x
          · rw [if_pos hlt, if_pos (show j < x + 1 by omega)]
          · rw [if_neg hlt, if_neg (show ¬ j < x + 1 by omega)]
      · rw [List.getElem?_eq_none (by rw [List.length_set]; omega), List.getElem?_eq_none (by simp [mixM]; omega)])
    (fun b _ => by
      simp only [List.length_range, Int.toNat_natCast]
      have : mixM T T.length = matF T.length (R0 T) := by
        unfold mixM matF
        apply List.map_congr_left
        intro j hj
        rw [List.mem_range] at hj
        rw [if_pos hj]
      rw [this]
      simp [drossref18_Contradictory_l17])
  exact h
theorem R0_ge (T : List Term) (i j : Nat) (w : Int) : w ≤ R0 T i j ↔ w ≤ 0 ∨ (i = j ∧ i < T.length ∧ w ≤ 1) ∨ (i < T.length ∧ j < T.length ∧ cLess (termAt T i) (termAt T j) = true ∧ w ≤ 2) := by
  unfold R0
  by_cases h : i < T.length ∧ j < T.length
  · rw [if_pos h]
    unfold initRow
    rw [constRow_ge]
    have e : w ≤ updM zeroF i i 1 i j ↔ w ≤ 0 ∨ (i = j ∧ w ≤ 1) := by
      unfold updM zeroF
      by_cases e : i = j
      · subst e
        rw [if_pos ⟨rfl, rfl⟩]; omega
      · rw [if_neg (by rintro ⟨_, h2⟩; exact e h2.symm)]
        constructor
        · intro h; exact .inl h
        · rintro (h | ⟨h, _⟩)
          · exact h
          · exact absurd h e
    rw [e]
    simp only [true_and, List.mem_range, h.1, h.2]
    rw [or_assoc]
  · rw [if_neg h]
    constructor
    · intro hw; exact .inl hw
    · rintro (hw | ⟨rfl, h1, _⟩ | ⟨h1, h2, _⟩)
      · exact hw
      · exact absurd ⟨h1, h1⟩ h
      · exact absurd ⟨h1, h2⟩ h
theorem R0_le2 (T : List Term) : le2 (R0 T) := by
  intro i j
  rcases (R0_ge T i j (R0 T i j)).1 (Int.le_refl _) with h | ⟨_, _, h⟩ | ⟨_, _, _, h⟩ <;> omega
end Go.Proofs.YtlaodgbkpmdhoaaGreatDoor
/- The law DenialContradictory. -/
set_option linter.unusedVariables false
set_option linter.unusedSimpArgs false
namespace Go.Proofs.YtlaodgbkpmdhoaaGreatDoor
open Go Go.Ab
theorem putsA_le2 {F : FnM} (h : le2 F) (op : Int) (l r : Nat) : le2 (putsA op l r F) := by
  unfold putsA
  split
  · exact putM_le2 (putM_le2 h (by omega)) (by omega)
  · split
    · exact putM_le2 h (by omega)
    · split
      · exact putM_le2 h (by omega)
      · exact h
theorem ref_l18_step {n : Nat} (Q : List Arr3_int) {k l r : Nat} {op : Int} (hk : Q[k]? = some ⟨(l : Int), op, (r : Int)⟩) (hl : l < n) (hr : r < n) {F : FnM} (hF : le2 F) :
    drossref18_Contradictory_l18 Q (matF n F, (k : Int)) = some (.next (matF n (putsA op l r F), IntKind.i64.wrap ((k : Int) + 1))) := by
  have e1 := matF_get (F := F) hl
  have e2 := rowF_get (F := F) (i := l) hr
  simp only [drossref18_Contradictory_l18, if_pos (lt_true hk), idx_get hk, Option.bind_some]
  unfold putsA
  by_cases h1 : op = 1
  · have e3 := matF_get (F := putM F l r 1) hr
    have e4 := rowF_get (F := putM F l r 1) (i := r) hl
    unfold putM at e3 e4
    subst h1
    simp only [show ((1 : Int) == 1) = true by decide, show ((1 : Int) == 3) = false by decide, if_true, Bool.false_eq_true, if_false, Option.bind_some, idx_get e1, idx_get e2, Int.toNat_natCast, matF_set hl hr, ite_max, idx_get e3, idx_get e4, matF_set hr hl]
    rfl
  · have b1 : (op == 1) = false := by simpa using h1
    rw [if_neg h1]
    by_cases h3 : op = 3
    · subst h3
      simp only [b1, show ((3 : Int) == 4) = false by decide, show ((3 : Int) == 3) = true by decide, if_true, Bool.false_eq_true, if_false, Option.bind_some, idx_get e1, idx_get e2, Int.toNat_natCast, matF_set hl hr, updM_put hF]
    · have b3 : (op == 3) = false := by simpa using h3
      rw [if_neg h3]
      by_cases h4 : op = 4
      · subst h4
        simp only [b1, b3, show ((4 : Int) == 4) = true by decide, if_true, Bool.false_eq_true, if_false, Option.bind_some, idx_get e1, idx_get e2, Int.toNat_natCast, matF_set hl hr, ite_max]
        rfl
      · have b4 : (op == 4) = false := by simpa using h4
        rw [if_neg h4]
        simp only [b1, b3, b4, Bool.false_eq_true, if_false, Option.bind_some]
def refF (atoms : List Atom) : FnM := atoms.foldl (fun F a => putsA a.Op (posT (foldA18 atoms).1 a.Left) (posT (foldA18 atoms).1 a.Right) F) (R0 (foldA18 atoms).1)
theorem ref_l18_loop (atoms : List Atom) (hl : atoms.length ≤ 100) : LoopF (drossref18_Contradictory_l18 (pairsR atoms)) (matF (foldA18 atoms).1.length (R0 (foldA18 atoms).1), 0) = some (matF (foldA18 atoms).1.length (refF atoms)) := by
  have hmem : ∀ a ∈ atoms, a.Left ∈ (foldA18 atoms).1 ∧ a.Right ∈ (foldA18 atoms).1 := (foldA_mem atoms ([], zeroF)).2
  have hpl : (pairsR atoms).length = atoms.length := by simp [pairsR]
  have h := LoopF_foldl atoms (fun (F : FnM) (i : Int) => (matF (foldA18 atoms).1.length F, i)) (drossref18_Contradictory_l18 (pairsR atoms)) (fun F a => putsA a.Op (posT (foldA18 atoms).1 a.Left) (posT (foldA18 atoms).1 a.Right) F) (fun F => matF (foldA18 atoms).1.length F) (fun _ F => le2 F) (b0 := R0 (foldA18 atoms).1) (s0 := (matF (foldA18 atoms).1.length (R0 (foldA18 atoms).1), 0)) rfl (R0_le2 _)
    (fun k F a hx hk hI => by
      obtain ⟨hL, hR⟩ := hmem a (List.mem_of_getElem? hx)
      have hq : (pairsR atoms)[k]? = some ⟨(posT (foldA18 atoms).1 a.Left : Int), a.Op, (posT (foldA18 atoms).1 a.Right : Int)⟩ := by unfold pairsR; rw [List.getElem?_map, hx]; rfl
      exact ⟨by rw [ref_l18_step _ hq (posT_mem hL).2 (posT_mem hR).2 hI, wrap_succ hk (by omega)], putsA_le2 hI _ _ _⟩)
    (fun F _ => by simp [drossref18_Contradictory_l18, hpl])
  exact h
theorem refF_ge (T : List Term) (i j : Nat) (w : Int) : ∀ (l : List Atom) (F : FnM), w ≤ (l.foldl (fun F a => putsA a.Op (posT T a.Left) (posT T a.Right) F) F) i j ↔ w ≤ F i j ∨ ∃ a ∈ l, hitP (putsOf a.Op (posT T a.Left) (posT T a.Right)) i j w
  | [], F => by simp
  | a :: l, F => by
    rw [List.foldl_cons, refF_ge T i j w l, putsA_ge]
    constructor
    · rintro ((h | h) | ⟨b, hb, h⟩)
      · exact .inl h
      · exact .inr ⟨a, by simp, h⟩
      · exact .inr ⟨b, by simp [hb], h⟩
    · rintro (h | ⟨b, hb, h⟩)
      · exact .inl (.inl h)
      · rcases List.mem_cons.1 hb with rfl | hb
        · exact .inl (.inr h)
        · exact .inr ⟨b, hb, h⟩
/-- both layers have the same matrix -/
theorem same_pre (atoms : List Atom) : refF atoms = constM (foldA18 atoms).1 (foldA18 atoms).2 := by
  funext i j
  have key : ∀ w, w ≤ refF atoms i j ↔ w ≤ constM (foldA18 atoms).1 (foldA18 atoms).2 i j := by
    intro w
    rw [pre_ge]
    unfold refF
    rw [refF_ge, R0_ge]
    constructor
    · rintro ((h | h | h) | h)
      · exact .inl (.inl h)
      · exact .inl (.inr (.inl h))
      · exact .inr h
      · exact .inl (.inr (.inr h))
    · rintro ((h | h | h) | h)
      · exact .inl (.inl h)
      · exact .inl (.inr (.inl h))
      · exact .inr h
      · exact .inl (.inr (.inr h))
  have h1 := (key (refF atoms i j)).1 (Int.le_refl _)
  have h2 := (key (constM (foldA18 atoms).1 (foldA18 atoms).2 i j)).2 (Int.le_refl _)
  omega
theorem clo_29 (T : List Term) {n : Nat} (hT : T.length = n) (hn : n ≤ 1000) {k i : Nat} (hk : k < n) (hi : i < n) (F : FnM) :
    LoopF (drossref18_Contradictory_l29 T (k : Int) (i : Int)) (matF n F, 0) = some (matF n (rowC18 n k F i)) := by
  refine mat_loop n hn _ (stepC18 k i) (fun F j hj => ?_) (fun F => ?_) F
  · have e1 := matF_get (F := F) hi
    have e2 := matF_get (F := F) hk
    have e3 := rowF_get (F := F) (i := i) hk
    have e4 := rowF_get (F := F) (i := k) hj
    have e5 := rowF_get (F := F) (i := i) hj
    simp only [drossref18_Contradictory_l29, hT, if_pos (show (j : Int) < ((n : Nat) : Int) by omega), idx_get e1, idx_get e2, idx_get e3, idx_get e4, idx_get e5, Option.bind_some]
    unfold stepC18
    by_cases h1 : 0 < F i k
    · simp only [if_pos (show F i k > 0 from h1), Option.bind_some]
      by_cases h2 : 0 < F k j
      · have hm : max (max (F i j) (F i k)) (F k j) = mx3 (F i j) (F i k) (F k j) := by unfold mx3; omega
        simp only [if_pos (show 0 < F i k ∧ 0 < F k j from ⟨h1, h2⟩), show decide (F k j > 0) = true by simpa using h2, if_true, Int.toNat_natCast, ite_max, hm, matF_set hi hj]
      · simp only [if_neg (show ¬ (0 < F i k ∧ 0 < F k j) from fun h => h2 h.2), show decide (F k j > 0) = false by simpa using h2, Bool.false_eq_true, if_false]
    · simp only [if_neg (show ¬ (F i k > 0) from h1), Option.bind_some, if_neg (show ¬ (0 < F i k ∧ 0 < F k j) from fun h => h1 h.1), Bool.false_eq_true, if_false]
  · simp [drossref18_Contradictory_l29, hT]
theorem clo_30 (T : List Term) {n : Nat} (hT : T.length = n) (hn : n ≤ 1000) {k : Nat} (hk : k < n) (F : FnM) :
    LoopF (drossref18_Contradictory_l30 T (k : Int)) (matF n F, 0) = some (matF n (layC18 n F k)) := by
  refine mat_loop n hn _ (rowC18 n k) (fun F i hi => ?_) (fun F => ?_) F
  · simp only [drossref18_Contradictory_l30, hT, if_pos (show (i : Int) < ((n : Nat) : Int) by omega), clo_29 T hT hn hk hi, Option.bind_some]
  · simp [drossref18_Contradictory_l30, hT]
theorem clo_31 (T : List Term) {n : Nat} (hT : T.length = n) (hn : n ≤ 1000) (F : FnM) :
    LoopF (drossref18_Contradictory_l31 T) (matF n F, 0) = some (matF n (closeF n F)) := by
  refine mat_loop n hn _ (layC18 n) (fun F i hi => ?_) (fun F => ?_) F
  · simp only [drossref18_Contradictory_l31, hT, if_pos (show (i : Int) < ((n : Nat) : Int) by omega), clo_30 T hT hn hi, Option.bind_some]
  · simp [drossref18_Contradictory_l31, hT]
theorem ref_l32 (T : List Term) (hn : T.length ≤ 1000) (F : FnM) : LoopF (drossref18_Contradictory_l32 T (matF T.length F)) 0 = some (if (List.range T.length).all (fun i => decide (F i i ≠ 2)) then .inl () else .inr true) := by
  refine LoopF_all (List.range T.length) _ (fun i => decide (F i i ≠ 2)) true (fun k x hx hk hp => ?_) (fun k x hx hp => ?_) (by simp [drossref18_Contradictory_l32])
  · rw [List.length_range] at hk
    obtain ⟨rfl, _⟩ := range_at hx
    have hp' : ¬ ((F x x == 2) = true) := by simpa using hp
    simp only [drossref18_Contradictory_l32, if_pos (show (x : Int) < ((T.length : Nat) : Int) by omega), idx_get (matF_get hk), idx_get (rowF_get hk), Option.bind_some, if_neg hp', wrap_succ hk (show T.length ≤ 4611686018427387904 by omega)]
  · obtain ⟨rfl, hk⟩ := range_at hx
    have hp' : (F x x == 2) = true := by simpa using hp
    simp only [drossref18_Contradictory_l32, if_pos (show (x : Int) < ((T.length : Nat) : Int) by omega), idx_get (matF_get hk), idx_get (rowF_get hk), Option.bind_some, if_pos hp']
theorem ref_l33 (atoms : List Atom) (hl : atoms.length ≤ 100) (F : FnM) : LoopF (drossref18_Contradictory_l33 (pairsR atoms) (matF (foldA18 atoms).1.length F)) 0 = some (if atoms.all (fun a => !clash (foldA18 atoms).1 F a) then .inl () else .inr true) := by
  have hmem : ∀ a ∈ atoms, a.Left ∈ (foldA18 atoms).1 ∧ a.Right ∈ (foldA18 atoms).1 := (foldA_mem atoms ([], zeroF)).2
  have hpl : (pairsR atoms).length = atoms.length := by simp [pairsR]
  have step : ∀ (k : Nat) (a : Atom), atoms[k]? = some a → drossref18_Contradictory_l33 (pairsR atoms) (matF (foldA18 atoms).1.length F) (k : Int) = if clash (foldA18 atoms).1 F a = true then some (.done (.inr true)) else some (.next (IntKind.i64.wrap ((k : Int) + 1))) := by
    intro k a hx
    obtain ⟨hL, hR⟩ := hmem a (List.mem_of_getElem? hx)
    have hl' := (posT_mem hL).2
    have hr' := (posT_mem hR).2
    have hq : (pairsR atoms)[k]? = some ⟨(posT (foldA18 atoms).1 a.Left : Int), a.Op, (posT (foldA18 atoms).1 a.Right : Int)⟩ := by unfold pairsR; rw [List.getElem?_map, hx]; rfl
    have e1 := matF_get (F := F) hl'
    have e2 := rowF_get (F := F) (i := posT (foldA18 atoms).1 a.Left) hr'
    have e3 := matF_get (F := F) hr'
    have e4 := rowF_get (F := F) (i := posT (foldA18 atoms).1 a.Right) hl'
    simp only [drossref18_Contradictory_l33, if_pos (lt_true hq), idx_get hq, Option.bind_some]
    unfold clash
    by_cases h2 : a.Op = 2
    · rw [if_pos (by simpa using h2)]
      simp only [idx_get e1, idx_get e2, Option.bind_some, h2, decide_true, Bool.true_and]
      by_cases h3 : F (posT (foldA18 atoms).1 a.Left) (posT (foldA18 atoms).1 a.Right) > 0
      · rw [if_pos h3]
        simp only [idx_get e3, idx_get e4, Option.bind_some, show decide (0 < F (posT (foldA18 atoms).1 a.Left) (posT (foldA18 atoms).1 a.Right)) = true by simpa using h3, Bool.true_and, decide_eq_true_eq]
      · rw [if_neg h3]
        simp only [show decide (0 < F (posT (foldA18 atoms).1 a.Left) (posT (foldA18 atoms).1 a.Right)) = false by simpa using h3, Bool.false_and, Bool.false_eq_true, if_false]
    · rw [if_neg (by simpa using h2)]
      simp [h2]
  refine LoopF_all atoms _ (fun a => !clash (foldA18 atoms).1 F a) true (fun k a hx hk hp => ?_) (fun k a hx hp => ?_) (by simp [drossref18_Contradictory_l33, hpl])
  · have hp' : clash (foldA18 atoms).1 F a = false := by simpa using hp
    rw [step k a hx, hp', if_neg (by simp), wrap_succ hk (by omega)]
  · have hp' : clash (foldA18 atoms).1 F a = true := by simpa using hp
    rw [step k a hx, if_pos hp']
theorem ref_Contradictory_eq (atoms : List Atom) (hl : atoms.length ≤ 100) (hs : ∀ a ∈ atoms, a.Left.Value.Str.length ≤ 1073741824 ∧ a.Right.Value.Str.length ≤ 1073741824) : drossref18_Contradictory atoms = some (contraB atoms) := by
  have hok := foldA_ok atoms ([], zeroF) (fun _ _ _ => rfl)
  have hn : (foldA18 atoms).1.length ≤ 200 := by have := hok.2; simp at this; unfold foldA18; omega
  have hst : ∀ t ∈ (foldA18 atoms).1, t.Value.Str.length ≤ 1073741824 := by
    have key : ∀ (l : List Atom) (S : List Term × FnM), (∀ a ∈ l, a.Left.Value.Str.length ≤ 1073741824 ∧ a.Right.Value.Str.length ≤ 1073741824) → (∀ t ∈ S.1, t.Value.Str.length ≤ 1073741824) → ∀ t ∈ (l.foldl stepA18 S).1, t.Value.Str.length ≤ 1073741824 := by
      intro l
      induction l with
      | nil => intro S _ h; exact h
      | cons a l ih =>
        intro S hl h
        rw [List.foldl_cons]
        refine ih (stepA18 S a) (fun b hb => hl b (by simp [hb])) fun t ht => ?_
        have hn : ∀ (T : List Term) (u : Term), (∀ t ∈ T, t.Value.Str.length ≤ 1073741824) → u.Value.Str.length ≤ 1073741824 → ∀ t ∈ nodeT T u, t.Value.Str.length ≤ 1073741824 := by
          intro T u hT hu t ht
          unfold nodeT at ht
          split at ht
          · exact hT t ht
          · rcases List.mem_append.1 ht with ht | ht
            · exact hT t ht
            · rw [List.mem_singleton.1 ht]; exact hu
        have ha := hl a (by simp)
        exact hn _ _ (hn _ _ h ha.1) ha.2 t ht
    exact key atoms ([], zeroF) hs (by simp)
  unfold drossref18_Contradictory contraB
  rw [l13_loop atoms hl]
  simp only [Option.bind_some]
  rw [if_pos (by omega), if_pos (room_le (by omega) (by omega)), l17_loop _ (by omega) hst]
  simp only [Option.bind_some]
  rw [ref_l18_loop atoms hl, same_pre]
  simp only [Option.bind_some]
  rw [clo_31 _ rfl (by omega)]
  simp only [Option.bind_some]
  generalize closeF (foldA18 atoms).1.length (constM (foldA18 atoms).1 (foldA18 atoms).2) = F
  rw [ref_l32 _ (by omega)]
  simp only [Option.bind_some]
  have hany : ((List.range (foldA18 atoms).1.length).any fun i => decide (F i i = 2)) = !((List.range (foldA18 atoms).1.length).all fun i => decide (F i i ≠ 2)) := by
    rw [← any_not]
    simp only [Bool.not_not]
    congr 1
    funext i
    simp
  have hany2 : atoms.any (clash (foldA18 atoms).1 F) = !(atoms.all fun a => !clash (foldA18 atoms).1 F a) := by
    rw [← any_not]
    simp only [Bool.not_not]
  rw [hany, hany2]
  cases hd : (List.range (foldA18 atoms).1.length).all fun i => decide (F i i ≠ 2) with
  | false => simp
  | true =>
    simp only [if_true, ref_l33 atoms hl F, Option.bind_some, Bool.not_true, Bool.false_or]
    cases atoms.all fun a => !clash (foldA18 atoms).1 F a <;> rfl
theorem side_short (n vars : Nat) (s : Drossref18_Side) : (sideN n vars s).Value.Str.length ≤ 1073741824 := by
  unfold sideN
  split
  · have := (ofV_eq s.Code).2.2
    simp only; omega
  · simp
theorem DenialContradictory_holds (x : Drossref03_Recipe) (r : Drossref18_Recipe) (h0 : okDrossref03_Recipe x) (h1 : okDrossref18_Recipe r) : drosslaw18_DenialContradictory x r = some true := by
  rcases recipe7 x h0 with ⟨t, ht, ha⟩ | ⟨t, ht, hok, G, hn, hat⟩
  · have hof := Of_eq18 (n := t.Attrs.length) (by rw [ha]; simp) h1
    simp only [drosslaw18_DenialContradictory, ht, hof, awake18, Option.bind_some, if_true, Bool.false_eq_true, if_false]
  · have H := dt_of hok G hn
    have hof := Of_eq18 (n := t.Attrs.length) (by omega) h1
    by_cases h5 : (r.Atoms.length : Int) ≤ 5
    · have hl : (consN t.Attrs.length r).Atoms.length ≤ 5 := by unfold consN; rw [List.length_map]; omega
      have hc : slices_Clone_Atom (consN t.Attrs.length r).Atoms = some (consN t.Attrs.length r).Atoms := by
        unfold slices_Clone_Atom
        rw [if_pos (room_le (by omega) (by omega))]
      have e1 := Contradictory_eq (consN t.Attrs.length r).Atoms (by omega)
      have e2 := ref_Contradictory_eq (consN t.Attrs.length r).Atoms (by omega) (fun a ha => by
        obtain ⟨s, _, rfl⟩ := List.mem_map.1 ha
        exact ⟨side_short _ _ _, side_short _ _ _⟩)
      have e3 := viol_at H (consN_err H (r := r) (by omega)) (by omega)
      simp only [drosslaw18_DenialContradictory, ht, hof, awake18, Option.bind_some, if_true, h5, decide_true, Bool.not_true, Bool.false_eq_true, if_false, hc, e1, e2, e3, beq_self_eq_true]
      cases hb : contraB (consN t.Attrs.length r).Atoms with
      | false => rfl
      | true =>
        have hv : violL t (consN t.Attrs.length r) = [] := by
          unfold violL
          rw [List.map_eq_nil_iff, List.filter_eq_nil_iff]
          intro y _
          rw [contra_sound hb y]; simp
        rw [hv]
        rfl
    · simp only [drosslaw18_DenialContradictory, ht, hof, awake18, Option.bind_some, if_true, h5, decide_false, Bool.not_false]
end Go.Proofs.YtlaodgbkpmdhoaaGreatDoor
