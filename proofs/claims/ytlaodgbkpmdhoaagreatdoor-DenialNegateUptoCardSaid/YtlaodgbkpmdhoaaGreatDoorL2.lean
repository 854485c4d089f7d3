/- The Lean functions that the program's functions are lifted to, and the plain laws about them. -/
import Derived.Test.YtlaodgbkpmdhoaaGreatDoorL1
/- Denial: what Contradictory computes. -/
set_option linter.unusedVariables false
set_option linter.unusedSimpArgs false
namespace Go.Proofs.YtlaodgbkpmdhoaaGreatDoor
open Go Go.Ab

theorem teq_eq (v x : Term) : ((v.Var == x.Var) && ((v.Attr == x.Attr) && ((v.Value.Kind == x.Value.Kind) && ((v.Value.Num == x.Value.Num) && (v.Value.Str == x.Value.Str))))) = decide (x = v) := by
  obtain ⟨a, b, ⟨c, d, e⟩⟩ := v
  obtain ⟨a', b', ⟨c', d', e'⟩⟩ := x
  rw [Bool.eq_iff_iff]
  simp only [Bool.and_eq_true, beq_iff_eq, decide_eq_true_eq, Term.mk.injEq, Value.mk.injEq]
  constructor
  · rintro ⟨rfl, rfl, rfl, rfl, rfl⟩; exact ⟨rfl, rfl, rfl, rfl, rfl⟩
  · rintro ⟨rfl, rfl, rfl, rfl, rfl⟩; exact ⟨rfl, rfl, rfl, rfl, rfl⟩
def posT (T : List Term) (t : Term) : Nat := (T.findIdx? fun y => decide (y = t)).getD T.length
theorem posT_mem {T : List Term} {t : Term} (h : t ∈ T) : (T.findIdx? fun y => decide (y = t)) = some (posT T t) ∧ posT T t < T.length := by
  unfold posT
  cases hf : T.findIdx? fun y => decide (y = t) with
  | none =>
    rw [List.findIdx?_eq_none_iff] at hf
    have := hf t h
    simp at this
  | some i =>
    rw [List.findIdx?_eq_some_iff_getElem] at hf
    obtain ⟨hi, _⟩ := hf
    exact ⟨rfl, hi⟩
theorem posT_not {T : List Term} {t : Term} (h : t ∉ T) : (T.findIdx? fun y => decide (y = t)) = none ∧ posT T t = T.length := by
  have hf : (T.findIdx? fun y => decide (y = t)) = none := by
    rw [List.findIdx?_eq_none_iff]
    intro x hx
    simp only [decide_eq_false_iff_not]
    rintro rfl; exact h hx
  exact ⟨hf, by unfold posT; rw [hf]; rfl⟩
theorem Index_Term_eq (T : List Term) (t : Term) (hl : T.length ≤ 1000000) : slices_Index_Term T t = some (if t ∈ T then (posT T t : Int) else -1) := by
  have h := LoopF_find T (slices_Index_Term_l1 T t) (fun y => decide (y = t))
    (fun k x hx hk hp => by simp only [slices_Index_Term_l1, if_pos (lt_true hx), idx_get hx, Option.bind_some, teq_eq, hp, Bool.false_eq_true, if_false, wrap_succ hk (show T.length ≤ 4611686018427387904 by omega)])
    (fun k x hx hp => by simp only [slices_Index_Term_l1, if_pos (lt_true hx), idx_get hx, Option.bind_some, teq_eq, hp, if_true])
    (by simp [slices_Index_Term_l1])
  unfold slices_Index_Term
  rw [h, Option.bind_some]
  by_cases hm : t ∈ T
  · rw [if_pos hm, (posT_mem hm).1]
  · rw [if_neg hm, (posT_not hm).1]
def nodeT (T : List Term) (t : Term) : List Term := if t ∈ T then T else T ++ [t]
def nodeF (T : List Term) (F : FnM) (t : Term) : FnM := if t ∈ T then F else updM F T.length T.length 1
def putsA (op : Int) (l r : Nat) (F : FnM) : FnM := if op = 1 then putM (putM F l r 1) r l 1 else if op = 3 then putM F l r 2 else if op = 4 then putM F l r 1 else F
def stepA18 (S : List Term × FnM) (a : Atom) : List Term × FnM :=
  (nodeT (nodeT S.1 a.Left) a.Right, putsA a.Op (posT S.1 a.Left) (posT (nodeT S.1 a.Left) a.Right) (nodeF (nodeT S.1 a.Left) (nodeF S.1 S.2 a.Left) a.Right))
theorem nodeT_len (T : List Term) (t : Term) : T.length ≤ (nodeT T t).length ∧ (nodeT T t).length ≤ T.length + 1 ∧ posT T t < (nodeT T t).length := by
  unfold nodeT
  by_cases h : t ∈ T
  · rw [if_pos h]; exact ⟨by omega, by omega, (posT_mem h).2⟩
  · rw [if_neg h, (posT_not h).2]; simp
theorem node_sup {T : List Term} {F : FnM} (t : Term) (h : supM T.length F) : supM (nodeT T t).length (nodeF T F t) := by
  unfold nodeT nodeF
  by_cases hm : t ∈ T
  · rw [if_pos hm, if_pos hm]; exact h
  · rw [if_neg hm, if_neg hm]
    rw [show (T ++ [t]).length = T.length + 1 by simp]
    exact supM_upd (supM_le h (by omega)) (by omega) (by omega)
theorem putM_sup {n : Nat} {F : FnM} {i j : Nat} {w : Int} (h : supM n F) (hi : i < n) (hj : j < n) : supM n (putM F i j w) := supM_upd h hi hj
theorem putsA_sup {n : Nat} {F : FnM} {l r : Nat} (op : Int) (h : supM n F) (hl : l < n) (hr : r < n) : supM n (putsA op l r F) := by
  unfold putsA
  split
  · exact putM_sup (putM_sup h hl hr) hr hl
  · split
    · exact putM_sup h hl hr
    · split
      · exact putM_sup h hl hr
      · exact h
theorem step_sup {S : List Term × FnM} (a : Atom) (h : supM S.1.length S.2) : supM (stepA18 S a).1.length (stepA18 S a).2 := by
  have h1 := nodeT_len S.1 a.Left
  have h2 := nodeT_len (nodeT S.1 a.Left) a.Right
  exact putsA_sup _ (node_sup a.Right (node_sup a.Left h)) (show posT S.1 a.Left < (nodeT (nodeT S.1 a.Left) a.Right).length by omega) h2.2.2
theorem step_len (S : List Term × FnM) (a : Atom) : S.1.length ≤ (stepA18 S a).1.length ∧ (stepA18 S a).1.length ≤ S.1.length + 2 := by
  have h1 := nodeT_len S.1 a.Left
  have h2 := nodeT_len (nodeT S.1 a.Left) a.Right
  show S.1.length ≤ (nodeT (nodeT S.1 a.Left) a.Right).length ∧ (nodeT (nodeT S.1 a.Left) a.Right).length ≤ S.1.length + 2
  omega
theorem rows_short {n : Nat} (hn : n ≤ 1000) {F : FnM} : ∀ x ∈ matF n F, x.length ≤ 1000 := by
  intro x hx
  obtain ⟨i, _, rfl⟩ := List.mem_map.1 hx
  rw [rowF_len]; exact hn
theorem last_nat {n : Nat} (h : n ≤ 1000000) : (IntKind.i64.wrap ((((n + 1) : Nat) : Int) - 1)) = (n : Int) := wrap_last h
/-- the rest of node -/
theorem node_tail {α : Type} {n : Nat} (hn : n ≤ 900) {F : FnM} (hs : supM n F) (K : List Int → List (List Int) → Option α) :
    (if 0 ≤ (((n + 1) : Nat) : Int) then (if roomB (n + 1) 8 = true then (if roomB (((matF n F).map fun x => x ++ [0]).length + 1) 24 = true then
      (idx (((matF n F).map fun x => x ++ [0]) ++ [(List.replicate (n + 1) 0)]) (IntKind.i64.wrap ((((n + 1) : Nat) : Int) - 1))).bind fun (x : List Int) =>
      (idx x (IntKind.i64.wrap ((((n + 1) : Nat) : Int) - 1))).bind fun (y : Int) =>
      K x ((((matF n F).map fun x => x ++ [0]) ++ [(List.replicate (n + 1) 0)]).set ((IntKind.i64.wrap ((((n + 1) : Nat) : Int) - 1)).toNat) (x.set (IntKind.i64.wrap ((((n + 1) : Nat) : Int) - 1)).toNat 1))
      else none) else none) else none) = K (rowF (n + 1) F n) (matF (n + 1) (updM F n n 1)) := by
  rw [matF_grow hs, last_nat (by omega), if_pos (by omega), if_pos (room8 (by omega)), if_pos (room_le (by rw [List.length_map, matF_len]; omega) (by omega))]
  rw [idx_get (matF_get (show n < n + 1 by omega)), Option.bind_some, idx_get (rowF_get (show n < n + 1 by omega)), Option.bind_some, Int.toNat_natCast, matF_set (by omega) (by omega)]
theorem puts_eq {n : Nat} {F : FnM} {l r : Nat} (hl : l < n) (hr : r < n) (T : List Term) (op k : Int) {τ : Type} :
    (if (op == 1) = true then
      (idx (matF n F) (l : Int)).bind fun (x : List Int) => (idx x (r : Int)).bind fun (y : Int) =>
      (idx ((matF n F).set ((l : Int)).toNat (x.set ((r : Int)).toNat (if 1 > y then 1 else y))) (r : Int)).bind fun (x2 : List Int) => (idx x2 (l : Int)).bind fun (y2 : Int) =>
      some (LS.next (T, (((matF n F).set ((l : Int)).toNat (x.set ((r : Int)).toNat (if 1 > y then 1 else y))).set ((r : Int)).toNat (x2.set ((l : Int)).toNat (if 1 > y2 then 1 else y2))), k))
    else if (op == 3) = true then
      (idx (matF n F) (l : Int)).bind fun (x : List Int) => (idx x (r : Int)).bind fun (y : Int) =>
      some (LS.next (T, ((matF n F).set ((l : Int)).toNat (x.set ((r : Int)).toNat (if 2 > y then 2 else y))), k))
    else if (op == 4) = true then
      (idx (matF n F) (l : Int)).bind fun (x : List Int) => (idx x (r : Int)).bind fun (y : Int) =>
      some (LS.next (T, ((matF n F).set ((l : Int)).toNat (x.set ((r : Int)).toNat (if 1 > y then 1 else y))), k))
    else some (LS.next (T, matF n F, k))) = (some (LS.next (T, matF n (putsA op l r F), k)) : Option (LS (List Term × List (List Int) × Int) τ)) := by
  have e1 := matF_get (F := F) hl
  have e2 := rowF_get (F := F) (i := l) hr
  unfold putsA
  by_cases h1 : op = 1
  · have e3 := matF_get (F := putM F l r 1) hr
    have e4 := rowF_get (F := putM F l r 1) (i := r) hl
    unfold putM at e3 e4
    rw [if_pos (by simpa using h1), if_pos h1]
    simp only [idx_get e1, idx_get e2, Option.bind_some, Int.toNat_natCast, matF_set hl hr, ite_max, idx_get e3, idx_get e4, matF_set hr hl]
    rfl
  · rw [if_neg (by simpa using h1), if_neg h1]
    by_cases h3 : op = 3
    · rw [if_pos (by simpa using h3), if_pos h3]
      simp only [idx_get e1, idx_get e2, Option.bind_some, Int.toNat_natCast, matF_set hl hr, ite_max]
      rfl
    · rw [if_neg (by simpa using h3), if_neg h3]
      by_cases h4 : op = 4
      · rw [if_pos (by simpa using h4), if_pos h4]
        simp only [idx_get e1, idx_get e2, Option.bind_some, Int.toNat_natCast, matF_set hl hr, ite_max]
        rfl
      · rw [if_neg (by simpa using h4), if_neg h4]
theorem l19_step (atoms : List Atom) {T : List Term} {F : FnM} {k : Nat} {a : Atom} (hk : atoms[k]? = some a) (hn : T.length ≤ 500) (hs : supM T.length F) :
    denial_Contradictory_l19 atoms (T, matF T.length F, (k : Int)) = some (.next ((stepA18 (T, F) a).1, matF (stepA18 (T, F) a).1.length (stepA18 (T, F) a).2, IntKind.i64.wrap ((k : Int) + 1))) := by
  have i1 := Index_Term_eq T a.Left (by omega)
  have i2 := Index_Term_eq T a.Right (by omega)
  have g0 : LoopF (denial_Contradictory_l16 (matF T.length F)) (matF T.length F, 0) = some ((matF T.length F).map fun x => x ++ [0]) :=
    grow_loop18 (matF T.length F) T.length (matF_len _ _) (by omega) (rows_short (by omega)) _ (fun o k => by simp only [denial_Contradictory_l16, matF_len])
  have g0' : LoopF (denial_Contradictory_l17 (matF T.length F)) (matF T.length F, 0) = some ((matF T.length F).map fun x => x ++ [0]) := g0
  have hlen0 : (matF T.length F).length ≤ ((matF T.length F).map fun x => x ++ [0]).length := by rw [List.length_map]; exact Nat.le_refl _
  by_cases hL : a.Left ∈ T
  · obtain ⟨_, hl⟩ := posT_mem hL
    have hT1 : nodeT T a.Left = T := by unfold nodeT; rw [if_pos hL]
    have hF1 : nodeF T F a.Left = F := by unfold nodeF; rw [if_pos hL]
    by_cases hR : a.Right ∈ T
    · obtain ⟨_, hr⟩ := posT_mem hR
      have hT2 : nodeT T a.Right = T := by unfold nodeT; rw [if_pos hR]
      have hF2 : nodeF T F a.Right = F := by unfold nodeF; rw [if_pos hR]
      simp only [denial_Contradictory_l19, if_pos (lt_true hk), idx_get hk, Option.bind_some, i1, i2, if_pos hL, if_pos hR, if_pos (show (posT T a.Left : Int) ≥ 0 by omega), if_pos (show (posT T a.Right : Int) ≥ 0 by omega)]
      rw [puts_eq hl hr]
      simp only [stepA18, hT1, hF1, hT2, hF2]
    · obtain ⟨_, hr⟩ := posT_not hR
      have hT2 : nodeT T a.Right = T ++ [a.Right] := by unfold nodeT; rw [if_neg hR]
      have hF2 : nodeF T F a.Right = updM F T.length T.length 1 := by unfold nodeF; rw [if_neg hR]
      simp only [denial_Contradictory_l19, if_pos (lt_true hk), idx_get hk, Option.bind_some, i1, i2, if_pos hL, if_neg hR, if_pos (show (posT T a.Left : Int) ≥ 0 by omega), if_neg (show ¬ (-1 : Int) ≥ 0 by omega), room_le (show T.length + 1 ≤ 1073741824 by omega) (show 48 ≤ 65536 by omega), if_true, g0, if_pos hlen0]
      have nt := node_tail (show T.length ≤ 900 by omega) hs (fun _ M => (some (T ++ [a.Right], M, ((posT T a.Left : Nat) : Int), IntKind.i64.wrap ((((T.length + 1) : Nat) : Int) - 1)) : Option (List Term × List (List Int) × Int × Int)))
      rw [nt]
      simp only [Option.bind_some, last_nat (show T.length ≤ 1000000 by omega)]
      rw [puts_eq (show posT T a.Left < T.length + 1 by omega) (show T.length < T.length + 1 by omega)]
      simp only [stepA18, hT1, hF1, hT2, hF2, hr, List.length_append, List.length_singleton]
  · obtain ⟨_, hl⟩ := posT_not hL
    have hT1 : nodeT T a.Left = T ++ [a.Left] := by unfold nodeT; rw [if_neg hL]
    have hF1 : nodeF T F a.Left = updM F T.length T.length 1 := by unfold nodeF; rw [if_neg hL]
    have hs1 : supM (T.length + 1) (updM F T.length T.length 1) := supM_upd (supM_le hs (by omega)) (by omega) (by omega)
    have i3 := Index_Term_eq (T ++ [a.Left]) a.Right (by simp; omega)
    simp only [denial_Contradictory_l19, if_pos (lt_true hk), idx_get hk, Option.bind_some, i1, if_neg hL, if_neg (show ¬ (-1 : Int) ≥ 0 by omega), room_le (show T.length + 1 ≤ 1073741824 by omega) (show 48 ≤ 65536 by omega), if_true, g0', if_pos hlen0, i3]
    by_cases hR : a.Right ∈ T ++ [a.Left]
    · obtain ⟨_, hr⟩ := posT_mem hR
      have hT2 : nodeT (T ++ [a.Left]) a.Right = T ++ [a.Left] := by unfold nodeT; rw [if_pos hR]
      have hF2 : nodeF (T ++ [a.Left]) (updM F T.length T.length 1) a.Right = updM F T.length T.length 1 := by unfold nodeF; rw [if_pos hR]
      simp only [if_pos hR, if_pos (show (posT (T ++ [a.Left]) a.Right : Int) ≥ 0 by omega)]
      have nt := node_tail (show T.length ≤ 900 by omega) hs (fun _ M => (some (T ++ [a.Left], M, IntKind.i64.wrap ((((T.length + 1) : Nat) : Int) - 1), ((posT (T ++ [a.Left]) a.Right : Nat) : Int)) : Option (List Term × List (List Int) × Int × Int)))
      rw [nt]
      simp only [Option.bind_some, last_nat (show T.length ≤ 1000000 by omega)]
      rw [List.length_append, List.length_singleton] at hr
      rw [puts_eq (show T.length < T.length + 1 by omega) hr]
      simp only [stepA18, hT1, hF1, hT2, hF2, hl, List.length_append, List.length_singleton]
    · obtain ⟨_, hr⟩ := posT_not hR
      have hT2 : nodeT (T ++ [a.Left]) a.Right = (T ++ [a.Left]) ++ [a.Right] := by unfold nodeT; rw [if_neg hR]
      have hF2 : nodeF (T ++ [a.Left]) (updM F T.length T.length 1) a.Right = updM (updM F T.length T.length 1) (T.length + 1) (T.length + 1) 1 := by
        unfold nodeF; rw [if_neg hR]; simp
      simp only [if_neg hR, if_neg (show ¬ (-1 : Int) ≥ 0 by omega), room_le (show T.length + 1 + 1 ≤ 1073741824 by omega) (show 48 ≤ 65536 by omega), if_true]
      have nt := node_tail (show T.length ≤ 900 by omega) hs (fun (x : List Int) M => (LoopF (denial_Contradictory_l18 T ((matF T.length F).map fun x => x ++ [0]) x) (M, 0)).bind (fun (o3 : List (List Int)) =>
        if (((matF T.length F).map fun x => x ++ [0]) ++ [(List.replicate (T.length + 1) 0)]).length ≤ o3.length then
        if 0 ≤ ((((T.length + 1) + 1) : Nat) : Int) then
        if roomB ((T.length + 1) + 1) 8 = true then
        if roomB (o3.length + 1) 24 = true then
        (idx (o3 ++ [(List.replicate ((T.length + 1) + 1) 0)]) (IntKind.i64.wrap (((((T.length + 1) + 1) : Nat) : Int) - 1))).bind fun (x2 : List Int) =>
        (idx x2 (IntKind.i64.wrap (((((T.length + 1) + 1) : Nat) : Int) - 1))).bind fun (y2 : Int) =>
        if (matF T.length F).length ≤ o3.length then
        (some (((T ++ [a.Left]) ++ [a.Right]), ((o3 ++ [(List.replicate ((T.length + 1) + 1) 0)]).set ((IntKind.i64.wrap (((((T.length + 1) + 1) : Nat) : Int) - 1)).toNat) (x2.set (IntKind.i64.wrap (((((T.length + 1) + 1) : Nat) : Int) - 1)).toNat 1)), (IntKind.i64.wrap ((((T.length + 1) : Nat) : Int) - 1)), (IntKind.i64.wrap (((((T.length + 1) + 1) : Nat) : Int) - 1))) : Option (List Term × List (List Int) × Int × Int))
        else none else none else none else none else none))
      rw [nt]
      have g1 : LoopF (denial_Contradictory_l18 T ((matF T.length F).map fun x => x ++ [0]) (rowF (T.length + 1) F T.length)) (matF (T.length + 1) (updM F T.length T.length 1), 0) = some ((matF (T.length + 1) (updM F T.length T.length 1)).map fun x => x ++ [0]) :=
        grow_loop18 (matF (T.length + 1) (updM F T.length T.length 1)) (T.length + 1) (matF_len _ _) (by omega) (rows_short (by omega)) _ (fun o k => by simp only [denial_Contradictory_l18, List.length_append, List.length_map, matF_len, List.length_singleton, List.length_set])
      have hlen1 : (((matF T.length F).map fun x => x ++ [0]) ++ [(List.replicate (T.length + 1) 0)]).length ≤ ((matF (T.length + 1) (updM F T.length T.length 1)).map fun x => x ++ [0]).length := by simp [matF_len]
      have hlen2 : (matF T.length F).length ≤ ((matF (T.length + 1) (updM F T.length T.length 1)).map fun x => x ++ [0]).length := by simp [matF_len]
      simp only [g1, Option.bind_some, if_pos hlen1, if_pos hlen2]
      have nt2 := node_tail (show T.length + 1 ≤ 900 by omega) hs1 (fun (x : List Int) M => (some (((T ++ [a.Left]) ++ [a.Right]), M, (IntKind.i64.wrap ((((T.length + 1) : Nat) : Int) - 1)), (IntKind.i64.wrap (((((T.length + 1) + 1) : Nat) : Int) - 1))) : Option (List Term × List (List Int) × Int × Int)))
      rw [nt2]
      simp only [Option.bind_some, last_nat (show T.length ≤ 1000000 by omega), last_nat (show T.length + 1 ≤ 1000000 by omega)]
      rw [puts_eq (show T.length < T.length + 1 + 1 by omega) (show T.length + 1 < T.length + 1 + 1 by omega)]
      simp only [stepA18, hT1, hF1, hT2, hF2, hl, hr, List.length_append, List.length_singleton]
/-- terms and matrix of the atoms -/
def foldA18 (atoms : List Atom) : List Term × FnM := atoms.foldl stepA18 ([], zeroF)
theorem foldA_ok : ∀ (l : List Atom) (S : List Term × FnM), supM S.1.length S.2 → supM (l.foldl stepA18 S).1.length (l.foldl stepA18 S).2 ∧ (l.foldl stepA18 S).1.length ≤ S.1.length + 2 * l.length
  | [], S, h => ⟨h, by simp⟩
  | a :: l, S, h => by
    rw [List.foldl_cons]
    obtain ⟨h1, h2⟩ := foldA_ok l (stepA18 S a) (step_sup a h)
    have := step_len S a
    refine ⟨h1, ?_⟩
    rw [List.length_cons]; omega
theorem l19_loop (atoms : List Atom) (hl : atoms.length ≤ 100) : LoopF (denial_Contradictory_l19 atoms) ([], [], 0) = some ((foldA18 atoms).1, matF (foldA18 atoms).1.length (foldA18 atoms).2) := by
  have h := LoopF_foldl atoms (fun (S : List Term × FnM) (i : Int) => (S.1, matF S.1.length S.2, i)) (denial_Contradictory_l19 atoms) stepA18 (fun S => (S.1, matF S.1.length S.2)) (fun k S => supM S.1.length S.2 ∧ S.1.length ≤ 2 * k) (b0 := ([], zeroF)) (s0 := ([], [], 0)) rfl ⟨fun _ _ _ => rfl, Nat.le_refl _⟩
    (fun k S x hx hk hI => by
      obtain ⟨hI1, hI2⟩ := hI
      refine ⟨?_, step_sup x hI1, by have := step_len S x; omega⟩
      rw [l19_step atoms hx (by omega) hI1, wrap_succ hk (by omega)])
    (fun S _ => by simp [denial_Contradictory_l19])
  exact h
/-- the diagonal -/
theorem l50_loop (T : List Term) (hn : T.length ≤ 1000) (F : FnM) : LoopF (denial_Contradictory_l50 T (matF T.length F)) 0 = some (if (List.range T.length).all (fun i => decide (F i i ≠ 2)) then .inl () else .inr true) := by
  refine LoopF_all (List.range T.length) _ (fun i => decide (F i i ≠ 2)) true (fun k x hx hk hp => ?_) (fun k x hx hp => ?_) (by simp [denial_Contradictory_l50])
  · rw [List.length_range] at hk
    obtain ⟨rfl, _⟩ := range_at hx
    have hp' : ¬ ((F x x == 2) = true) := by simpa using hp
    simp only [denial_Contradictory_l50, if_pos (show (x : Int) < ((T.length : Nat) : Int) by omega), idx_get (matF_get hk), idx_get (rowF_get hk), Option.bind_some, if_neg hp', wrap_succ hk (show T.length ≤ 4611686018427387904 by omega)]
  · obtain ⟨rfl, hk⟩ := range_at hx
    have hp' : (F x x == 2) = true := by simpa using hp
    simp only [denial_Contradictory_l50, if_pos (show (x : Int) < ((T.length : Nat) : Int) by omega), idx_get (matF_get hk), idx_get (rowF_get hk), Option.bind_some, if_pos hp']
def clash (T : List Term) (F : FnM) (a : Atom) : Bool := decide (a.Op = 2) && (decide (0 < F (posT T a.Left) (posT T a.Right)) && decide (0 < F (posT T a.Right) (posT T a.Left)))
theorem l69_loop (atoms : List Atom) (hl : atoms.length ≤ 100) (T : List Term) (hn : T.length ≤ 1000) (hT : ∀ a ∈ atoms, a.Left ∈ T ∧ a.Right ∈ T) (F : FnM) :
    ∃ o, LoopF (denial_Contradictory_l69 atoms (matF T.length F)) (T, matF T.length F, 0) = some o ∧ (if atoms.any (clash T F) = true then ∃ k : Nat, o = .inr ((k : Int), T, matF T.length F) else o = .inl (T, matF T.length F)) := by
  have key : ∀ (r : List Atom) (k : Nat), atoms.drop k = r → k ≤ atoms.length → ∃ o, LoopF (denial_Contradictory_l69 atoms (matF T.length F)) (T, matF T.length F, (k : Int)) = some o ∧ (if r.any (clash T F) = true then ∃ k : Nat, o = .inr ((k : Int), T, matF T.length F) else o = .inl (T, matF T.length F)) := by
    intro r
    induction r with
    | nil =>
      intro k hd hk
      have := drop_n18 hd hk
      subst this
      exact ⟨_, Loop_done (t := .inl (T, matF T.length F)) (by simp [denial_Contradictory_l69]), by simp⟩
    | cons a r ih =>
      intro k hd hk
      obtain ⟨x1, x2, x3⟩ := drop_c18 hd
      obtain ⟨hL, hR⟩ := hT a (List.mem_of_getElem? x1)
      obtain ⟨_, hl'⟩ := posT_mem hL
      obtain ⟨_, hr'⟩ := posT_mem hR
      have e1 := matF_get (F := F) hl'
      have e2 := rowF_get (F := F) (i := posT T a.Left) hr'
      have e3 := matF_get (F := F) hr'
      have e4 := rowF_get (F := F) (i := posT T a.Right) hl'
      have hstep : denial_Contradictory_l69 atoms (matF T.length F) (T, matF T.length F, (k : Int)) = if clash T F a = true then some (.done (.inr ((k : Int), T, matF T.length F))) else some (.next (T, matF T.length F, ((k + 1 : Nat) : Int))) := by
        simp only [denial_Contradictory_l69, Nat.le_refl, if_true, if_pos (lt_true x1), idx_get x1, Option.bind_some, Index_Term_eq T a.Left (by omega), Index_Term_eq T a.Right (by omega), if_pos hL, if_pos hR, if_pos (show (posT T a.Left : Int) ≥ 0 by omega), if_pos (show (posT T a.Right : Int) ≥ 0 by omega), wrap_succ x3 (show atoms.length ≤ 4611686018427387904 by omega)]
        unfold clash
        by_cases h2 : a.Op = 2
        · rw [if_pos (by simpa using h2)]
          simp only [idx_get e1, idx_get e2, Option.bind_some, h2, decide_true, Bool.true_and]
          by_cases h3 : F (posT T a.Left) (posT T a.Right) > 0
          · rw [if_pos h3]
            simp only [idx_get e3, idx_get e4, Option.bind_some, show decide (0 < F (posT T a.Left) (posT T a.Right)) = true by simpa using h3, Bool.true_and, decide_eq_true_eq]
          · rw [if_neg h3]
            simp only [show decide (0 < F (posT T a.Left) (posT T a.Right)) = false by simpa using h3, Bool.false_and, Bool.false_eq_true, if_false]
        · rw [if_neg (by simpa using h2)]
          simp [h2]
      cases hc : clash T F a with
      | true =>
        rw [hc] at hstep
        exact ⟨_, Loop_done hstep, by simp only [List.any_cons, hc, Bool.true_or, if_true]; exact ⟨k, rfl⟩⟩
      | false =>
        rw [hc] at hstep
        simp only [Bool.false_eq_true, if_false] at hstep
        obtain ⟨o, ho1, ho2⟩ := ih (k + 1) x2 x3
        exact ⟨o, by rw [Loop_next hstep]; exact ho1, by simpa only [List.any_cons, hc, Bool.false_or] using ho2⟩
  exact key atoms 0 rfl (Nat.zero_le _)
def contraB (atoms : List Atom) : Bool :=
  let S := foldA18 atoms
  let F := closeF S.1.length (constM S.1 S.2)
  (List.range S.1.length).any (fun i => decide (F i i = 2)) || atoms.any (clash S.1 F)
theorem node_mem {T : List Term} {t : Term} : t ∈ nodeT T t ∧ ∀ x ∈ T, x ∈ nodeT T t := by
  unfold nodeT
  by_cases h : t ∈ T
  · rw [if_pos h]; exact ⟨h, fun x hx => hx⟩
  · rw [if_neg h]; exact ⟨by simp, fun x hx => by simp [hx]⟩
theorem foldA_mem : ∀ (l : List Atom) (S : List Term × FnM), (∀ x ∈ S.1, x ∈ (l.foldl stepA18 S).1) ∧ ∀ a ∈ l, a.Left ∈ (l.foldl stepA18 S).1 ∧ a.Right ∈ (l.foldl stepA18 S).1
  | [], S => ⟨fun x hx => hx, by simp⟩
  | a :: l, S => by
    rw [List.foldl_cons]
    obtain ⟨h1, h2⟩ := foldA_mem l (stepA18 S a)
    have m1 := @node_mem S.1 a.Left
    have m2 := @node_mem (nodeT S.1 a.Left) a.Right
    refine ⟨fun x hx => h1 x (m2.2 x (m1.2 x hx)), fun b hb => ?_⟩
    rcases List.mem_cons.1 hb with rfl | hb
    · exact ⟨h1 _ (m2.2 _ m1.1), h1 _ m2.1⟩
    · exact h2 b hb
theorem Contradictory_eq (atoms : List Atom) (hl : atoms.length ≤ 100) : denial_Contradictory atoms = some (contraB atoms) := by
  have hok := foldA_ok atoms ([], zeroF) (fun _ _ _ => rfl)
  have hmem := (foldA_mem atoms ([], zeroF)).2
  have hn : (foldA18 atoms).1.length ≤ 200 := by have := hok.2; simp at this; unfold foldA18; omega
  unfold denial_Contradictory contraB
  rw [l19_loop atoms hl]
  simp only [Option.bind_some]
  change ∀ a ∈ atoms, a.Left ∈ (foldA18 atoms).1 ∧ a.Right ∈ (foldA18 atoms).1 at hmem
  generalize (foldA18 atoms).1 = T at *
  generalize (foldA18 atoms).2 = F0 at *
  rw [const_23 T (by omega)]
  simp only [Option.bind_some]
  generalize constM T F0 = F1
  rw [clo_49 T rfl (by omega) (matF T.length F1) (matF_len _ _)]
  simp only [Option.bind_some, matF_len, Nat.le_refl, if_true]
  generalize closeF T.length F1 = F
  rw [l50_loop T (by omega)]
  simp only [Option.bind_some]
  have hany : ((List.range T.length).any fun i => decide (F i i = 2)) = !((List.range T.length).all fun i => decide (F i i ≠ 2)) := by
    rw [← any_not]
    simp only [Bool.not_not]
    congr 1
    funext i
    simp
  rw [hany]
  cases hd : (List.range T.length).all fun i => decide (F i i ≠ 2) with
  | false => simp
  | true =>
    obtain ⟨o, ho1, ho2⟩ := l69_loop atoms hl T (by omega) hmem F
    simp only [if_true, ho1, Option.bind_some, Bool.not_true, Bool.false_or]
    cases hc : atoms.any (clash T F) with
    | true =>
      rw [hc] at ho2
      simp only [if_true] at ho2
      obtain ⟨k, rfl⟩ := ho2
      simp [matF_len]
    | false =>
      rw [hc] at ho2
      simp only [Bool.false_eq_true, if_false] at ho2
      subst ho2
      simp [matF_len]
end Go.Proofs.YtlaodgbkpmdhoaaGreatDoor
/- Denial: the examples of the chapter. -/
set_option linter.unusedVariables false
set_option linter.unusedSimpArgs false
namespace Go.Proofs.YtlaodgbkpmdhoaaGreatDoor
open Go Go.Ab

def exT18 : Table := ⟨[114], [[97], [98]], [⟨1, [⟨1, 2, []⟩, ⟨1, 1, []⟩]⟩, ⟨2, [⟨1, 2, []⟩, ⟨1, 2, []⟩]⟩, ⟨3, [⟨1, 7, []⟩, ⟨1, 2, []⟩]⟩]⟩
theorem ofV18_1 : ofV 1 = ⟨1, 1, []⟩ := by simp [ofV, drossref01_Of]
theorem ofV18_2 : ofV 2 = ⟨1, 2, []⟩ := by simp [ofV, drossref01_Of]
theorem ofV18_11 : ofV 11 = ⟨1, 7, []⟩ := by simp [ofV, drossref01_Of]
theorem Wide18 : drossref03_Wide (Drossref03_Recipe.mk 0 0 [[2, 1], [2, 2], [11, 2]]) 2 = some exT18 := by
  have h := Wide_eq (Drossref03_Recipe.mk 0 0 [[2, 1], [2, 2], [11, 2]]) 2 (by omega) (by simp) (by simp) (by simp)
  have h' : drossref03_Wide (Drossref03_Recipe.mk 0 0 [[2, 1], [2, 2], [11, 2]]) 2 = some (wide (Drossref03_Recipe.mk 0 0 [[2, 1], [2, 2], [11, 2]]) 2) := h
  rw [h']
  have e : wide (Drossref03_Recipe.mk 0 0 [[2, 1], [2, 2], [11, 2]]) 2 = exT18 := by
    simp [wide, wrow, wval, wstep, exT18, wnames, List.range, List.range.loop, ofV18_1, ofV18_2, ofV18_11]
  rw [e]
def no18 : List Atom := [⟨atT 1 0, 3, atT 1 1⟩, ⟨atT 1 1, 4, ⟨0, 0, ⟨1, 5, []⟩⟩⟩, ⟨⟨0, 0, ⟨1, 6, []⟩⟩, 3, atT 1 0⟩]
def yes18 : List Atom := [⟨atT 1 0, 3, ⟨0, 0, ⟨1, 2, []⟩⟩⟩, ⟨⟨0, 0, ⟨1, 1, []⟩⟩, 3, atT 1 0⟩]
theorem no_contra : contraB no18 = true := by decide +kernel
theorem yes_contra : contraB yes18 = false := by decide +kernel
theorem ex_dt : DT exT18 := by
  have hv : ∀ r ∈ exT18.Rows, ∀ v ∈ r.Values, v.Str = [] := by decide
  refine ⟨⟨by decide, by decide, by decide, fun r hr v hvm => by rw [hv r hr v hvm]; simp⟩, by decide +kernel, by decide, fun r hr v hvm => by rw [hv r hr v hvm]; simp⟩
def want18 : Denial := ⟨2, [bothA 1 0, bothA 2 1]⟩
def less18 : Denial := ⟨1, [⟨atT 1 0, 3, ⟨0, 0, ⟨1, 6, []⟩⟩⟩]⟩
theorem idsA_of {rows : List Row} {l : List Int} (hp : (rows.map Row.ID).Perm l) (hs : l.Pairwise fun a b => a ≤ b) : idsA rows = l :=
  int_asc_unique ((srtI_perm _).trans hp) (srtI_sorted _) hs
def r18a : Row := ⟨1, [⟨1, 2, []⟩, ⟨1, 1, []⟩]⟩
def r18b : Row := ⟨2, [⟨1, 2, []⟩, ⟨1, 2, []⟩]⟩
theorem viol_want : setO (violL exT18 want18) = [[1, 2]] := by
  have h : (asgN exT18 want18.Vars.toNat).filter (fun a => want18.Atoms.all (satA a)) = [[r18a, r18b], [r18b, r18a]] := by decide +kernel
  have e1 : idsA [r18a, r18b] = [1, 2] := idsA_of (by decide) (by decide)
  have e2 : idsA [r18b, r18a] = [1, 2] := idsA_of (List.Perm.swap _ _ _) (by decide)
  unfold violL
  rw [h, List.map_cons, List.map_cons, e1, e2]
  decide
theorem viol_less : setO (violL exT18 less18) = [[1], [2]] := by
  have h : (asgN exT18 less18.Vars.toNat).filter (fun a => less18.Atoms.all (satA a)) = [[r18a], [r18b]] := by decide +kernel
  have e1 : idsA [r18a] = [1] := idsA_of (by decide) (by decide)
  have e2 : idsA [r18b] = [2] := idsA_of (by decide) (by decide)
  unfold violL
  rw [h, List.map_cons, List.map_cons, e1, e2]
  decide
theorem Same_self18 (l : List Denial) (hl : l.length ≤ 1000000) (ha : ∀ d ∈ l, d.Atoms.length ≤ 1000000) : drossref18_Same l l = some true := by
  have inner : ∀ (k : Nat) (d : Denial), l[k]? = some d → LoopF (drossref18_Same_l3 l l (k : Int)) 0 = some (.inl ()) := by
    intro k d hd
    have h := LoopF_all d.Atoms (drossref18_Same_l3 l l (k : Int)) (fun _ => true) false
      (fun j a hx hk hp => by
        have e : ((((a.Left.Var == a.Left.Var) && ((a.Left.Attr == a.Left.Attr) && ((a.Left.Value.Kind == a.Left.Value.Kind) && ((a.Left.Value.Num == a.Left.Value.Num) && (a.Left.Value.Str == a.Left.Value.Str))))) && ((a.Op == a.Op) && ((a.Right.Var == a.Right.Var) && ((a.Right.Attr == a.Right.Attr) && ((a.Right.Value.Kind == a.Right.Value.Kind) && ((a.Right.Value.Num == a.Right.Value.Num) && (a.Right.Value.Str == a.Right.Value.Str)))))))) = true := by simp
        simp only [drossref18_Same_l3, idx_get hd, Option.bind_some, if_pos (lt_true hx), idx_get hx, if_pos e, wrap_succ hk (show d.Atoms.length ≤ 4611686018427387904 by have := ha d (List.mem_of_getElem? hd); omega)])
      (fun j a hx hp => by cases hp)
      (by simp [drossref18_Same_l3, idx_get hd])
    rw [h]; simp
  have h := LoopF_all l (drossref18_Same_l4 l l) (fun _ => true) false
    (fun k d hd hk hp => by
      simp only [drossref18_Same_l4, if_pos (lt_true hd), idx_get hd, Option.bind_some, bne_self_eq_false, Bool.false_eq_true, if_false, inner k d hd, wrap_succ hk (show l.length ≤ 4611686018427387904 by omega)])
    (fun k d hd hp => by cases hp)
    (by simp [drossref18_Same_l4])
  unfold drossref18_Same
  rw [if_neg (by simp), h, Option.bind_some]
  have : (l.all fun _ => true) = true := by simp
  rw [this]; rfl
theorem viol_at {t : Table} (H : DT t) {d : Denial} (he : denErr t d = 0) (hl : d.Atoms.length ≤ 1048576) : denial_Violations t d = some (setO (violL t d), 0) := by
  rw [DViolations_eq t d H.ok H.str H.few hl]
  unfold violR
  rw [if_pos he]
theorem awake18 : drosslaw18_awake = some true := by
  have h1 : denial_FromFD 2 (FD.mk 1 2) = some ([want18], 0) := by
    have h := FromFD_eq (n := 2) (s := 1) (r := 2) (by omega) (by omega) (by omega)
    have e : (if fdB 2 1 2 = true then (fdL 1 2, (0 : Int)) else ([], 1)) = ([want18], 0) := by decide +kernel
    rw [e] at h
    exact h
  have h2 : denial_Violations exT18 want18 = some ([[1, 2]], 0) := by
    rw [viol_at ex_dt (by decide +kernel) (by decide), viol_want]
  have h3 : denial_Violations exT18 less18 = some ([[1], [2]], 0) := by
    rw [viol_at ex_dt (by decide +kernel) (by decide), viol_less]
  have h4 : denial_FromOD 2 (OD.mk [0] [1]) = some (odL [0] [1], 0) := by
    have h := FromOD_eq 2 (OD.mk [0] [1]) (by simp) (by simp)
    have e : odR 2 (OD.mk [0] [1]) = (odL [0] [1], 0) := by decide +kernel
    rw [e] at h
    exact h
  have h5 : ((odL [0] [1]).length : Int) = 2 := by decide +kernel
  have h6 := Same_self18 [want18] (by simp) (by simp [want18])
  have h7 := Lists_self [[1, 2]] (by simp) (by simp)
  have h8 := Lists_self [[1], [2]] (by simp) (by simp)
  have h9 := Contradictory_eq no18 (by decide)
  have h10 := Contradictory_eq yes18 (by decide)
  rw [no_contra] at h9
  rw [yes_contra] at h10
  have h2' : denial_Violations exT18 (Denial.mk 2 [(Atom.mk (Term.mk 1 0 (Value.mk 0 0 [])) 1 (Term.mk 2 0 (Value.mk 0 0 []))), (Atom.mk (Term.mk 1 1 (Value.mk 0 0 [])) 2 (Term.mk 2 1 (Value.mk 0 0 [])))]) = _ := h2
  have h3' : denial_Violations exT18 (Denial.mk 1 [(Atom.mk (Term.mk 1 0 (Value.mk 0 0 [])) 3 (Term.mk 0 0 (Value.mk 1 6 [])))]) = _ := h3
  have h6' : drossref18_Same [want18] [(Denial.mk 2 [(Atom.mk (Term.mk 1 0 (Value.mk 0 0 [])) 1 (Term.mk 2 0 (Value.mk 0 0 []))), (Atom.mk (Term.mk 1 1 (Value.mk 0 0 [])) 2 (Term.mk 2 1 (Value.mk 0 0 [])))])] = _ := h6
  have h9' : denial_Contradictory [(Atom.mk (Term.mk 1 0 (Value.mk 0 0 [])) 3 (Term.mk 1 1 (Value.mk 0 0 []))), (Atom.mk (Term.mk 1 1 (Value.mk 0 0 [])) 4 (Term.mk 0 0 (Value.mk 1 5 []))), (Atom.mk (Term.mk 0 0 (Value.mk 1 6 [])) 3 (Term.mk 1 0 (Value.mk 0 0 [])))] = _ := h9
  have h10' : denial_Contradictory [(Atom.mk (Term.mk 1 0 (Value.mk 0 0 [])) 3 (Term.mk 0 0 (Value.mk 1 2 []))), (Atom.mk (Term.mk 0 0 (Value.mk 1 1 [])) 3 (Term.mk 1 0 (Value.mk 0 0 [])))] = _ := h10
  simp only [drosslaw18_awake, Wide18, h1, drosslaw18_at, drosslaw18_num, Option.bind_some, h2', h3', h4, bne_self_eq_false, Bool.false_eq_true, if_false, h6', if_true, h7, h8, h5, h9', h10', Bool.not_false]
end Go.Proofs.YtlaodgbkpmdhoaaGreatDoor
/- Denial: violations of several constraints; pairs of rows. -/
set_option linter.unusedVariables false
set_option linter.unusedSimpArgs false
namespace Go.Proofs.YtlaodgbkpmdhoaaGreatDoor
open Go Go.Ab

end Go.Proofs.YtlaodgbkpmdhoaaGreatDoor
/- The law DenialNegate. -/
set_option linter.unusedVariables false
set_option linter.unusedSimpArgs false
namespace Go.Proofs.YtlaodgbkpmdhoaaGreatDoor
open Go Go.Ab
def negA (a : Atom) : Atom := if a.Op = 1 then ⟨a.Left, 2, a.Right⟩ else if a.Op = 2 then ⟨a.Left, 1, a.Right⟩ else if a.Op = 3 then ⟨a.Right, 4, a.Left⟩ else if a.Op = 4 then ⟨a.Right, 3, a.Left⟩ else a
theorem neg_eq (a : Atom) : denial_Negate a = some (negA a) := by
  unfold denial_Negate negA
  by_cases h1 : a.Op = 1
  · rw [if_pos (by simpa using h1), if_pos h1]
  · rw [if_neg (by simpa using h1), if_neg h1]
    by_cases h2 : a.Op = 2
    · rw [if_pos (by simpa using h2), if_pos h2]
    · rw [if_neg (by simpa using h2), if_neg h2]
      by_cases h3 : a.Op = 3
      · rw [if_pos (by simpa using h3), if_pos h3]
      · rw [if_neg (by simpa using h3), if_neg h3]
        by_cases h4 : a.Op = 4
        · rw [if_pos (by simpa using h4), if_pos h4]
        · rw [if_neg (by simpa using h4), if_neg h4]
theorem ref_neg_eq (a : Atom) : drossref18_Negate a = some (negA a) := neg_eq a
theorem neg_valid {n vars : Int} {a : Atom} (h : atomB n vars a = true) : atomB n vars (negA a) = true := by
  unfold atomB at h ⊢
  simp only [Bool.and_eq_true, decide_eq_true_eq] at h ⊢
  obtain ⟨h1, h2, h3⟩ := h
  have : a.Op = 1 ∨ a.Op = 2 ∨ a.Op = 3 ∨ a.Op = 4 := by omega
  unfold negA
  rcases this with e | e | e | e <;> simp [e, h2, h3]
theorem neg_sat {n vars : Int} {a : Atom} (h : atomB n vars a = true) (rows : List Row) : satA rows (negA a) = !satA rows a := by
  unfold atomB at h
  simp only [Bool.and_eq_true, decide_eq_true_eq] at h
  have : a.Op = 1 ∨ a.Op = 2 ∨ a.Op = 3 ∨ a.Op = 4 := by omega
  have hn := vcmp_neg (valN rows a.Left) (valN rows a.Right)
  unfold negA satA opB
  rcases this with e | e | e | e
  · simp [e]
  · simp [e]
  · simp only [e, show ¬ (3 : Int) = 1 by decide, show ¬ (3 : Int) = 2 by decide, show ¬ (4 : Int) = 1 by decide, show ¬ (4 : Int) = 2 by decide, show ¬ (4 : Int) = 3 by decide, if_true, if_false]
    rw [hn, Bool.eq_iff_iff]; simp
  · simp only [e, show ¬ (3 : Int) = 1 by decide, show ¬ (3 : Int) = 2 by decide, show ¬ (4 : Int) = 1 by decide, show ¬ (4 : Int) = 2 by decide, show ¬ (4 : Int) = 3 by decide, if_true, if_false]
    rw [hn, Bool.eq_iff_iff]; simp
def oneL (p : Row → Bool) (rows : List Row) : List (List Int) := (rows.filter p).map fun r => [r.ID]
theorem viol_one {t : Table} {d : Denial} (hv : d.Vars = 1) (z : List Int) : z ∈ violL t d ↔ ∃ a ∈ t.Rows, d.Atoms.all (satA [a]) = true ∧ z = [a.ID] := by
  have hone : ∀ a : Row, idsA [a] = [a.ID] := fun a => idsA_of (List.Perm.refl _) (by simp)
  unfold violL
  rw [hv]
  constructor
  · intro hz
    obtain ⟨c, hc, rfl⟩ := List.mem_map.1 hz
    obtain ⟨hc1, hc2⟩ := List.mem_filter.1 hc
    obtain ⟨g1, g2, g3⟩ := asgN_mem hc1
    match c, g1, g2, hc2 with
    | [x], _, g2, hc2 => exact ⟨x, g2 x (by simp), hc2, hone x⟩
  · rintro ⟨a, ha, hs, rfl⟩
    exact List.mem_map.2 ⟨[a], List.mem_filter.2 ⟨asgN_of rfl (by simp [ha]) (by simp), hs⟩, hone a⟩
theorem oneL_asc (p : Row → Bool) {rows : List Row} (h : rows.Pairwise fun a b => a.ID < b.ID) : AscL (oneL p rows) := by
  unfold oneL AscL
  rw [List.pairwise_map]
  refine List.Pairwise.imp ?_ (h.filter p)
  intro a b hab
  simp [ltL, hab]
  omega
theorem viol_oneL {t : Table} (H : DT t) {d : Denial} (hv : d.Vars = 1) : setO (violL t d) = oneL (fun a => d.Atoms.all (satA [a])) t.Rows := by
  refine setO_eq (oneL_asc _ (H.code).2) fun z => ?_
  rw [viol_one hv]
  unfold oneL
  rw [List.mem_map]
  constructor
  · rintro ⟨a, ha, hs, rfl⟩
    exact ⟨a, List.mem_filter.2 ⟨ha, hs⟩, rfl⟩
  · rintro ⟨a, ha, rfl⟩
    obtain ⟨h1, h2⟩ := List.mem_filter.1 ha
    exact ⟨a, h1, h2, rfl⟩
theorem filter_both {α : Type} (p : α → Bool) : ∀ l : List α, (l.filter p).length + (l.filter fun x => !p x).length = l.length
  | [] => rfl
  | x :: l => by
    have ih := filter_both p l
    rw [List.filter_cons, List.filter_cons]
    cases hp : p x <;> simp <;> omega
theorem ContainsFunc_L18 (l : List (List Int)) (f : List Int → Option Bool) (p : List Int → Bool) (hf : ∀ x ∈ l, f x = some (p x)) (hl : l.length ≤ 1000000) : slices_ContainsFunc_Lint64 l f = some (l.any p) := by
  have h := LoopF_find l (slices_IndexFunc_Lint64_l1 l f) p
    (fun k x hx hk hp => by simp [slices_IndexFunc_Lint64_l1, lt_true hx, idx_get hx, hf x (List.mem_of_getElem? hx), hp, wrap_succ hk (by omega)])
    (fun k x hx hp => by simp [slices_IndexFunc_Lint64_l1, lt_true hx, idx_get hx, hf x (List.mem_of_getElem? hx), hp])
    (by simp [slices_IndexFunc_Lint64_l1])
  have hI : slices_IndexFunc_Lint64 l f = some (match l.findIdx? p with | some i => (i : Int) | none => -1) := by
    simp only [slices_IndexFunc_Lint64, h, Option.bind_some]
    cases l.findIdx? p <;> rfl
  simp only [slices_ContainsFunc_Lint64, hI, Option.bind_some]
  exact congrArg some (findIdx_any p l)
def hd18 (l : List Int) : Int := l.headD 0
theorem one_shape {p : Row → Bool} {rows : List Row} {z : List Int} (h : z ∈ oneL p rows) : ∃ a ∈ rows, p a = true ∧ z = [a.ID] := by
  unfold oneL at h
  obtain ⟨a, ha, rfl⟩ := List.mem_map.1 h
  obtain ⟨h1, h2⟩ := List.mem_filter.1 ha
  exact ⟨a, h1, h2, rfl⟩
theorem id_inj {rows : List Row} (h : rows.Pairwise fun a b => a.ID < b.ID) : ∀ a ∈ rows, ∀ b ∈ rows, a.ID = b.ID → a = b := by
  induction rows with
  | nil => intro a ha; cases ha
  | cons x l ih =>
    rw [List.pairwise_cons] at h
    intro a ha b hb e
    rcases List.mem_cons.1 ha with e1 | ha
    · rcases List.mem_cons.1 hb with e2 | hb
      · rw [e1, e2]
      · have := h.1 b hb; rw [e1] at e; omega
    · rcases List.mem_cons.1 hb with e2 | hb
      · have := h.1 a ha; rw [e2] at e; omega
      · exact ih h.2 a ha b hb e
theorem no_common {t : Table} (H : DT t) (p q : Row → Bool) (hpq : ∀ a, p a = true → q a = false) (hl : t.Rows.length ≤ 7) :
    slices_ContainsFunc_Lint64 (oneL q t.Rows) (fun y => drosslaw18_DenialNegate_1 y (oneL p t.Rows)) = some false := by
  have hlen : ∀ p : Row → Bool, (oneL p t.Rows).length ≤ 1000000 := fun p => by
    unfold oneL
    rw [List.length_map]
    have := List.length_filter_le p t.Rows
    omega
  have hin : ∀ y ∈ oneL q t.Rows, drosslaw18_DenialNegate_1 y (oneL p t.Rows) = some false := by
    intro y hy
    obtain ⟨b, hb, hqb, rfl⟩ := one_shape hy
    unfold drosslaw18_DenialNegate_1
    rw [ContainsFunc_L18 _ _ (fun m => decide (b.ID = hd18 m)) (fun m hm => by
      obtain ⟨a, _, _, rfl⟩ := one_shape hm
      simp only [drosslaw18_DenialNegate_1_1, List.getElem?_cons_zero, Option.bind_some, hd18, List.headD_cons]
      congr 1) (hlen p), Option.bind_some]
    congr 1
    rw [List.any_eq_false]
    intro m hm
    obtain ⟨a, ha, hpa, rfl⟩ := one_shape hm
    intro e
    replace e : decide (b.ID = a.ID) = true := e
    rw [decide_eq_true_eq] at e
    have := id_inj (H.code).2 b hb a ha e
    rw [this, hpq a hpa] at hqb
    cases hqb
  rw [ContainsFunc_L18 _ _ (fun _ => false) hin (hlen q)]
  simp
theorem DenialNegate_holds (x : Drossref03_Recipe) (r : Drossref18_Recipe) (h0 : okDrossref03_Recipe x) (h1 : okDrossref18_Recipe r) : drosslaw18_DenialNegate x r = some true := by
  have hr0 : okDrossref18_Recipe ⟨0, r.Atoms⟩ := ⟨(by decide : (Lit.int .u8 0).wf = true), h1.2⟩
  rcases recipe7 x h0 with ⟨t, ht, ha⟩ | ⟨t, ht, hok, G, hn, hat⟩
  · have hof := Of_eq18 (n := t.Attrs.length) (by rw [ha]; simp) hr0
    simp only [drosslaw18_DenialNegate, ht, hof, awake18, Option.bind_some, if_true, Bool.false_eq_true, if_false]
  · have H := dt_of hok G hn
    have hof := Of_eq18 (n := t.Attrs.length) (by omega) hr0
    by_cases h5 : (r.Atoms.length : Int) ≤ 5
    · have hval := consN_valid (n := t.Attrs.length) (r := ⟨0, r.Atoms⟩) (by simp only; omega)
      obtain ⟨⟨hv1, hv2, hv3⟩, hatm⟩ := denB_parts hval
      have hvars : (consN t.Attrs.length ⟨0, r.Atoms⟩).Vars = 1 := rfl
      rw [hvars] at hatm
      have hone : ∀ a, atomB (t.Attrs.length : Int) 1 a = true → denErr t ⟨1, [a]⟩ = 0 := by
        intro a ha
        have hb : denB t.Attrs.length ⟨1, [a]⟩ = true := by
          unfold denB
          simp [ha]
        unfold denErr
        rw [if_neg (by simp [H.err]), if_pos hb, if_neg (by rintro ⟨h, _⟩; cases h)]
      have hL : LoopF (drosslaw18_DenialNegate_l1 (t, true) (consN t.Attrs.length ⟨0, r.Atoms⟩, true)) 0 = some (if (consN t.Attrs.length ⟨0, r.Atoms⟩).Atoms.all (fun _ => true) then .inl () else .inr false) := by
        refine LoopF_all _ _ (fun _ => true) false (fun k a hx hk _ => ?_) (fun k a hx hp => by cases hp) (by simp [drosslaw18_DenialNegate_l1])
        have ham := hatm a (List.mem_of_getElem? hx)
        have e : ∀ b : Atom, (((b.Left.Var == b.Left.Var) && ((b.Left.Attr == b.Left.Attr) && ((b.Left.Value.Kind == b.Left.Value.Kind) && ((b.Left.Value.Num == b.Left.Value.Num) && (b.Left.Value.Str == b.Left.Value.Str))))) && ((b.Op == b.Op) && ((b.Right.Var == b.Right.Var) && ((b.Right.Attr == b.Right.Attr) && ((b.Right.Value.Kind == b.Right.Value.Kind) && ((b.Right.Value.Num == b.Right.Value.Num) && (b.Right.Value.Str == b.Right.Value.Str))))))) = true := fun b => by simp
        have hy := viol_at H (hone a ham) (by simp)
        have hno := viol_at H (hone _ (neg_valid ham)) (by simp)
        rw [viol_oneL H rfl] at hy hno
        have hsum : (oneL (fun b => [a].all (satA [b])) t.Rows).length + (oneL (fun b => [negA a].all (satA [b])) t.Rows).length = t.Rows.length := by
          unfold oneL
          rw [List.length_map, List.length_map]
          have := filter_both (fun b => [a].all (satA [b])) t.Rows
          simp only [List.all_cons, List.all_nil, Bool.and_true, neg_sat ham] at this ⊢
          exact this
        have hw : IntKind.i64.wrap (((oneL (fun b => [a].all (satA [b])) t.Rows).length : Int) + ((oneL (fun b => [negA a].all (satA [b])) t.Rows).length : Int)) = (t.Rows.length : Int) := by
          rw [wrap_i64 (by omega) (by omega)]; omega
        have hnc := no_common H (fun b => [a].all (satA [b])) (fun b => [negA a].all (satA [b])) (fun b hb => by
          simp only [List.all_cons, List.all_nil, Bool.and_true, neg_sat ham] at hb ⊢
          rw [hb]; rfl) hn
        have hcl : (consN t.Attrs.length ⟨0, r.Atoms⟩).Atoms.length ≤ 4611686018427387904 := by omega
        simp only [drosslaw18_DenialNegate_l1, if_pos (lt_true hx), idx_get hx, Option.bind_some, neg_eq, ref_neg_eq, if_pos (e (negA a)), hy, hno, bne_self_eq_false, Bool.false_eq_true, if_false, hw, hnc, wrap_succ hk hcl]
        split <;> rfl
      have hall : ((consN t.Attrs.length ⟨0, r.Atoms⟩).Atoms.all fun _ => true) = true := by simp
      rw [hall] at hL
      simp only [drosslaw18_DenialNegate, ht, hof, awake18, Option.bind_some, if_true, h5, decide_true, Bool.not_true, Bool.false_eq_true, if_false, hL]
    · simp only [drosslaw18_DenialNegate, ht, hof, awake18, Option.bind_some, if_true, h5, decide_false, Bool.not_false]
end Go.Proofs.YtlaodgbkpmdhoaaGreatDoor
