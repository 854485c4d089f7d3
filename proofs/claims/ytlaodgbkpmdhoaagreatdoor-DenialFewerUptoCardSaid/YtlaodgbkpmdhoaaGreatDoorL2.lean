/- The Lean functions that the program's functions are lifted to, and the plain laws about them. -/
import Derived.Test.YtlaodgbkpmdhoaaGreatDoorL1
set_option linter.unusedVariables false
set_option linter.unusedSimpArgs false
namespace Go.Ab
open Go
abbrev FnM := Nat → Nat → Int
def rowF (n : Nat) (F : FnM) (i : Nat) : List Int := (List.range n).map (F i)
def matF (n : Nat) (F : FnM) : List (List Int) := (List.range n).map (rowF n F)
def updM (F : FnM) (i j : Nat) (v : Int) : FnM := fun a b => if a = i ∧ b = j then v else F a b
def supM (n : Nat) (F : FnM) : Prop := ∀ i j, n ≤ i ∨ n ≤ j → F i j = 0
def zeroF : FnM := fun _ _ => 0
theorem matF_len (n : Nat) (F : FnM) : (matF n F).length = n := by simp [matF]
theorem rowF_len (n : Nat) (F : FnM) (i : Nat) : (rowF n F i).length = n := by simp [rowF]
theorem matF_get {n : Nat} {F : FnM} {i : Nat} (h : i < n) : (matF n F)[i]? = some (rowF n F i) := by
 unfold matF; rw [List.getElem?_map, List.getElem?_range h]; rfl
theorem rowF_get {n : Nat} {F : FnM} {i j : Nat} (h : j < n) : (rowF n F i)[j]? = some (F i j) := by
 unfold rowF; rw [List.getElem?_map, List.getElem?_range h]; rfl
theorem matF_set {n : Nat} {F : FnM} {i j : Nat} {v : Int} (hi : i < n) (hj : j < n) : (matF n F).set i ((rowF n F i).set j v) = matF n (updM F i j v) := by
 apply List.ext_getElem?
 intro a
 by_cases ha : a < n
 ·rw [matF_get ha]
  by_cases hai : a = i
  ·subst hai
   rw [List.getElem?_set_self (by rw [matF_len]; exact ha)]
   congr 1
   apply List.ext_getElem?
   intro b
   by_cases hb : b < n
   ·rw [rowF_get hb]
    by_cases hbj : b = j
    ·subst hbj
     rw [List.getElem?_set_self (by rw [rowF_len]; exact hb)]
     simp [updM]
    ·rw [List.getElem?_set_ne (fun e => hbj e.symm), rowF_get hb]
     simp [updM, hbj]
   ·rw [List.getElem?_eq_none (by rw [List.length_set, rowF_len]; omega), List.getElem?_eq_none (by rw [rowF_len]; omega)]
  ·rw [List.getElem?_set_ne (fun e => hai e.symm), matF_get ha]
   congr 1
   unfold rowF
   apply List.map_congr_left
   intro b _
   simp [updM, hai]
 ·rw [List.getElem?_eq_none (by rw [List.length_set, matF_len]; omega), List.getElem?_eq_none (by rw [matF_len]; omega)]
theorem matF_grow {n : Nat} {F : FnM} (h : supM n F) : (matF n F).map (fun x => x ++ [0]) ++ [List.replicate (n + 1) 0] = matF (n + 1) F := by
 have hrow : ∀ i, rowF (n + 1) F i = rowF n F i ++ [F i n] := fun i => by unfold rowF; rw [List.range_succ, List.map_append]; rfl
 unfold matF
 rw [List.range_succ, List.map_append, List.map_map]
 congr 1
 ·apply List.map_congr_left
  intro i _
  show rowF n F i ++ [0] = rowF (n + 1) F i
  rw [hrow, h i n (.inr (Nat.le_refl _))]
 ·rw [List.map_singleton]
  congr 1
  apply List.ext_getElem?
  intro j
  by_cases hj : j < n + 1
  ·rw [rowF_get hj, h n j (.inl (Nat.le_refl _))]
   simp [hj]
  ·rw [List.getElem?_eq_none (by simp; omega), List.getElem?_eq_none (by rw [rowF_len]; omega)]
theorem supM_upd {n : Nat} {F : FnM} {i j : Nat} {v : Int} (h : supM n F) (hi : i < n) (hj : j < n) : supM n (updM F i j v) := by
 intro a b hab
 unfold updM
 rw [if_neg (by omega)]
 exact h a b hab
theorem supM_le {n m : Nat} {F : FnM} (h : supM n F) (hm : n ≤ m) : supM m F := fun i j hij => h i j (by omega)
theorem grow_loop18 (M : List (List Int)) (n : Nat) (hn : M.length = n) (hle : n ≤ 1000) (hr : ∀ x ∈ M, x.length ≤ 1000) (B : List (List Int) × Int → Option (LS (List (List Int) × Int) (List (List Int))))
  (hB : ∀ (o : List (List Int)) (k : Int), B (o, k) = if n ≤ o.length then (if k < (n : Int) then (idx o k).bind fun x => if roomB (x.length + 1) 8 = true then some (.next ((o.set k.toNat (x ++ [0])), (IntKind.i64.wrap (k + 1)))) else none else some (.done o)) else none) :
  LoopF B (M, 0) = some (M.map fun x => x ++ [0]) := by
 have h := LoopF_foldl M (fun (_ : Unit) (i : Int) => ((M.take i.toNat).map (fun x => x ++ [0]) ++ M.drop i.toNat, i)) B (fun b _ => b) (fun _ => M.map fun x => x ++ [0]) (fun _ _ => True) (b0 := ()) (s0 := (M, 0)) (by simp) trivial
  (fun k b x hx hk _ => by
   refine ⟨?_, trivial⟩
   simp only [Int.toNat_natCast]
   have hlen : ((M.take k).map (fun x => x ++ [0]) ++ M.drop k).length = M.length := by simp; omega
   have hd : M.drop k = x :: M.drop (k + 1) := by
    have := List.drop_eq_getElem_cons hk
    rw [this]; congr 1
    rw [List.getElem?_eq_getElem hk] at hx
    exact Option.some.inj hx
   have hg : ((M.take k).map (fun x => x ++ [0]) ++ M.drop k)[k]? = some x := by
    rw [List.getElem?_append_right (by simp; omega), List.length_map, List.length_take, Nat.min_eq_left (by omega), Nat.sub_self, hd]; rfl
   have hxl := hr x (List.mem_of_getElem? hx)
   rw [hB, if_pos (by omega), if_pos (by omega), idx_get hg, Option.bind_some, if_pos (room8 (by omega)), Int.toNat_natCast, wrap_succ hk (by omega)]
   congr 3
   rw [List.set_append_right _ _ (by simp; omega), List.length_map, List.length_take, Nat.min_eq_left (by omega), Nat.sub_self, hd, List.set_cons_zero, List.take_add_one, hx, List.map_append]
   simp)
  (fun b _ => by
   rw [hB, if_pos (by simp; omega), if_neg (by omega)]
   simp)
 exact h
def mx3 (a b c : Int) : Int := max a (max b c)
def stepC18 (k i : Nat) (F : FnM) (j : Nat) : FnM := if 0 < F i k ∧ 0 < F k j then updM F i j (mx3 (F i j) (F i k) (F k j)) else F
def rowC18 (n k : Nat) (F : FnM) (i : Nat) : FnM := (List.range n).foldl (stepC18 k i) F
def layC18 (n : Nat) (F : FnM) (k : Nat) : FnM := (List.range n).foldl (rowC18 n k) F
def closeF (n : Nat) (F : FnM) : FnM := (List.range n).foldl (layC18 n) F
theorem mat_loop (n : Nat) (hn : n ≤ 1000) (B : List (List Int) × Int → Option (LS (List (List Int) × Int) (List (List Int)))) (g : FnM → Nat → FnM)
  (hB : ∀ (F : FnM) (k : Nat), k < n → B (matF n F, (k : Int)) = some (.next (matF n (g F k), IntKind.i64.wrap ((k : Int) + 1)))) (hE : ∀ F, B (matF n F, (n : Int)) = some (.done (matF n F))) (F : FnM) :
  LoopF B (matF n F, 0) = some (matF n ((List.range n).foldl g F)) := by
 have h := LoopF_foldl (List.range n) (fun (F : FnM) (i : Int) => (matF n F, i)) B g (fun F => matF n F) (fun _ _ => True) (b0 := F) (s0 := (matF n F, 0)) rfl trivial
  (fun k F x hx hk _ => by
   rw [List.length_range] at hk
   obtain ⟨rfl, _⟩ := Go.Proofs.YtlaodgbkpmdhoaaGreatDoor.range_at hx
   exact ⟨by rw [hB F x hk, wrap_succ hk (by omega)], trivial⟩)
  (fun F _ => by rw [List.length_range]; exact hE F)
 exact h
theorem ite_max (a b : Int) : (if b > a then b else a) = max a b := by
 by_cases h : b > a
 ·rw [if_pos h, Int.max_eq_right (by omega)]
 ·rw [if_neg h, Int.max_eq_left (by omega)]
end Go.Ab
namespace Go.Proofs.YtlaodgbkpmdhoaaGreatDoor
open Go Go.Ab
theorem clo_47 (T : List Term) {n : Nat} (hT : T.length = n) (hn : n ≤ 1000) (M : List (List Int)) (hM : M.length = n) {k i : Nat} (hk : k < n) (hi : i < n) (F : FnM) :
  LoopF (denial_Contradictory_l47 T M (k : Int) (i : Int)) (matF n F, 0) = some (matF n (rowC18 n k F i)) := by
 refine mat_loop n hn _ (stepC18 k i) (fun F j hj => ?_) (fun F => ?_) F
 ·have e1 := matF_get (F := F) hi
  have e2 := matF_get (F := F) hk
  have e3 := rowF_get (F := F) (i := i) hk
  have e4 := rowF_get (F := F) (i := k) hj
  have e5 := rowF_get (F := F) (i := i) hj
  simp only [denial_Contradictory_l47, matF_len, hM, Nat.le_refl, if_true, hT, if_pos (show (j : Int) < (n : Int) by omega), idx_get e1, idx_get e2, idx_get e3, idx_get e4, idx_get e5, Option.bind_some]
  unfold stepC18
  by_cases h1 : 0 < F i k
  ·simp only [if_pos (show F i k > 0 from h1), Option.bind_some]
   by_cases h2 : 0 < F k j
   ·simp only [if_pos (show 0 < F i k ∧ 0 < F k j from ⟨h1, h2⟩), show decide (F k j > 0) = true by simpa using h2, if_true, Int.toNat_natCast, matF_set hi hj, ite_max]
    rfl
   ·simp only [if_neg (show ¬ (0 < F i k ∧ 0 < F k j) from fun h => h2 h.2), show decide (F k j > 0) = false by simpa using h2, Bool.false_eq_true, if_false]
  ·simp only [if_neg (show ¬ (F i k > 0) from h1), Option.bind_some, if_neg (show ¬ (0 < F i k ∧ 0 < F k j) from fun h => h1 h.1), Bool.false_eq_true, if_false]
 ·simp [denial_Contradictory_l47, matF_len, hM, hT]
theorem clo_48 (T : List Term) {n : Nat} (hT : T.length = n) (hn : n ≤ 1000) (M : List (List Int)) (hM : M.length = n) {k : Nat} (hk : k < n) (F : FnM) :
  LoopF (denial_Contradictory_l48 T M (k : Int)) (matF n F, 0) = some (matF n (layC18 n F k)) := by
 refine mat_loop n hn _ (rowC18 n k) (fun F i hi => ?_) (fun F => ?_) F
 ·simp only [denial_Contradictory_l48, matF_len, hM, Nat.le_refl, if_true, hT, if_pos (show (i : Int) < (n : Int) by omega), clo_47 T hT hn M hM hk hi, Option.bind_some]
 ·simp [denial_Contradictory_l48, matF_len, hM, hT]
theorem clo_49 (T : List Term) {n : Nat} (hT : T.length = n) (hn : n ≤ 1000) (M : List (List Int)) (hM : M.length = n) (F : FnM) :
  LoopF (denial_Contradictory_l49 T M) (matF n F, 0) = some (matF n (closeF n F)) := by
 refine mat_loop n hn _ (layC18 n) (fun F i hi => ?_) (fun F => ?_) F
 ·simp only [denial_Contradictory_l49, matF_len, hM, Nat.le_refl, if_true, hT, if_pos (show (i : Int) < (n : Int) by omega), clo_48 T hT hn M hM hi, Option.bind_some]
 ·simp [denial_Contradictory_l49, matF_len, hM, hT]
def cLess (a b : Term) : Bool := decide (a.Var = 0) && (decide (b.Var = 0) && decide (vcmp a.Value b.Value < 0))
def putM (F : FnM) (i j : Nat) (w : Int) : FnM := updM F i j (max (F i j) w)
def termAt (T : List Term) (i : Nat) : Term := T.getD i ⟨0, 0, ⟨0, 0, []⟩⟩
def constRow (T : List Term) (i : Nat) (F : FnM) (j : Nat) : FnM := if cLess (termAt T i) (termAt T j) = true then putM F i j 2 else F
def constM (T : List Term) (F : FnM) : FnM := (List.range T.length).foldl (fun F i => (List.range T.length).foldl (constRow T i) F) F
theorem termAt_get {T : List Term} {i : Nat} (h : i < T.length) : T[i]? = some (termAt T i) := by
 unfold termAt
 rw [List.getD_eq_getElem?_getD, List.getElem?_eq_getElem h]; rfl
theorem const_22 (T : List Term) (hn : T.length ≤ 1000) {i : Nat} (hi : i < T.length) (F : FnM) : LoopF (denial_Contradictory_l22 T (i : Int) (termAt T i)) (matF T.length F, 0) = some (matF T.length ((List.range T.length).foldl (constRow T i) F)) := by
 refine mat_loop T.length hn _ (constRow T i) (fun F j hj => ?_) (fun F => ?_) F
 ·have e1 := matF_get (F := F) hi
  have e2 := rowF_get (F := F) (i := i) hj
  have ht := termAt_get hj
  simp only [denial_Contradictory_l22, if_pos (show (j : Int) < ((T.length : Nat) : Int) by omega), idx_get ht, Option.bind_some]
  unfold constRow cLess
  by_cases h1 : (termAt T i).Var = 0
  ·rw [if_pos (by simpa using h1)]
   by_cases h2 : (termAt T j).Var = 0
   ·rw [if_pos (by simpa using h2)]
    simp only [value_Compare_eq, Option.bind_some, h1, h2, decide_true, Bool.true_and]
    cases decide (vcmp (termAt T i).Value (termAt T j).Value < 0) with
    | true =>
     simp only [if_true, idx_get e1, idx_get e2, Option.bind_some, Int.toNat_natCast, matF_set hi hj, ite_max]
     rfl
    | false => simp only [Bool.false_eq_true, if_false]
   ·rw [if_neg (by simpa using h2)]
    simp [h2]
  ·rw [if_neg (by simpa using h1)]
   simp [h1]
 ·simp [denial_Contradictory_l22]
theorem const_23 (T : List Term) (hn : T.length ≤ 1000) (F : FnM) : LoopF (denial_Contradictory_l23 T) (matF T.length F, 0) = some (matF T.length (constM T F)) := by
 refine mat_loop T.length hn _ (fun F i => (List.range T.length).foldl (constRow T i) F) (fun F i hi => ?_) (fun F => ?_) F
 ·have ht := termAt_get hi
  simp only [denial_Contradictory_l23, if_pos (show (i : Int) < ((T.length : Nat) : Int) by omega), idx_get ht, Option.bind_some, const_22 T hn hi]
 ·simp [denial_Contradictory_l23]
end Go.Proofs.YtlaodgbkpmdhoaaGreatDoor
set_option linter.unusedVariables false
set_option linter.unusedSimpArgs false
namespace Go.Proofs.YtlaodgbkpmdhoaaGreatDoor
open Go Go.Ab
theorem teq_eq (v x : Term) : ((v.Var == x.Var) && ((v.Attr == x.Attr) && ((v.Value.Kind == x.Value.Kind) && ((v.Value.Num == x.Value.Num) && (v.Value.Str == x.Value.Str))))) = decide (x = v) := by
 obtain ⟨a, b, ⟨c, d, e⟩⟩ := v
 obtain ⟨a', b', ⟨c', d', e'⟩⟩ := x
 rw [Bool.eq_iff_iff]
 simp only [Bool.and_eq_true, beq_iff_eq, decide_eq_true_eq, Term.mk.injEq, Value.mk.injEq]
 constructor
 ·rintro ⟨rfl, rfl, rfl, rfl, rfl⟩; exact ⟨rfl, rfl, rfl, rfl, rfl⟩
 ·rintro ⟨rfl, rfl, rfl, rfl, rfl⟩; exact ⟨rfl, rfl, rfl, rfl, rfl⟩
def posT (T : List Term) (t : Term) : Nat := (T.findIdx? fun y => decide (y = t)).getD T.length
theorem posT_mem {T : List Term} {t : Term} (h : t ∈ T) : (T.findIdx? fun y => decide (y = t)) = some (posT T t) ∧ posT T t < T.length := by
 unfold posT
 cases hf : T.findIdx? fun y => decide (y = t) with
 | none =>
  rw [List.findIdx?_eq_none_iff] at hf
  have := hf t h
  simp at this
 | some i =>
  rw [List.findIdx?_eq_some_iff_getElem] at hf
  obtain ⟨hi, _⟩ := hf
  exact ⟨rfl, hi⟩
theorem posT_not {T : List Term} {t : Term} (h : t ∉ T) : (T.findIdx? fun y => decide (y = t)) = none ∧ posT T t = T.length := by
 have hf : (T.findIdx? fun y => decide (y = t)) = none := by
  rw [List.findIdx?_eq_none_iff]
  intro x hx
  simp only [decide_eq_false_iff_not]
  rintro rfl; exact h hx
 exact ⟨hf, by unfold posT; rw [hf]; rfl⟩
theorem Index_Term_eq (T : List Term) (t : Term) (hl : T.length ≤ 1000000) : slices_Index_Term T t = some (if t ∈ T then (posT T t : Int) else -1) := by
 have h := LoopF_find T (slices_Index_Term_l1 T t) (fun y => decide (y = t))
  (fun k x hx hk hp => by simp only [slices_Index_Term_l1, if_pos (lt_true hx), idx_get hx, Option.bind_some, teq_eq, hp, Bool.false_eq_true, if_false, wrap_succ hk (show T.length ≤ 4611686018427387904 by omega)])
  (fun k x hx hp => by simp only [slices_Index_Term_l1, if_pos (lt_true hx), idx_get hx, Option.bind_some, teq_eq, hp, if_true])
  (by simp [slices_Index_Term_l1])
 unfold slices_Index_Term
 rw [h, Option.bind_some]
 by_cases hm : t ∈ T
 ·rw [if_pos hm, (posT_mem hm).1]
 ·rw [if_neg hm, (posT_not hm).1]
def nodeT (T : List Term) (t : Term) : List Term := if t ∈ T then T else T ++ [t]
def nodeF (T : List Term) (F : FnM) (t : Term) : FnM := if t ∈ T then F else updM F T.length T.length 1
def putsA (op : Int) (l r : Nat) (F : FnM) : FnM := if op = 1 then putM (putM F l r 1) r l 1 else if op = 3 then putM F l r 2 else if op = 4 then putM F l r 1 else F
def stepA18 (S : List Term × FnM) (a : Atom) : List Term × FnM :=
 (nodeT (nodeT S.1 a.Left) a.Right, putsA a.Op (posT S.1 a.Left) (posT (nodeT S.1 a.Left) a.Right) (nodeF (nodeT S.1 a.Left) (nodeF S.1 S.2 a.Left) a.Right))
theorem nodeT_len (T : List Term) (t : Term) : T.length ≤ (nodeT T t).length ∧ (nodeT T t).length ≤ T.length + 1 ∧ posT T t < (nodeT T t).length := by
 unfold nodeT
 by_cases h : t ∈ T
 ·rw [if_pos h]; exact ⟨by omega, by omega, (posT_mem h).2⟩
 ·rw [if_neg h, (posT_not h).2]; simp
theorem node_sup {T : List Term} {F : FnM} (t : Term) (h : supM T.length F) : supM (nodeT T t).length (nodeF T F t) := by
 unfold nodeT nodeF
 by_cases hm : t ∈ T
 ·rw [if_pos hm, if_pos hm]; exact h
 ·rw [if_neg hm, if_neg hm]
  rw [show (T ++ [t]).length = T.length + 1 by simp]
  exact supM_upd (supM_le h (by omega)) (by omega) (by omega)
theorem putM_sup {n : Nat} {F : FnM} {i j : Nat} {w : Int} (h : supM n F) (hi : i < n) (hj : j < n) : supM n (putM F i j w) := supM_upd h hi hj
theorem putsA_sup {n : Nat} {F : FnM} {l r : Nat} (op : Int) (h : supM n F) (hl : l < n) (hr : r < n) : supM n (putsA op l r F) := by
 unfold putsA
 split
 ·exact putM_sup (putM_sup h hl hr) hr hl
 ·split
  ·exact putM_sup h hl hr
  ·split
   ·exact putM_sup h hl hr
   ·exact h
theorem step_sup {S : List Term × FnM} (a : Atom) (h : supM S.1.length S.2) : supM (stepA18 S a).1.length (stepA18 S a).2 := by
 have h1 := nodeT_len S.1 a.Left
 have h2 := nodeT_len (nodeT S.1 a.Left) a.Right
 exact putsA_sup _ (node_sup a.Right (node_sup a.Left h)) (show posT S.1 a.Left < (nodeT (nodeT S.1 a.Left) a.Right).length by omega) h2.2.2
theorem step_len (S : List Term × FnM) (a : Atom) : S.1.length ≤ (stepA18 S a).1.length ∧ (stepA18 S a).1.length ≤ S.1.length + 2 := by
 have h1 := nodeT_len S.1 a.Left
 have h2 := nodeT_len (nodeT S.1 a.Left) a.Right
 show S.1.length ≤ (nodeT (nodeT S.1 a.Left) a.Right).length ∧ (nodeT (nodeT S.1 a.Left) a.Right).length ≤ S.1.length + 2
 omega
theorem rows_short {n : Nat} (hn : n ≤ 1000) {F : FnM} : ∀ x ∈ matF n F, x.length ≤ 1000 := by
 intro x hx
 obtain ⟨i, _, rfl⟩ := List.mem_map.1 hx
 rw [rowF_len]; exact hn
theorem last_nat {n : Nat} (h : n ≤ 1000000) : (IntKind.i64.wrap ((((n + 1) : Nat) : Int) - 1)) = (n : Int) := wrap_last h
theorem node_tail {α : Type} {n : Nat} (hn : n ≤ 900) {F : FnM} (hs : supM n F) (K : List Int → List (List Int) → Option α) :
  (if 0 ≤ (((n + 1) : Nat) : Int) then (if roomB (n + 1) 8 = true then (if roomB (((matF n F).map fun x => x ++ [0]).length + 1) 24 = true then
   (idx (((matF n F).map fun x => x ++ [0]) ++ [(List.replicate (n + 1) 0)]) (IntKind.i64.wrap ((((n + 1) : Nat) : Int) - 1))).bind fun (x : List Int) =>
   (idx x (IntKind.i64.wrap ((((n + 1) : Nat) : Int) - 1))).bind fun (y : Int) =>
   K x ((((matF n F).map fun x => x ++ [0]) ++ [(List.replicate (n + 1) 0)]).set ((IntKind.i64.wrap ((((n + 1) : Nat) : Int) - 1)).toNat) (x.set (IntKind.i64.wrap ((((n + 1) : Nat) : Int) - 1)).toNat 1))
   else none) else none) else none) = K (rowF (n + 1) F n) (matF (n + 1) (updM F n n 1)) := by
 rw [matF_grow hs, last_nat (by omega), if_pos (by omega), if_pos (room8 (by omega)), if_pos (room_le (by rw [List.length_map, matF_len]; omega) (by omega))]
 rw [idx_get (matF_get (show n < n + 1 by omega)), Option.bind_some, idx_get (rowF_get (show n < n + 1 by omega)), Option.bind_some, Int.toNat_natCast, matF_set (by omega) (by omega)]
theorem puts_eq {n : Nat} {F : FnM} {l r : Nat} (hl : l < n) (hr : r < n) (T : List Term) (op k : Int) {τ : Type} :
  (if (op == 1) = true then
   (idx (matF n F) (l : Int)).bind fun (x : List Int) => (idx x (r : Int)).bind fun (y : Int) =>
   (idx ((matF n F).set ((l : Int)).toNat (x.set ((r : Int)).toNat (if 1 > y then 1 else y))) (r : Int)).bind fun (x2 : List Int) => (idx x2 (l : Int)).bind fun (y2 : Int) =>
   some (LS.next (T, (((matF n F).set ((l : Int)).toNat (x.set ((r : Int)).toNat (if 1 > y then 1 else y))).set ((r : Int)).toNat (x2.set ((l : Int)).toNat (if 1 > y2 then 1 else y2))), k))
  else if (op == 3) = true then
   (idx (matF n F) (l : Int)).bind fun (x : List Int) => (idx x (r : Int)).bind fun (y : Int) =>
   some (LS.next (T, ((matF n F).set ((l : Int)).toNat (x.set ((r : Int)).toNat (if 2 > y then 2 else y))), k))
  else if (op == 4) = true then
   (idx (matF n F) (l : Int)).bind fun (x : List Int) => (idx x (r : Int)).bind fun (y : Int) =>
   some (LS.next (T, ((matF n F).set ((l : Int)).toNat (x.set ((r : Int)).toNat (if 1 > y then 1 else y))), k))
  else some (LS.next (T, matF n F, k))) = (some (LS.next (T, matF n (putsA op l r F), k)) : Option (LS (List Term × List (List Int) × Int) τ)) := by
 have e1 := matF_get (F := F) hl
 have e2 := rowF_get (F := F) (i := l) hr
 unfold putsA
 by_cases h1 : op = 1
 ·have e3 := matF_get (F := putM F l r 1) hr
  have e4 := rowF_get (F := putM F l r 1) (i := r) hl
  unfold putM at e3 e4
  rw [if_pos (by simpa using h1), if_pos h1]
  simp only [idx_get e1, idx_get e2, Option.bind_some, Int.toNat_natCast, matF_set hl hr, ite_max, idx_get e3, idx_get e4, matF_set hr hl]
  rfl
 ·rw [if_neg (by simpa using h1), if_neg h1]
  by_cases h3 : op = 3
  ·rw [if_pos (by simpa using h3), if_pos h3]
   simp only [idx_get e1, idx_get e2, Option.bind_some, Int.toNat_natCast, matF_set hl hr, ite_max]
   rfl
  ·rw [if_neg (by simpa using h3), if_neg h3]
   by_cases h4 : op = 4
   ·rw [if_pos (by simpa using h4), if_pos h4]
    simp only [idx_get e1, idx_get e2, Option.bind_some, Int.toNat_natCast, matF_set hl hr, ite_max]
    rfl
   ·rw [if_neg (by simpa using h4), if_neg h4]
theorem l19_step (atoms : List Atom) {T : List Term} {F : FnM} {k : Nat} {a : Atom} (hk : atoms[k]? = some a) (hn : T.length ≤ 500) (hs : supM T.length F) :
  denial_Contradictory_l19 atoms (T, matF T.length F, (k : Int)) = some (.next ((stepA18 (T, F) a).1, matF (stepA18 (T, F) a).1.length (stepA18 (T, F) a).2, IntKind.i64.wrap ((k : Int) + 1))) := by
 have i1 := Index_Term_eq T a.Left (by omega)
 have i2 := Index_Term_eq T a.Right (by omega)
 have g0 : LoopF (denial_Contradictory_l16 (matF T.length F)) (matF T.length F, 0) = some ((matF T.length F).map fun x => x ++ [0]) :=
  grow_loop18 (matF T.length F) T.length (matF_len _ _) (by omega) (rows_short (by omega)) _ (fun o k => by simp only [denial_Contradictory_l16, matF_len])
 have g0' : LoopF (denial_Contradictory_l17 (matF T.length F)) (matF T.length F, 0) = some ((matF T.length F).map fun x => x ++ [0]) := g0
 have hlen0 : (matF T.length F).length ≤ ((matF T.length F).map fun x => x ++ [0]).length := by rw [List.length_map]; exact Nat.le_refl _
 by_cases hL : a.Left ∈ T
 ·obtain ⟨_, hl⟩ := posT_mem hL
  have hT1 : nodeT T a.Left = T := by unfold nodeT; rw [if_pos hL]
  have hF1 : nodeF T F a.Left = F := by unfold nodeF; rw [if_pos hL]
  by_cases hR : a.Right ∈ T
  ·obtain ⟨_, hr⟩ := posT_mem hR
   have hT2 : nodeT T a.Right = T := by unfold nodeT; rw [if_pos hR]
   have hF2 : nodeF T F a.Right = F := by unfold nodeF; rw [if_pos hR]
   simp only [denial_Contradictory_l19, if_pos (lt_true hk), idx_get hk, Option.bind_some, i1, i2, if_pos hL, if_pos hR, if_pos (show (posT T a.Left : Int) ≥ 0 by omega), if_pos (show (posT T a.Right : Int) ≥ 0 by omega)]
   rw [puts_eq hl hr]
   simp only [stepA18, hT1, hF1, hT2, hF2]
  ·obtain ⟨_, hr⟩ := posT_not hR
   have hT2 : nodeT T a.Right = T ++ [a.Right] := by unfold nodeT; rw [if_neg hR]
   have hF2 : nodeF T F a.Right = updM F T.length T.length 1 := by unfold nodeF; rw [if_neg hR]
   simp only [denial_Contradictory_l19, if_pos (lt_true hk), idx_get hk, Option.bind_some, i1, i2, if_pos hL, if_neg hR, if_pos (show (posT T a.Left : Int) ≥ 0 by omega), if_neg (show ¬ (-1 : Int) ≥ 0 by omega), room_le (show T.length + 1 ≤ 1073741824 by omega) (show 48 ≤ 65536 by omega), if_true, g0, if_pos hlen0]
   have nt := node_tail (show T.length ≤ 900 by omega) hs (fun _ M => (some (T ++ [a.Right], M, ((posT T a.Left : Nat) : Int), IntKind.i64.wrap ((((T.length + 1) : Nat) : Int) - 1)) : Option (List Term × List (List Int) × Int × Int)))
   rw [nt]
   simp only [Option.bind_some, last_nat (show T.length ≤ 1000000 by omega)]
   rw [puts_eq (show posT T a.Left < T.length + 1 by omega) (show T.length < T.length + 1 by omega)]
   simp only [stepA18, hT1, hF1, hT2, hF2, hr, List.length_append, List.length_singleton]
 ·obtain ⟨_, hl⟩ := posT_not hL
  have hT1 : nodeT T a.Left = T ++ [a.Left] := by unfold nodeT; rw [if_neg hL]
  have hF1 : nodeF T F a.Left = updM F T.length T.length 1 := by unfold nodeF; rw [if_neg hL]
  have hs1 : supM (T.length + 1) (updM F T.length T.length 1) := supM_upd (supM_le hs (by omega)) (by omega) (by omega)
  have i3 := Index_Term_eq (T ++ [a.Left]) a.Right (by simp; omega)
  simp only [denial_Contradictory_l19, if_pos (lt_true hk), idx_get hk, Option.bind_some, i1, if_neg hL, if_neg (show ¬ (-1 : Int) ≥ 0 by omega), room_le (show T.length + 1 ≤ 1073741824 by omega) (show 48 ≤ 65536 by omega), if_true, g0', if_pos hlen0, i3]
  by_cases hR : a.Right ∈ T ++ [a.Left]
  ·obtain ⟨_, hr⟩ := posT_mem hR
   have hT2 : nodeT (T ++ [a.Left]) a.Right = T ++ [a.Left] := by unfold nodeT; rw [if_pos hR]
   have hF2 : nodeF (T ++ [a.Left]) (updM F T.length T.length 1) a.Right = updM F T.length T.length 1 := by unfold nodeF; rw [if_pos hR]
   simp only [if_pos hR, if_pos (show (posT (T ++ [a.Left]) a.Right : Int) ≥ 0 by omega)]
   have nt := node_tail (show T.length ≤ 900 by omega) hs (fun _ M => (some (T ++ [a.Left], M, IntKind.i64.wrap ((((T.length + 1) : Nat) : Int) - 1), ((posT (T ++ [a.Left]) a.Right : Nat) : Int)) : Option (List Term × List (List Int) × Int × Int)))
   rw [nt]
   simp only [Option.bind_some, last_nat (show T.length ≤ 1000000 by omega)]
   rw [List.length_append, List.length_singleton] at hr
   rw [puts_eq (show T.length < T.length + 1 by omega) hr]
   simp only [stepA18, hT1, hF1, hT2, hF2, hl, List.length_append, List.length_singleton]
  ·obtain ⟨_, hr⟩ := posT_not hR
   have hT2 : nodeT (T ++ [a.Left]) a.Right = (T ++ [a.Left]) ++ [a.Right] := by unfold nodeT; rw [if_neg hR]
   have hF2 : nodeF (T ++ [a.Left]) (updM F T.length T.length 1) a.Right = updM (updM F T.length T.length 1) (T.length + 1) (T.length + 1) 1 := by
    unfold nodeF; rw [if_neg hR]; simp
   simp only [if_neg hR, if_neg (show ¬ (-1 : Int) ≥ 0 by omega), room_le (show T.length + 1 + 1 ≤ 1073741824 by omega) (show 48 ≤ 65536 by omega), if_true]
   have nt := node_tail (show T.length ≤ 900 by omega) hs (fun (x : List Int) M => (LoopF (denial_Contradictory_l18 T ((matF T.length F).map fun x => x ++ [0]) x) (M, 0)).bind (fun (o3 : List (List Int)) =>
    if (((matF T.length F).map fun x => x ++ [0]) ++ [(List.replicate (T.length + 1) 0)]).length ≤ o3.length then
    if 0 ≤ ((((T.length + 1) + 1) : Nat) : Int) then
    if roomB ((T.length + 1) + 1) 8 = true then
    if roomB (o3.length + 1) 24 = true then
    (idx (o3 ++ [(List.replicate ((T.length + 1) + 1) 0)]) (IntKind.i64.wrap (((((T.length + 1) + 1) : Nat) : Int) - 1))).bind fun (x2 : List Int) =>
    (idx x2 (IntKind.i64.wrap (((((T.length + 1) + 1) : Nat) : Int) - 1))).bind fun (y2 : Int) =>
    if (matF T.length F).length ≤ o3.length then
    (some (((T ++ [a.Left]) ++ [a.Right]), ((o3 ++ [(List.replicate ((T.length + 1) + 1) 0)]).set ((IntKind.i64.wrap (((((T.length + 1) + 1) : Nat) : Int) - 1)).toNat) (x2.set (IntKind.i64.wrap (((((T.length + 1) + 1) : Nat) : Int) - 1)).toNat 1)), (IntKind.i64.wrap ((((T.length + 1) : Nat) : Int) - 1)), (IntKind.i64.wrap (((((T.length + 1) + 1) : Nat) : Int) - 1))) : Option (List Term × List (List Int) × Int × Int))
    else none else none else none else none else none))
   rw [nt]
   have g1 : LoopF (denial_Contradictory_l18 T ((matF T.length F).map fun x => x ++ [0]) (rowF (T.length + 1) F T.length)) (matF (T.length + 1) (updM F T.length T.length 1), 0) = some ((matF (T.length + 1) (updM F T.length T.length 1)).map fun x => x ++ [0]) :=
    grow_loop18 (matF (T.length + 1) (updM F T.length T.length 1)) (T.length + 1) (matF_len _ _) (by omega) (rows_short (by omega)) _ (fun o k => by simp only [denial_Contradictory_l18, List.length_append, List.length_map, matF_len, List.length_singleton, List.length_set])
   have hlen1 : (((matF T.length F).map fun x => x ++ [0]) ++ [(List.replicate (T.length + 1) 0)]).length ≤ ((matF (T.length + 1) (updM F T.length T.length 1)).map fun x => x ++ [0]).length := by simp [matF_len]
   have hlen2 : (matF T.length F).length ≤ ((matF (T.length + 1) (updM F T.length T.length 1)).map fun x => x ++ [0]).length := by simp [matF_len]
   simp only [g1, Option.bind_some, if_pos hlen1, if_pos hlen2]
   have nt2 := node_tail (show T.length + 1 ≤ 900 by omega) hs1 (fun (x : List Int) M => (some (((T ++ [a.Left]) ++ [a.Right]), M, (IntKind.i64.wrap ((((T.length + 1) : Nat) : Int) - 1)), (IntKind.i64.wrap (((((T.length + 1) + 1) : Nat) : Int) - 1))) : Option (List Term × List (List Int) × Int × Int)))
   rw [nt2]
   simp only [Option.bind_some, last_nat (show T.length ≤ 1000000 by omega), last_nat (show T.length + 1 ≤ 1000000 by omega)]
   rw [puts_eq (show T.length < T.length + 1 + 1 by omega) (show T.length + 1 < T.length + 1 + 1 by omega)]
   simp only [stepA18, hT1, hF1, hT2, hF2, hl, hr, List.length_append, List.length_singleton]
def foldA18 (atoms : List Atom) : List Term × FnM := atoms.foldl stepA18 ([], zeroF)
theorem foldA_ok : ∀ (l : List Atom) (S : List Term × FnM), supM S.1.length S.2 → supM (l.foldl stepA18 S).1.length (l.foldl stepA18 S).2 ∧ (l.foldl stepA18 S).1.length ≤ S.1.length + 2 * l.length
 | [], S, h => ⟨h, by simp⟩
 | a :: l, S, h => by
  rw [List.foldl_cons]
  obtain ⟨h1, h2⟩ := foldA_ok l (stepA18 S a) (step_sup a h)
  have := step_len S a
  refine ⟨h1, ?_⟩
  rw [List.length_cons]; omega
theorem l19_loop (atoms : List Atom) (hl : atoms.length ≤ 100) : LoopF (denial_Contradictory_l19 atoms) ([], [], 0) = some ((foldA18 atoms).1, matF (foldA18 atoms).1.length (foldA18 atoms).2) := by
 have h := LoopF_foldl atoms (fun (S : List Term × FnM) (i : Int) => (S.1, matF S.1.length S.2, i)) (denial_Contradictory_l19 atoms) stepA18 (fun S => (S.1, matF S.1.length S.2)) (fun k S => supM S.1.length S.2 ∧ S.1.length ≤ 2 * k) (b0 := ([], zeroF)) (s0 := ([], [], 0)) rfl ⟨fun _ _ _ => rfl, Nat.le_refl _⟩
  (fun k S x hx hk hI => by
   obtain ⟨hI1, hI2⟩ := hI
   refine ⟨?_, step_sup x hI1, by have := step_len S x; omega⟩
   rw [l19_step atoms hx (by omega) hI1, wrap_succ hk (by omega)])
  (fun S _ => by simp [denial_Contradictory_l19])
 exact h
theorem l50_loop (T : List Term) (hn : T.length ≤ 1000) (F : FnM) : LoopF (denial_Contradictory_l50 T (matF T.length F)) 0 = some (if (List.range T.length).all (fun i => decide (F i i ≠ 2)) then .inl () else .inr true) := by
 refine LoopF_all (List.range T.length) _ (fun i => decide (F i i ≠ 2)) true (fun k x hx hk hp => ?_) (fun k x hx hp => ?_) (by simp [denial_Contradictory_l50])
 ·rw [List.length_range] at hk
  obtain ⟨rfl, _⟩ := range_at hx
  have hp' : ¬ ((F x x == 2) = true) := by simpa using hp
  simp only [denial_Contradictory_l50, if_pos (show (x : Int) < ((T.length : Nat) : Int) by omega), idx_get (matF_get hk), idx_get (rowF_get hk), Option.bind_some, if_neg hp', wrap_succ hk (show T.length ≤ 4611686018427387904 by omega)]
 ·obtain ⟨rfl, hk⟩ := range_at hx
  have hp' : (F x x == 2) = true := by simpa using hp
  simp only [denial_Contradictory_l50, if_pos (show (x : Int) < ((T.length : Nat) : Int) by omega), idx_get (matF_get hk), idx_get (rowF_get hk), Option.bind_some, if_pos hp']
def clash (T : List Term) (F : FnM) (a : Atom) : Bool := decide (a.Op = 2) && (decide (0 < F (posT T a.Left) (posT T a.Right)) && decide (0 < F (posT T a.Right) (posT T a.Left)))
theorem l69_loop (atoms : List Atom) (hl : atoms.length ≤ 100) (T : List Term) (hn : T.length ≤ 1000) (hT : ∀ a ∈ atoms, a.Left ∈ T ∧ a.Right ∈ T) (F : FnM) :
  ∃ o, LoopF (denial_Contradictory_l69 atoms (matF T.length F)) (T, matF T.length F, 0) = some o ∧ (if atoms.any (clash T F) = true then ∃ k : Nat, o = .inr ((k : Int), T, matF T.length F) else o = .inl (T, matF T.length F)) := by
 have key : ∀ (r : List Atom) (k : Nat), atoms.drop k = r → k ≤ atoms.length → ∃ o, LoopF (denial_Contradictory_l69 atoms (matF T.length F)) (T, matF T.length F, (k : Int)) = some o ∧ (if r.any (clash T F) = true then ∃ k : Nat, o = .inr ((k : Int), T, matF T.length F) else o = .inl (T, matF T.length F)) := by
  intro r
  induction r with
  | nil =>
   intro k hd hk
   have := drop_n18 hd hk
   subst this
   exact ⟨_, Loop_done (t := .inl (T, matF T.length F)) (by simp [denial_Contradictory_l69]), by simp⟩
  | cons a r ih =>
   intro k hd hk
   obtain ⟨x1, x2, x3⟩ := drop_c18 hd
   obtain ⟨hL, hR⟩ := hT a (List.mem_of_getElem? x1)
   obtain ⟨_, hl'⟩ := posT_mem hL
   obtain ⟨_, hr'⟩ := posT_mem hR
   have e1 := matF_get (F := F) hl'
   have e2 := rowF_get (F := F) (i := posT T a.Left) hr'
   have e3 := matF_get (F := F) hr'
   have e4 := rowF_get (F := F) (i := posT T a.Right) hl'
   have hstep : denial_Contradictory_l69 atoms (matF T.length F) (T, matF T.length F, (k : Int)) = if clash T F a = true then some (.done (.inr ((k : Int), T, matF T.length F))) else some (.next (T, matF T.length F, ((k + 1 : Nat) : Int))) := by
    simp only [denial_Contradictory_l69, Nat.le_refl, if_true, if_pos (lt_true x1), idx_get x1, Option.bind_some, Index_Term_eq T a.Left (by omega), Index_Term_eq T a.Right (by omega), if_pos hL, if_pos hR, if_pos (show (posT T a.Left : Int) ≥ 0 by omega), if_pos (show (posT T a.Right : Int) ≥ 0 by omega), wrap_succ x3 (show atoms.length ≤ 4611686018427387904 by omega)]
    unfold clash
    by_cases h2 : a.Op = 2
    ·rw [if_pos (by simpa using h2)]
     simp only [idx_get e1, idx_get e2, Option.bind_some, h2, decide_true, Bool.true_and]
     by_cases h3 : F (posT T a.Left) (posT T a.Right) > 0
     ·rw [if_pos h3]
      simp only [idx_get e3, idx_get e4, Option.bind_some, show decide (0 < F (posT T a.Left) (posT T a.Right)) = true by simpa using h3, Bool.true_and, decide_eq_true_eq]
     ·rw [if_neg h3]
      simp only [show decide (0 < F (posT T a.Left) (posT T a.Right)) = false by simpa using h3, Bool.false_and, Bool.false_eq_true, if_false]
    ·rw [if_neg (by simpa using h2)]
     simp [h2]
   cases hc : clash T F a with
   | true =>
    rw [hc] at hstep
    exact ⟨_, Loop_done hstep, by simp only [List.any_cons, hc, Bool.true_or, if_true]; exact ⟨k, rfl⟩⟩
   | false =>
    rw [hc] at hstep
    simp only [Bool.false_eq_true, if_false] at hstep
    obtain ⟨o, ho1, ho2⟩ := ih (k + 1) x2 x3
    exact ⟨o, by rw [Loop_next hstep]; exact ho1, by simpa only [List.any_cons, hc, Bool.false_or] using ho2⟩
 exact key atoms 0 rfl (Nat.zero_le _)
def contraB (atoms : List Atom) : Bool :=
 let S := foldA18 atoms
 let F := closeF S.1.length (constM S.1 S.2)
 (List.range S.1.length).any (fun i => decide (F i i = 2)) || atoms.any (clash S.1 F)
theorem node_mem {T : List Term} {t : Term} : t ∈ nodeT T t ∧ ∀ x ∈ T, x ∈ nodeT T t := by
 unfold nodeT
 by_cases h : t ∈ T
 ·rw [if_pos h]; exact ⟨h, fun x hx => hx⟩
 ·rw [if_neg h]; exact ⟨by simp, fun x hx => by simp [hx]⟩
theorem foldA_mem : ∀ (l : List Atom) (S : List Term × FnM), (∀ x ∈ S.1, x ∈ (l.foldl stepA18 S).1) ∧ ∀ a ∈ l, a.Left ∈ (l.foldl stepA18 S).1 ∧ a.Right ∈ (l.foldl stepA18 S).1
 | [], S => ⟨fun x hx => hx, by simp⟩
 | a :: l, S => by
  rw [List.foldl_cons]
  obtain ⟨h1, h2⟩ := foldA_mem l (stepA18 S a)
  have m1 := @node_mem S.1 a.Left
  have m2 := @node_mem (nodeT S.1 a.Left) a.Right
  refine ⟨fun x hx => h1 x (m2.2 x (m1.2 x hx)), fun b hb => ?_⟩
  rcases List.mem_cons.1 hb with rfl | hb
  ·exact ⟨h1 _ (m2.2 _ m1.1), h1 _ m2.1⟩
  ·exact h2 b hb
theorem Contradictory_eq (atoms : List Atom) (hl : atoms.length ≤ 100) : denial_Contradictory atoms = some (contraB atoms) := by
 have hok := foldA_ok atoms ([], zeroF) (fun _ _ _ => rfl)
 have hmem := (foldA_mem atoms ([], zeroF)).2
 have hn : (foldA18 atoms).1.length ≤ 200 := by have := hok.2; simp at this; unfold foldA18; omega
 unfold denial_Contradictory contraB
 rw [l19_loop atoms hl]
 simp only [Option.bind_some]
 change ∀ a ∈ atoms, a.Left ∈ (foldA18 atoms).1 ∧ a.Right ∈ (foldA18 atoms).1 at hmem
 generalize (foldA18 atoms).1 = T at *
 generalize (foldA18 atoms).2 = F0 at *
 rw [const_23 T (by omega)]
 simp only [Option.bind_some]
 generalize constM T F0 = F1
 rw [clo_49 T rfl (by omega) (matF T.length F1) (matF_len _ _)]
 simp only [Option.bind_some, matF_len, Nat.le_refl, if_true]
 generalize closeF T.length F1 = F
 rw [l50_loop T (by omega)]
 simp only [Option.bind_some]
 have hany : ((List.range T.length).any fun i => decide (F i i = 2)) = !((List.range T.length).all fun i => decide (F i i ≠ 2)) := by
  rw [← any_not]
  simp only [Bool.not_not]
  congr 1
  funext i
  simp
 rw [hany]
 cases hd : (List.range T.length).all fun i => decide (F i i ≠ 2) with
 | false => simp
 | true =>
  obtain ⟨o, ho1, ho2⟩ := l69_loop atoms hl T (by omega) hmem F
  simp only [if_true, ho1, Option.bind_some, Bool.not_true, Bool.false_or]
  cases hc : atoms.any (clash T F) with
  | true =>
   rw [hc] at ho2
   simp only [if_true] at ho2
   obtain ⟨k, rfl⟩ := ho2
   simp [matF_len]
  | false =>
   rw [hc] at ho2
   simp only [Bool.false_eq_true, if_false] at ho2
   subst ho2
   simp [matF_len]
end Go.Proofs.YtlaodgbkpmdhoaaGreatDoor
set_option linter.unusedVariables false
set_option linter.unusedSimpArgs false
namespace Go.Proofs.YtlaodgbkpmdhoaaGreatDoor
open Go Go.Ab
def exT18 : Table := ⟨[114], [[97], [98]], [⟨1, [⟨1, 2, []⟩, ⟨1, 1, []⟩]⟩, ⟨2, [⟨1, 2, []⟩, ⟨1, 2, []⟩]⟩, ⟨3, [⟨1, 7, []⟩, ⟨1, 2, []⟩]⟩]⟩
theorem ofV18_1 : ofV 1 = ⟨1, 1, []⟩ := by simp [ofV, drossref01_Of]
theorem ofV18_2 : ofV 2 = ⟨1, 2, []⟩ := by simp [ofV, drossref01_Of]
theorem ofV18_11 : ofV 11 = ⟨1, 7, []⟩ := by simp [ofV, drossref01_Of]
theorem Wide18 : drossref03_Wide (Drossref03_Recipe.mk 0 0 [[2, 1], [2, 2], [11, 2]]) 2 = some exT18 := by
 have h := Wide_eq (Drossref03_Recipe.mk 0 0 [[2, 1], [2, 2], [11, 2]]) 2 (by omega) (by simp) (by simp) (by simp)
 have h' : drossref03_Wide (Drossref03_Recipe.mk 0 0 [[2, 1], [2, 2], [11, 2]]) 2 = some (wide (Drossref03_Recipe.mk 0 0 [[2, 1], [2, 2], [11, 2]]) 2) := h
 rw [h']
 have e : wide (Drossref03_Recipe.mk 0 0 [[2, 1], [2, 2], [11, 2]]) 2 = exT18 := by
  simp [wide, wrow, wval, wstep, exT18, wnames, List.range, List.range.loop, ofV18_1, ofV18_2, ofV18_11]
 rw [e]
def no18 : List Atom := [⟨atT 1 0, 3, atT 1 1⟩, ⟨atT 1 1, 4, ⟨0, 0, ⟨1, 5, []⟩⟩⟩, ⟨⟨0, 0, ⟨1, 6, []⟩⟩, 3, atT 1 0⟩]
def yes18 : List Atom := [⟨atT 1 0, 3, ⟨0, 0, ⟨1, 2, []⟩⟩⟩, ⟨⟨0, 0, ⟨1, 1, []⟩⟩, 3, atT 1 0⟩]
theorem no_contra : contraB no18 = true := by decide +kernel
theorem yes_contra : contraB yes18 = false := by decide +kernel
theorem ex_dt : DT exT18 := by
 have hv : ∀ r ∈ exT18.Rows, ∀ v ∈ r.Values, v.Str = [] := by decide
 refine ⟨⟨by decide, by decide, by decide, fun r hr v hvm => by rw [hv r hr v hvm]; simp⟩, by decide +kernel, by decide, fun r hr v hvm => by rw [hv r hr v hvm]; simp⟩
def want18 : Denial := ⟨2, [bothA 1 0, bothA 2 1]⟩
def less18 : Denial := ⟨1, [⟨atT 1 0, 3, ⟨0, 0, ⟨1, 6, []⟩⟩⟩]⟩
theorem idsA_of {rows : List Row} {l : List Int} (hp : (rows.map Row.ID).Perm l) (hs : l.Pairwise fun a b => a ≤ b) : idsA rows = l :=
 int_asc_unique ((srtI_perm _).trans hp) (srtI_sorted _) hs
def r18a : Row := ⟨1, [⟨1, 2, []⟩, ⟨1, 1, []⟩]⟩
def r18b : Row := ⟨2, [⟨1, 2, []⟩, ⟨1, 2, []⟩]⟩
theorem viol_want : setO (violL exT18 want18) = [[1, 2]] := by
 have h : (asgN exT18 want18.Vars.toNat).filter (fun a => want18.Atoms.all (satA a)) = [[r18a, r18b], [r18b, r18a]] := by decide +kernel
 have e1 : idsA [r18a, r18b] = [1, 2] := idsA_of (by decide) (by decide)
 have e2 : idsA [r18b, r18a] = [1, 2] := idsA_of (List.Perm.swap _ _ _) (by decide)
 unfold violL
 rw [h, List.map_cons, List.map_cons, e1, e2]
 decide
theorem viol_less : setO (violL exT18 less18) = [[1], [2]] := by
 have h : (asgN exT18 less18.Vars.toNat).filter (fun a => less18.Atoms.all (satA a)) = [[r18a], [r18b]] := by decide +kernel
 have e1 : idsA [r18a] = [1] := idsA_of (by decide) (by decide)
 have e2 : idsA [r18b] = [2] := idsA_of (by decide) (by decide)
 unfold violL
 rw [h, List.map_cons, List.map_cons, e1, e2]
 decide
theorem Same_self18 (l : List Denial) (hl : l.length ≤ 1000000) (ha : ∀ d ∈ l, d.Atoms.length ≤ 1000000) : drossref18_Same l l = some true := by
 have inner : ∀ (k : Nat) (d : Denial), l[k]? = some d → LoopF (drossref18_Same_l3 l l (k : Int)) 0 = some (.inl ()) := by
  intro k d hd
  have h := LoopF_all d.Atoms (drossref18_Same_l3 l l (k : Int)) (fun _ => true) false
   (fun j a hx hk hp => by
    have e : ((((a.Left.Var == a.Left.Var) && ((a.Left.Attr == a.Left.Attr) && ((a.Left.Value.Kind == a.Left.Value.Kind) && ((a.Left.Value.Num == a.Left.Value.Num) && (a.Left.Value.Str == a.Left.Value.Str))))) && ((a.Op == a.Op) && ((a.Right.Var == a.Right.Var) && ((a.Right.Attr == a.Right.Attr) && ((a.Right.Value.Kind == a.Right.Value.Kind) && ((a.Right.Value.Num == a.Right.Value.Num) && (a.Right.Value.Str == a.Right.Value.Str)))))))) = true := by simp
    simp only [drossref18_Same_l3, idx_get hd, Option.bind_some, if_pos (lt_true hx), idx_get hx, if_pos e, wrap_succ hk (show d.Atoms.length ≤ 4611686018427387904 by have := ha d (List.mem_of_getElem? hd); omega)])
   (fun j a hx hp => by cases hp)
   (by simp [drossref18_Same_l3, idx_get hd])
  rw [h]; simp
 have h := LoopF_all l (drossref18_Same_l4 l l) (fun _ => true) false
  (fun k d hd hk hp => by
   simp only [drossref18_Same_l4, if_pos (lt_true hd), idx_get hd, Option.bind_some, bne_self_eq_false, Bool.false_eq_true, if_false, inner k d hd, wrap_succ hk (show l.length ≤ 4611686018427387904 by omega)])
  (fun k d hd hp => by cases hp)
  (by simp [drossref18_Same_l4])
 unfold drossref18_Same
 rw [if_neg (by simp), h, Option.bind_some]
 have : (l.all fun _ => true) = true := by simp
 rw [this]; rfl
theorem viol_at {t : Table} (H : DT t) {d : Denial} (he : denErr t d = 0) (hl : d.Atoms.length ≤ 1048576) : denial_Violations t d = some (setO (violL t d), 0) := by
 rw [DViolations_eq t d H.ok H.str H.few hl]
 unfold violR
 rw [if_pos he]
theorem awake18 : drosslaw18_awake = some true := by
 have h1 : denial_FromFD 2 (FD.mk 1 2) = some ([want18], 0) := by
  have h := FromFD_eq (n := 2) (s := 1) (r := 2) (by omega) (by omega) (by omega)
  have e : (if fdB 2 1 2 = true then (fdL 1 2, (0 : Int)) else ([], 1)) = ([want18], 0) := by decide +kernel
  rw [e] at h
  exact h
 have h2 : denial_Violations exT18 want18 = some ([[1, 2]], 0) := by
  rw [viol_at ex_dt (by decide +kernel) (by decide), viol_want]
 have h3 : denial_Violations exT18 less18 = some ([[1], [2]], 0) := by
  rw [viol_at ex_dt (by decide +kernel) (by decide), viol_less]
 have h4 : denial_FromOD 2 (OD.mk [0] [1]) = some (odL [0] [1], 0) := by
  have h := FromOD_eq 2 (OD.mk [0] [1]) (by simp) (by simp)
  have e : odR 2 (OD.mk [0] [1]) = (odL [0] [1], 0) := by decide +kernel
  rw [e] at h
  exact h
 have h5 : ((odL [0] [1]).length : Int) = 2 := by decide +kernel
 have h6 := Same_self18 [want18] (by simp) (by simp [want18])
 have h7 := Lists_self [[1, 2]] (by simp) (by simp)
 have h8 := Lists_self [[1], [2]] (by simp) (by simp)
 have h9 := Contradictory_eq no18 (by decide)
 have h10 := Contradictory_eq yes18 (by decide)
 rw [no_contra] at h9
 rw [yes_contra] at h10
 have h2' : denial_Violations exT18 (Denial.mk 2 [(Atom.mk (Term.mk 1 0 (Value.mk 0 0 [])) 1 (Term.mk 2 0 (Value.mk 0 0 []))), (Atom.mk (Term.mk 1 1 (Value.mk 0 0 [])) 2 (Term.mk 2 1 (Value.mk 0 0 [])))]) = _ := h2
 have h3' : denial_Violations exT18 (Denial.mk 1 [(Atom.mk (Term.mk 1 0 (Value.mk 0 0 [])) 3 (Term.mk 0 0 (Value.mk 1 6 [])))]) = _ := h3
 have h6' : drossref18_Same [want18] [(Denial.mk 2 [(Atom.mk (Term.mk 1 0 (Value.mk 0 0 [])) 1 (Term.mk 2 0 (Value.mk 0 0 []))), (Atom.mk (Term.mk 1 1 (Value.mk 0 0 [])) 2 (Term.mk 2 1 (Value.mk 0 0 [])))])] = _ := h6
 have h9' : denial_Contradictory [(Atom.mk (Term.mk 1 0 (Value.mk 0 0 [])) 3 (Term.mk 1 1 (Value.mk 0 0 []))), (Atom.mk (Term.mk 1 1 (Value.mk 0 0 [])) 4 (Term.mk 0 0 (Value.mk 1 5 []))), (Atom.mk (Term.mk 0 0 (Value.mk 1 6 [])) 3 (Term.mk 1 0 (Value.mk 0 0 [])))] = _ := h9
 have h10' : denial_Contradictory [(Atom.mk (Term.mk 1 0 (Value.mk 0 0 [])) 3 (Term.mk 0 0 (Value.mk 1 2 []))), (Atom.mk (Term.mk 0 0 (Value.mk 1 1 [])) 3 (Term.mk 1 0 (Value.mk 0 0 [])))] = _ := h10
 simp only [drosslaw18_awake, Wide18, h1, drosslaw18_at, drosslaw18_num, Option.bind_some, h2', h3', h4, bne_self_eq_false, Bool.false_eq_true, if_false, h6', if_true, h7, h8, h5, h9', h10', Bool.not_false]
end Go.Proofs.YtlaodgbkpmdhoaaGreatDoor
set_option linter.unusedVariables false
set_option linter.unusedSimpArgs false
namespace Go.Proofs.YtlaodgbkpmdhoaaGreatDoor
open Go Go.Ab
end Go.Proofs.YtlaodgbkpmdhoaaGreatDoor
set_option linter.unusedVariables false
set_option linter.unusedSimpArgs false
namespace Go.Proofs.YtlaodgbkpmdhoaaGreatDoor
open Go Go.Ab
theorem take_snoc18 {α : Type} (l : List α) (j : Nat) (h : j < l.length) : l.take (j + 1) = l.take j ++ [l[j]] := by
 induction l generalizing j with
 | nil => simp at h
 | cons x r ih =>
  cases j with
  | zero => simp
  | succ j =>
   simp only [List.length_cons] at h
   simp only [List.take_succ_cons, List.cons_append, List.getElem_cons_succ]
   rw [ih j (by omega)]
theorem del_loop18 {α : Type} (l : List α) (p : α → Bool) (B : List α × Int × Int → Option (LS (List α × Int × Int) (List α × Int)))
  (hB : ∀ (s : List α) (i j : Nat) x, s.length = l.length → s[j]? = some x → l[j]? = some x → i ≤ j → j < l.length → B (s, (i : Int), (j : Int)) = some (.next (if p x = true then (s.set i x, ((i + 1 : Nat) : Int), ((j + 1 : Nat) : Int)) else (s, (i : Int), ((j + 1 : Nat) : Int)))))
  (hE : ∀ (s : List α) (i : Nat), s.length = l.length → B (s, (i : Int), (l.length : Int)) = some (.done (s, (i : Int)))) :
  ∀ (r j : Nat) (s : List α) (i : Nat), j + r = l.length → s.length = l.length → i ≤ j → s.take i = (l.take j).filter p → (∀ m, j ≤ m → s[m]? = l[m]?) →
   ∃ (s' : List α) (i' : Nat), LoopF B (s, (i : Int), (j : Int)) = some (s', (i' : Int)) ∧ s'.length = l.length ∧ i' ≤ l.length ∧ s'.take i' = l.filter p
 | 0, j, s, i, hj, hs, hij, ht, hm => by
  have e : j = l.length := by omega
  subst e
  refine ⟨s, i, Loop_done (hE s i hs), hs, hij, ?_⟩
  rw [ht, List.take_length]
 | r + 1, j, s, i, hj, hs, hij, ht, hm => by
  have hjl : j < l.length := by omega
  have hx : l[j]? = some l[j] := List.getElem?_eq_getElem hjl
  have hsx : s[j]? = some l[j] := by rw [hm j (Nat.le_refl _), hx]
  have htake : l.take (j + 1) = l.take j ++ [l[j]] := take_snoc18 l j hjl
  have hstep := hB s i j l[j] hs hsx hx hij hjl
  cases hp : p l[j] with
  | true =>
   rw [if_pos hp] at hstep
   have hil : i < s.length := by omega
   obtain ⟨s', i', h1, h2, h3, h4⟩ := del_loop18 l p B hB hE r (j + 1) (s.set i l[j]) (i + 1) (by omega) (by rw [List.length_set]; exact hs) (by omega) (by
    rw [htake, List.filter_append, ← ht, List.filter_cons, if_pos hp, List.filter_nil]
    have hg : (s.set i l[j])[i]? = some l[j] := by rw [List.getElem?_set_self hil]
    have hl2 : i < (s.set i l[j]).length := by rw [List.length_set]; exact hil
    rw [take_snoc18 _ i hl2, List.take_set_of_le (Nat.le_refl i)]
    congr 2
    have := List.getElem?_eq_getElem hl2
    rw [hg] at this
    exact (Option.some.inj this).symm) (fun m hmj => by rw [List.getElem?_set_ne (by omega)]; exact hm m (by omega))
   exact ⟨s', i', by rw [Loop_next hstep]; exact h1, h2, h3, h4⟩
  | false =>
   rw [if_neg (by rw [hp]; simp)] at hstep
   obtain ⟨s', i', h1, h2, h3, h4⟩ := del_loop18 l p B hB hE r (j + 1) s i (by omega) hs (by omega) (by
    rw [htake, List.filter_append, ← ht, List.filter_cons, if_neg (by rw [hp]; simp), List.filter_nil, List.append_nil]) (fun m hmj => hm m (by omega))
   exact ⟨s', i', by rw [Loop_next hstep]; exact h1, h2, h3, h4⟩
theorem filter_first18 {α : Type} (p : α → Bool) (l : List α) (i : Nat) (h : l.findIdx? (fun x => !p x) = some i) : i < l.length ∧ (l.take (i + 1)).filter p = l.take i := by
 rw [List.findIdx?_eq_some_iff_getElem] at h
 obtain ⟨hi, h1, h2⟩ := h
 refine ⟨hi, ?_⟩
 rw [take_snoc18 l i hi, List.filter_append, List.filter_cons, if_neg (by simpa using h1), List.filter_nil, List.append_nil]
 rw [List.filter_eq_self]
 intro x hx
 obtain ⟨j, hj, rfl⟩ := List.mem_iff_getElem.1 hx
 rw [List.length_take] at hj
 rw [List.getElem_take]
 have := h2 j (by omega)
 simpa using this
theorem cut_take18 {α : Type} (s' : List α) (k' n : Nat) (z : α) (h : s'.length = n) (hk : k' ≤ n) : (((s'.take k' ++ List.replicate (s'.length - k') z) ++ s'.drop (k' + (s'.length - k'))).take k') = s'.take k' ∧ ((s'.take k' ++ List.replicate (s'.length - k') z) ++ s'.drop (k' + (s'.length - k'))).length = n := by
 constructor
 ·rw [List.append_assoc, List.take_append_of_le_length (by rw [List.length_take]; omega), List.take_take, Nat.min_self]
 ·simp only [List.length_append, List.length_take, List.length_replicate, List.length_drop]; omega
theorem With18 (t : Table) (rows : List Row) (ha : t.Attrs.length ≤ 1048576) (hl : rows.length ≤ 1048576) (hv : ∀ r ∈ rows, r.Values.length ≤ 1048576) : drossref03_With t rows = some ⟨t.Name, t.Attrs, rows⟩ := by
 have r0 : roomB t.Attrs.length 16 = true := room_le (by omega) (by omega)
 have h := LoopF_foldl rows (fun (b : List Row) i => (b, i)) (drossref03_With_l1 rows) (fun b x => b ++ [x]) id (fun k b => b.length = k) (b0 := []) (s0 := ([], 0)) rfl rfl
  (fun k b x hx hk hI => by
   have hvx := hv x (List.mem_of_getElem? hx)
   refine ⟨?_, by simp [hI]⟩
   have hcp : drossref03_cp x = some x := by
    simp only [drossref03_cp, room_le (show x.Values.length ≤ 1073741824 by omega) (show 32 ≤ 65536 by omega), if_true]
   simp only [drossref03_With_l1, if_pos (lt_true hx), idx_get hx, Option.bind_some, hcp, room_le (show b.length + 1 ≤ 1073741824 by omega) (show 32 ≤ 65536 by omega), if_true, wrap_succ hk (show rows.length ≤ 4611686018427387904 by omega)])
  (fun b _ => by simp [drossref03_With_l1])
 have key : ∀ (l : List Row) (b : List Row), l.foldl (fun b x => b ++ [x]) b = b ++ l := by
  intro l
  induction l with
  | nil => simp
  | cons x l ih => intro b; rw [List.foldl_cons, ih]; simp
 simp only [drossref03_With, r0, if_true]
 rw [h, key, Option.bind_some]
 rfl
theorem mem_idsA (a : List Row) (y : Int) : y ∈ idsA a ↔ ∃ r ∈ a, r.ID = y := by
 unfold idsA; rw [(srtI_perm _).mem_iff, List.mem_map]
def lessT (t : Table) (k : Nat) : Table := ⟨t.Name, t.Attrs, t.Rows.take k ++ t.Rows.drop (k + 1)⟩
theorem rows_at {t : Table} {k : Nat} {a : Row} (hk : t.Rows[k]? = some a) : t.Rows = t.Rows.take k ++ a :: t.Rows.drop (k + 1) := by
 obtain ⟨h1, h2⟩ := List.getElem?_eq_some_iff.1 hk
 rw [← h2, ← List.drop_eq_getElem_cons h1, List.take_append_drop]
theorem less_pair {t : Table} (H : DT t) {k : Nat} {a : Row} (hk : t.Rows[k]? = some a) : (lessT t k).Rows.Pairwise (fun x y => x.ID < y.ID) ∧ ∀ x, x ∈ (lessT t k).Rows ↔ x ∈ t.Rows ∧ x.ID ≠ a.ID := by
 have hp := (H.code).2
 have e := rows_at hk
 unfold lessT
 simp only
 revert e
 generalize t.Rows.take k = p
 generalize t.Rows.drop (k + 1) = s
 intro e
 rw [e] at hp ⊢
 rw [List.pairwise_append, List.pairwise_cons] at hp
 obtain ⟨h1, ⟨h2, h3⟩, h4⟩ := hp
 refine ⟨List.pairwise_append.2 ⟨h1, h3, fun x hx y hy => h4 x hx y (by simp [hy])⟩, fun x => ?_⟩
 rw [List.mem_append, List.mem_append, List.mem_cons]
 constructor
 ·rintro (hx | hx)
  ·have := h4 x hx a (by simp)
   exact ⟨.inl hx, by omega⟩
  ·have := h2 x hx
   exact ⟨.inr (.inr hx), by omega⟩
 ·rintro ⟨hx | hx | hx, hne⟩
  ·exact .inl hx
  ·rw [hx] at hne; exact absurd rfl hne
  ·exact .inr hx
theorem rowsCode_of18 : ∀ (n : Nat) (a : Int) (l : List Row), (∀ r ∈ l, r.Values.length = n ∧ r.Values.all valid = true ∧ a < r.ID) → l.Pairwise (fun x y => x.ID < y.ID) → rowsCode n a l = 0
 | n, a, [], _, _ => rfl
 | n, a, x :: l, h, hp => by
  rw [List.pairwise_cons] at hp
  obtain ⟨g1, g2, g3⟩ := h x (by simp)
  rw [rowsCode, if_neg (by omega), if_neg (by simp [g1]), if_pos g2]
  exact rowsCode_of18 n x.ID l (fun r hr => ⟨(h r (by simp [hr])).1, (h r (by simp [hr])).2.1, hp.1 r hr⟩) hp.2
theorem less_err {t : Table} (h : tableErr t = 0) (rows' : List Row) (hl : rows'.length ≤ t.Rows.length) (hc : rowsCode t.Attrs.length 0 rows' = 0) : tableErr ⟨t.Name, t.Attrs, rows'⟩ = 0 := by
 unfold tableErr at h ⊢
 by_cases h1 : nameB t.Name = false
 ·simp [h1] at h
 by_cases h2 : t.Attrs.length > 16
 ·rw [if_neg h1, if_pos h2] at h; cases h
 by_cases h3 : t.Rows.length > 1000
 ·rw [if_neg h1, if_neg h2, if_pos h3] at h; cases h
 by_cases h4 : namesB t.Attrs = false
 ·rw [if_neg h1, if_neg h2, if_neg h3, if_pos h4] at h; cases h
 simp only
 rw [if_neg h1, if_neg h2, if_neg (by omega), if_neg h4]
 exact hc
theorem less_len {t : Table} {k : Nat} {a : Row} (hk : t.Rows[k]? = some a) : (lessT t k).Rows.length + 1 = t.Rows.length := by
 have := lt_of_get hk
 unfold lessT
 simp only [List.length_append, List.length_take, List.length_drop]
 omega
theorem less_dt {t : Table} (H : DT t) {k : Nat} {a : Row} (hk : t.Rows[k]? = some a) : DT (lessT t k) := by
 obtain ⟨h1, h2⟩ := less_pair H hk
 have hl := less_len hk
 have hf := H.few
 have hT := H.ok
 refine ⟨⟨hT.attrs, by omega, fun r hr => hT.vals r ((h2 r).1 hr).1, fun r hr => hT.short r ((h2 r).1 hr).1⟩, ?_, by omega, fun r hr => H.str r ((h2 r).1 hr).1⟩
 refine less_err H.err (lessT t k).Rows (by omega) (rowsCode_of18 _ _ _ (fun r hr => ?_) h1)
 exact (H.code).1 r ((h2 r).1 hr).1
theorem Find18 {t : Table} (H : DT t) {k : Nat} {a : Row} (hk : t.Rows[k]? = some a) : drossref03_Find t a.ID = some ((k : Int), true) := by
 have hf := H.few
 rw [ref_Find_eq t a.ID (by omega)]
 have hklt := lt_of_get hk
 have hka : t.Rows[k] = a := (List.getElem?_eq_some_iff.1 hk).2
 have : t.Rows.findIdx? (fun r => r.ID == a.ID) = some k := by
  rw [List.findIdx?_eq_some_iff_getElem]
  refine ⟨hklt, by simp [hka], fun j hj => ?_⟩
  have hp := List.pairwise_iff_getElem.1 (H.code).2 j k (by omega) hklt hj
  rw [hka] at hp
  simp; omega
 unfold findB
 rw [this]
theorem Delete18 {t : Table} (H : DT t) {k : Nat} {a : Row} (hk : t.Rows[k]? = some a) : drossref03_Delete t a.ID = some (lessT t k, 0) := by
 have hf := H.few
 have hklt := lt_of_get hk
 have hw : IntKind.i64.wrap ((k : Int) + 1) = ((k + 1 : Nat) : Int) := wrap_nat (by omega)
 have hat := (tableErr_z17 H.err).1
 have hr1 : roomB (t.Rows.take k).length 32 = true := room_le (by rw [List.length_take]; omega) (by omega)
 have hr2 : roomB ((t.Rows.take k).length + (t.Rows.drop (k + 1)).length) 32 = true := room_le (by rw [List.length_take, List.length_drop]; omega) (by omega)
 have hWi := With18 t (t.Rows.take k ++ t.Rows.drop (k + 1)) (by omega) (by rw [List.length_append, List.length_take, List.length_drop]; omega) (fun r hr => by
  have := (H.code).1 r (by
   rcases List.mem_append.1 hr with h | h
   ·exact List.mem_of_mem_take h
   ·exact List.mem_of_mem_drop h)
  omega)
 have c1 : (0 : Int) ≤ (k : Int) := by omega
 have c2 : (k : Int) ≤ (t.Rows.length : Int) := by omega
 have c3 : (0 : Int) ≤ ((k + 1 : Nat) : Int) := by omega
 have c4 : ((k + 1 : Nat) : Int) ≤ (t.Rows.length : Int) := by omega
 unfold drossref03_Delete
 simp only [ref_Valid_table t H.ok, H.err, Option.bind_some, bne_self_eq_false, Bool.false_eq_true, if_false, Find18 H hk, if_true, hw, if_pos c1, if_pos c2, Int.toNat_natCast, hr1, if_pos c3, if_pos c4, drop_take, hr2, hWi]
 rfl
theorem asg_less {t : Table} (H : DT t) {k : Nat} {a : Row} (hk : t.Rows[k]? = some a) (n : Nat) (b : List Row) : b ∈ asgN (lessT t k) n ↔ b ∈ asgN t n ∧ ∀ r ∈ b, r.ID ≠ a.ID := by
 obtain ⟨_, h2⟩ := less_pair H hk
 constructor
 ·intro hb
  obtain ⟨g1, g2, g3⟩ := asgN_mem hb
  exact ⟨asgN_of g1 (fun r hr => ((h2 r).1 (g2 r hr)).1) g3, fun r hr => ((h2 r).1 (g2 r hr)).2⟩
 ·rintro ⟨hb, hne⟩
  obtain ⟨g1, g2, g3⟩ := asgN_mem hb
  exact asgN_of g1 (fun r hr => (h2 r).2 ⟨g2 r hr, hne r hr⟩) g3
theorem viol_less_mem {t : Table} (H : DT t) {k : Nat} {a : Row} (hk : t.Rows[k]? = some a) (d : Denial) (z : List Int) : z ∈ violL (lessT t k) d ↔ z ∈ violL t d ∧ a.ID ∉ z := by
 unfold violL
 rw [List.mem_map, List.mem_map]
 constructor
 ·rintro ⟨b, hb, rfl⟩
  obtain ⟨h1, h2⟩ := List.mem_filter.1 hb
  obtain ⟨h3, h4⟩ := (asg_less H hk _ b).1 h1
  refine ⟨⟨b, List.mem_filter.2 ⟨h3, h2⟩, rfl⟩, fun hm => ?_⟩
  obtain ⟨r, hr, e⟩ := (mem_idsA b a.ID).1 hm
  exact h4 r hr e
 ·rintro ⟨⟨b, hb, rfl⟩, hno⟩
  obtain ⟨h1, h2⟩ := List.mem_filter.1 hb
  refine ⟨b, List.mem_filter.2 ⟨(asg_less H hk _ b).2 ⟨h1, fun r hr e => hno ((mem_idsA b a.ID).2 ⟨r, hr, e⟩)⟩, h2⟩, rfl⟩
theorem viol_lessT {t : Table} (H : DT t) {k : Nat} {a : Row} (hk : t.Rows[k]? = some a) (d : Denial) : setO (violL (lessT t k) d) = (setO (violL t d)).filter fun z => !decide (a.ID ∈ z) := by
 refine setO_eq ((setO_asc _).filter _) fun z => ?_
 rw [viol_less_mem H hk, List.mem_filter, setO_mem]
 simp
theorem Fewer1_eq (l : List Int) (c : Int) (hl : l.length ≤ 1000000) : drosslaw18_DenialFewer_1 l c = some (decide (c ∈ l)) := by
 unfold drosslaw18_DenialFewer_1
 rw [Contains_int64_eq l c (by omega)]; rfl
theorem IndexFunc_L18 (l : List (List Int)) (f : List Int → Option Bool) (p : List Int → Bool) (hf : ∀ x ∈ l, f x = some (p x)) (hl : l.length ≤ 1000000) : slices_IndexFunc_Lint64 l f = some (match l.findIdx? p with | some i => (i : Int) | none => -1) := by
 have h := LoopF_find l (slices_IndexFunc_Lint64_l1 l f) p
  (fun k x hx hk hp => by simp [slices_IndexFunc_Lint64_l1, lt_true hx, idx_get hx, hf x (List.mem_of_getElem? hx), hp, wrap_succ hk (by omega)])
  (fun k x hx hp => by simp [slices_IndexFunc_Lint64_l1, lt_true hx, idx_get hx, hf x (List.mem_of_getElem? hx), hp])
  (by simp [slices_IndexFunc_Lint64_l1])
 simp only [slices_IndexFunc_Lint64, h, Option.bind_some]
 cases l.findIdx? p <;> rfl
noncomputable def delD (x_26139 : Row) (before_33694 : List (List Int)) : Option (List (List Int)) :=
 (slices_IndexFunc_Lint64 before_33694 (fun (y_56421 : List Int) => drosslaw18_DenialFewer_1 y_56421 x_26139.ID)).bind fun (r_56422 : Int) =>
 if (r_56422 == (-1)) = true then
 some before_33694
 else
 (LoopF (drosslaw18_DenialFewer_l642 x_26139) (before_33694, r_56422, (IntKind.i64.wrap (r_56422 + 1)))).bind (fun (s_56452, i_56453) =>
 if 0 ≤ i_56453 then
 if i_56453 ≤ ((s_56452.length : Nat) : Int) then
 if (0 : Int) ≤ i_56453 then
 if i_56453 ≤ ((((((s_56452.take i_56453.toNat)).length + ((List.replicate (s_56452.length - i_56453.toNat) ([] : List Int))).length) + ((s_56452.drop (i_56453.toNat + (s_56452.length - i_56453.toNat)))).length) : Nat) : Int) then
 (some ((((s_56452.take i_56453.toNat) ++ (List.replicate (s_56452.length - i_56453.toNat) ([] : List Int))) ++ (s_56452.drop (i_56453.toNat + (s_56452.length - i_56453.toNat)))) : List (List Int))).bind fun (l_56472 : List (List Int)) =>
 if i_56453.toNat ≤ l_56472.length then
 (some (l_56472.take i_56453.toNat : List (List Int))).bind fun (l_56475 : List (List Int)) =>
 some l_56475
 else none
 else none
 else none
 else none
 else none)
theorem fewer_text (x_26108 : Drossref03_Recipe) (r_26109 : Drossref18_Recipe) (i_26110 : Int) : drosslaw18_DenialFewer x_26108 r_26109 i_26110 = (
 (drossref03_Table x_26108 7).bind fun (r_26113 : Table × Bool) =>
 (drossref18_Of (r_26113.1.Attrs.length : Int) r_26109).bind fun (r_26117 : Denial × Bool) =>
 (show Option (Bool) from
 (drosslaw18_awake ).bind fun (r_26127 : Bool) =>
 if r_26127 = true then
 if r_26113.2 = true then
 if r_26117.2 = true then
 some ((r_26113.1.Rows.length : Int) == 0)
 else
 some true
 else
 some true
 else
 some true).bind (fun t47_26124 =>
 if t47_26124 = true then
 (drosslaw18_awake ).bind fun (r_26133 : Bool) =>
 some r_26133
 else
 if (r_26113.1.Rows.length : Int) = 0 then none else
 (idx r_26113.1.Rows (Int.tmod (IntKind.i64.wrap i_26110) (r_26113.1.Rows.length : Int))).bind fun (x_26139 : Row) =>
 (drossref03_Delete r_26113.1 x_26139.ID).bind fun (r_26143 : Table × Int) =>
 (denial_Violations r_26113.1 r_26117.1).bind (fun (before_33694, e_33695) =>
 (denial_Violations r_26143.1 r_26117.1).bind (fun (after_48796, f_48797) =>
 (delD x_26139 before_33694).bind (fun want_56412 =>
 if (e_33695 == 0) = true then
 if (f_48797 == 0) = true then
 (drossref18_Lists after_48796 want_56412).bind fun (r_56480 : Bool) =>
 some r_56480
 else
 some false
 else
 some false))))) := rfl
theorem delD_eq (a : Row) (l : List (List Int)) (hl : l.length ≤ 100000) (hs : ∀ z ∈ l, z.length ≤ 3) : delD a l = some (l.filter fun z => !decide (a.ID ∈ z)) := by
 have hi := IndexFunc_L18 l (fun y => drosslaw18_DenialFewer_1 y a.ID) (fun x => !(fun x => !decide (a.ID ∈ x)) x) (fun x hx => by simp [Fewer1_eq x a.ID (by have := hs x hx; omega)]) (by omega)
 unfold delD
 rw [hi, Option.bind_some]
 cases hfi : l.findIdx? (fun x => !(fun x => !decide (a.ID ∈ x)) x) with
 | none =>
  rw [List.findIdx?_eq_none_iff] at hfi
  have : l.filter (fun x => !decide (a.ID ∈ x)) = l := List.filter_eq_self.2 fun x hx => by have := hfi x hx; simpa using this
  rw [this]; rfl
 | some i =>
  obtain ⟨hil, hft⟩ := filter_first18 (fun x => !decide (a.ID ∈ x)) l i hfi
  have hne : (((i : Nat) : Int) == (-1)) = false := by simp
  have hw := wrap_nat (show i < 4611686018427387904 by omega)
  obtain ⟨s', i', h1, h2, h3, h4⟩ := del_loop18 l (fun x => !decide (a.ID ∈ x)) (drosslaw18_DenialFewer_l642 a)
   (fun s q j x hs' hx hlx hqj hj => by
    have hjs : (j : Int) < ((s.length : Nat) : Int) := by omega
    have hg : s[q]? = some s[q] := List.getElem?_eq_getElem (by omega)
    have hxl := hs x (List.mem_of_getElem? hlx)
    simp only [drosslaw18_DenialFewer_l642, if_pos hjs, idx_get hx, Option.bind_some, Fewer1_eq x a.ID (by omega), idx_get hg, Int.toNat_natCast, wrap_nat (show j < 4611686018427387904 by omega), wrap_nat (show q < 4611686018427387904 by omega)]
    by_cases hm : a.ID ∈ x <;> simp [hm])
   (fun s q hs => by simp [drosslaw18_DenialFewer_l642, hs]) (l.length - (i + 1)) (i + 1) l i (by omega) rfl (by omega) hft.symm (fun m _ => rfl)
  obtain ⟨t1, t2⟩ := cut_take18 s' i' l.length ([] : List Int) h2 h3
  have c2 : (0 : Int) ≤ (i' : Int) := by omega
  have c3 : (i' : Int) ≤ ((s'.length : Nat) : Int) := by omega
  have c4 : (i' : Int) ≤ ((((s'.take i').length + (List.replicate (s'.length - i') ([] : List Int)).length + (s'.drop (i' + (s'.length - i'))).length) : Nat) : Int) := by
   simp only [List.length_append] at t2; rw [t2]; omega
  have c5 : i' ≤ ((s'.take i' ++ List.replicate (s'.length - i') ([] : List Int)) ++ s'.drop (i' + (s'.length - i'))).length := by rw [t2]; exact h3
  simp only [hne, Bool.false_eq_true, if_false, hw, h1, Option.bind_some, if_pos c2, if_pos c3, Int.toNat_natCast, if_pos c4, if_pos c5, t1]
  rw [h4]
theorem DenialFewer_holds (x : Drossref03_Recipe) (r : Drossref18_Recipe) (i : Int) (h0 : okDrossref03_Recipe x) (h1 : okDrossref18_Recipe r) (h2 : okI .u8 i) : drosslaw18_DenialFewer x r i = some true := by
 have hi := okI_u8 h2
 rw [fewer_text]
 rcases recipe7 x h0 with ⟨t, ht, ha⟩ | ⟨t, ht, hok, G, hn, hat⟩
 ·have hof := Of_eq18 (n := t.Attrs.length) (by rw [ha]; simp) h1
  simp only [ht, hof, awake18, Option.bind_some, if_true, Bool.false_eq_true, if_false]
 ·have H := dt_of hok G hn
  have hof := Of_eq18 (n := t.Attrs.length) (by omega) h1
  by_cases h5 : (r.Atoms.length : Int) ≤ 5
  ·have hval := consN_valid (n := t.Attrs.length) (r := r) (by omega)
   obtain ⟨⟨hv1, hv2, hv3⟩, hatm⟩ := denB_parts hval
   by_cases hz : t.Rows.length = 0
   ·simp only [ht, hof, awake18, Option.bind_some, if_true, h5, decide_true, hz]
    rfl
   ·have hz1 : (((t.Rows.length : Nat) : Int) == 0) = false := by rw [beq_eq_false_iff_ne]; omega
    have hz2 : ¬ ((t.Rows.length : Nat) : Int) = 0 := by omega
    have hkl : i.toNat % t.Rows.length < t.Rows.length := Nat.mod_lt _ (by omega)
    obtain ⟨a, hk⟩ : ∃ a, t.Rows[i.toNat % t.Rows.length]? = some a := ⟨_, List.getElem?_eq_getElem hkl⟩
    have hwi : IntKind.i64.wrap i = i := wrap_i64 (by omega) (by omega)
    have hidx : idx t.Rows (Int.tmod i (t.Rows.length : Int)) = some a := by rw [tmod_nat hi.1]; exact idx_get hk
    have he1 := consN_err H (r := r) (by omega)
    have he2 : denErr (lessT t (i.toNat % t.Rows.length)) (consN t.Attrs.length r) = 0 := consN_err (less_dt H hk) (r := r) (by omega)
    have hb := viol_at H he1 (by omega)
    have hA := viol_at (less_dt H hk) he2 (by omega)
    have hsl := setO_len (violL t (consN t.Attrs.length r))
    have hvl := violL_len hn (d := consN t.Attrs.length r) hv2
    have hD := delD_eq a (setO (violL t (consN t.Attrs.length r))) (by omega) (fun z hz' => by rw [violL_short ((setO_mem _ _).1 hz')]; omega)
    rw [← viol_lessT H hk] at hD
    have hsl2 := setO_len (violL (lessT t (i.toNat % t.Rows.length)) (consN t.Attrs.length r))
    have hvl2 := violL_len (less_dt H hk).few (d := consN t.Attrs.length r) hv2
    have hLi := Lists_self (setO (violL (lessT t (i.toNat % t.Rows.length)) (consN t.Attrs.length r))) (by omega) (fun z hz' => by rw [violL_short ((setO_mem _ _).1 hz')]; omega)
    simp only [ht, hof, awake18, Option.bind_some, if_true, h5, decide_true, hz1, Bool.false_eq_true, if_false, if_neg hz2, hwi, hidx, Delete18 H hk, hb, hA, hD, beq_self_eq_true, hLi]
  ·simp only [ht, hof, awake18, Option.bind_some, if_true, h5, decide_false, Bool.false_eq_true, if_false]
end Go.Proofs.YtlaodgbkpmdhoaaGreatDoor
