/- The Lean functions that the program's functions are lifted to, and the plain laws about them. -/
import Derived.Test.YtlaodgbkpmdhoaaGreatDoorL1
/- Denial: constraints from order dependencies. -/
set_option linter.unusedVariables false
set_option linter.unusedSimpArgs false
namespace Go.Proofs.YtlaodgbkpmdhoaaGreatDoor
open Go Go.Ab

def lessA (a : Int) : Atom := ⟨atT 2 a, 3, atT 1 a⟩
def odPre (x : List Int) (i : Nat) : List Atom := (x.take i).map (bothA 1) ++ (match x[i]? with | some a => [bothA 3 a] | none => [])
def odDen (x y : List Int) (i j : Nat) : Denial := ⟨2, odPre x i ++ (y.take j).map (bothA 1) ++ [lessA (y.getD j 0)]⟩
def odL (x y : List Int) : List Denial := (List.range (x.length + 1)).flatMap fun i => (List.range y.length).map (odDen x y i)
theorem foldl_both : ∀ (l : List Int) (b : List Atom), l.foldl (fun b x => b ++ [bothA 1 x]) b = b ++ l.map (bothA 1)
  | [], b => by simp
  | x :: l, b => by rw [List.foldl_cons, foldl_both l]; simp
theorem take_loopP (l : List Int) (i : Nat) (hi : i ≤ l.length) (hl : l.length ≤ 8) (c : List Atom) (hc : c.length ≤ 100) (B : List Atom × Int → Option (LS (List Atom × Int) (List Atom)))
    (hB : ∀ (c : List Atom) (k : Int), B (c, k) = if k < ((l.take ((i : Int)).toNat).length : Int) then (idx (l.take ((i : Int)).toNat) k).bind fun x => (denial_both 1 x).bind fun r => if roomB (c.length + 1) 104 = true then some (.next ((c ++ [r]), (IntKind.i64.wrap (k + 1)))) else none else some (.done c)) :
    LoopF B (c, 0) = some (c ++ (l.take i).map (bothA 1)) := by
  have hlen : (l.take i).length ≤ 8 := by rw [List.length_take]; omega
  have h := LoopF_foldl (l.take i) (fun (b : List Atom) (k : Int) => (b, k)) B (fun b x => b ++ [bothA 1 x]) id (fun k b => b.length = c.length + k) (b0 := c) (s0 := (c, 0)) rfl rfl
    (fun k b x hx hk hI => by
      refine ⟨?_, by simp [hI]; omega⟩
      rw [hB, Int.toNat_natCast, if_pos (lt_true hx), idx_get hx]
      simp only [Option.bind_some, both_eq, room_le (show b.length + 1 ≤ 1073741824 by omega) (show 104 ≤ 65536 by omega), if_true, wrap_succ hk (show (l.take i).length ≤ 4611686018427387904 by omega)])
    (fun b _ => by rw [hB, Int.toNat_natCast, if_neg (by omega)]; rfl)
  rw [h, id, foldl_both]
theorem getD_g18 {l : List Int} {j : Nat} {a : Int} (h : l[j]? = some a) : l.getD j 0 = a := by rw [List.getD_eq_getElem?_getD, h]; rfl
theorem od_l30 (x y : List Int) (hx : x.length ≤ 8) (hy : y.length ≤ 8) (i : Nat) (hi : i ≤ x.length) (out : List Denial) (ho : out.length ≤ 1000) :
    LoopF (denial_FromOD_l30 ⟨x, y⟩ (i : Int)) (out, 0) = some (out ++ (List.range y.length).map (odDen x y i)) := by
  have h := LoopF_foldl (List.range y.length) (fun (b : List Denial) (k : Int) => (b, k)) (denial_FromOD_l30 ⟨x, y⟩ (i : Int)) (fun b j => b ++ [odDen x y i j]) id (fun k b => b.length = out.length + k) (b0 := out) (s0 := (out, 0)) rfl rfl
    (fun k b j hj hk hI => by
      rw [List.length_range] at hk
      obtain ⟨rfl, _⟩ := range_at hj
      refine ⟨?_, by simp [hI]; omega⟩
      have hyj : y[j]? = some (y[j]'hk) := List.getElem?_eq_getElem hk
      have e27 := take_loopP x i hi hx [] (by simp) (denial_FromOD_l27 ⟨x, y⟩ (i : Int)) (fun c k => rfl)
      have hmap : ((x.take i).map (bothA 1)).length ≤ 8 := by rw [List.length_map, List.length_take]; omega
      have hty : ((y.take j).map (bothA 1)).length ≤ 8 := by rw [List.length_map, List.length_take]; omega
      rw [List.nil_append] at e27
      simp only [denial_FromOD_l30, if_pos (show (j : Int) < (y.length : Int) by omega), if_pos (show (0 : Int) ≤ (i : Int) by omega), if_pos (show (i : Int) ≤ (x.length : Int) by omega), e27, Option.bind_some, if_pos (show (0 : Int) ≤ (j : Int) by omega), if_pos (show (j : Int) ≤ (y.length : Int) by omega)]
      by_cases hlt : i < x.length
      · have hxi : x[i]? = some (x[i]'hlt) := List.getElem?_eq_getElem hlt
        have e28 := take_loopP y j (by omega) hy ((x.take i).map (bothA 1) ++ [bothA 3 (x[i]'hlt)]) (by simp at hmap ⊢; omega) (denial_FromOD_l28 ⟨x, y⟩ (j : Int)) (fun c k => rfl)
        simp only [if_pos (show (i : Int) < (x.length : Int) by omega), idx_get hxi, Option.bind_some, both_eq, room_le (show ((x.take i).map (bothA 1)).length + 1 ≤ 1073741824 by omega) (show 104 ≤ 65536 by omega), if_true, e28, idx_get hyj, denial_of]
        rw [if_pos (room_le (by simp at hmap hty ⊢; omega) (by omega)), if_pos (room_le (by omega) (by omega)), wrap_succ hk (by omega)]
        simp only [odDen, odPre, hxi, getD_g18 hyj]
        rfl
      · have hxi : x[i]? = none := List.getElem?_eq_none (by omega)
        have e29 := take_loopP y j (by omega) hy ((x.take i).map (bothA 1)) (by omega) (denial_FromOD_l29 ⟨x, y⟩ (j : Int)) (fun c k => rfl)
        simp only [if_neg (show ¬ (i : Int) < (x.length : Int) by omega), e29, Option.bind_some, idx_get hyj, denial_of]
        rw [if_pos (room_le (by simp at hmap hty ⊢; omega) (by omega)), if_pos (room_le (by omega) (by omega)), wrap_succ hk (by omega)]
        simp only [odDen, odPre, hxi, getD_g18 hyj, List.append_nil]
        rfl)
    (fun b _ => by simp [denial_FromOD_l30])
  have key : ∀ (l : List Nat) (b : List Denial), l.foldl (fun b j => b ++ [odDen x y i j]) b = b ++ l.map (odDen x y i) := by
    intro l
    induction l with
    | nil => intro b; simp
    | cons z l ih => intro b; rw [List.foldl_cons, ih]; simp
  rw [h, id, key]
theorem od_outer (x y : List Int) (hx : x.length ≤ 8) (hy : y.length ≤ 8) (B : List Denial × Int → Option (LS (List Denial × Int) (List Denial)))
    (hB : ∀ (i : Nat) (out : List Denial), i ≤ x.length → out.length ≤ 1000 → B (out, (i : Int)) = some (.next (out ++ (List.range y.length).map (odDen x y i), IntKind.i64.wrap ((i : Int) + 1))))
    (hE : ∀ out, B (out, ((x.length + 1 : Nat) : Int)) = some (.done out)) : LoopF B ([], 0) = some (odL x y) := by
  have h := LoopF_foldl (List.range (x.length + 1)) (fun (b : List Denial) (k : Int) => (b, k)) B (fun b i => b ++ (List.range y.length).map (odDen x y i)) id (fun k b => b.length = k * y.length) (b0 := []) (s0 := ([], 0)) rfl (by simp)
    (fun k b i hi hk hI => by
      rw [List.length_range] at hk
      obtain ⟨rfl, _⟩ := range_at hi
      refine ⟨?_, by simp [hI, Nat.succ_mul]⟩
      have : i * y.length ≤ 8 * 8 := Nat.mul_le_mul (by omega) hy
      rw [hB i b (by omega) (by omega), wrap_nat (by omega)])
    (fun b _ => by rw [List.length_range]; exact hE b)
  have key : ∀ (l : List Nat) (b : List Denial), l.foldl (fun b i => b ++ (List.range y.length).map (odDen x y i)) b = b ++ l.flatMap fun i => (List.range y.length).map (odDen x y i) := by
    intro l
    induction l with
    | nil => intro b; simp
    | cons z l ih => intro b; rw [List.foldl_cons, ih, List.flatMap_cons, List.append_assoc]
  rw [h, id, key, List.nil_append]
  rfl
theorem onceL_len18 (l : List Int) : (onceL l).length ≤ l.length := by
  have key : ∀ (l o : List Int), (l.foldl onceF o).length ≤ o.length + l.length := by
    intro l
    induction l with
    | nil => intro o; simp
    | cons x l ih =>
      intro o
      rw [List.foldl_cons]
      have h1 := ih (onceF o x)
      have h2 := onceF_len o x
      simp only [List.length_cons]; omega
  have := key l []
  simpa [onceL] using this
theorem listB_len {n : Int} {l : List Int} (h : listB n l = true) : l.length ≤ 8 := by
  simp only [listB, Bool.and_eq_true, decide_eq_true_eq] at h
  omega
def odOk (n : Int) (d : OD) : Bool := decide (0 ≤ n ∧ n ≤ 16) && validB n d
def odR (n : Int) (d : OD) : List Denial × Int := if odOk n d = true then (odL (onceL d.Lhs) (onceL d.Rhs), 0) else ([], 1)
theorem FromOD_eq (n : Int) (d : OD) (h1 : d.Lhs.length ≤ 1048576) (h2 : d.Rhs.length ≤ 1048576) : denial_FromOD n d = some (odR n d) := by
  unfold denial_FromOD denial_inRange odR odOk
  by_cases hn : n ≥ 0
  · rw [if_pos hn, Option.bind_some]
    by_cases hn2 : n ≤ 16
    · simp only [hn2, decide_true, if_true, Valid_eq n d (by omega) (by omega), Option.bind_some, hn, and_self, Bool.true_and]
      cases hv : validB n d with
      | false => rfl
      | true =>
        simp only [if_true, Normal_eq d h1 h2, Option.bind_some]
        simp only [validB, Bool.and_eq_true] at hv
        have hx : (onceL d.Lhs).length ≤ 8 := Nat.le_trans (onceL_len18 _) (listB_len hv.1)
        have hy : (onceL d.Rhs).length ≤ 8 := Nat.le_trans (onceL_len18 _) (listB_len hv.2)
        have hw : IntKind.i64.wrap (((onceL d.Lhs).length : Int) + 1) = (((onceL d.Lhs).length + 1 : Nat) : Int) := wrap_nat (by omega)
        rw [od_outer (onceL d.Lhs) (onceL d.Rhs) hx hy (denial_FromOD_l31 ⟨onceL d.Lhs, onceL d.Rhs⟩) (fun i out hi ho => by
          simp only [denial_FromOD_l31, hw, if_pos (show (i : Int) < (((onceL d.Lhs).length + 1 : Nat) : Int) by omega), od_l30 _ _ hx hy i hi out ho, Option.bind_some])
          (fun out => by simp only [denial_FromOD_l31, hw, if_neg (show ¬ (((onceL d.Lhs).length + 1 : Nat) : Int) < (((onceL d.Lhs).length + 1 : Nat) : Int) by omega)])]
        rfl
    · simp [hn2]
  · rw [if_neg hn, Option.bind_some]; simp [hn]
end Go.Proofs.YtlaodgbkpmdhoaaGreatDoor
/- Denial: matrices of what is known about terms. -/
set_option linter.unusedVariables false
set_option linter.unusedSimpArgs false
namespace Go.Ab
open Go
abbrev FnM := Nat → Nat → Int
def rowF (n : Nat) (F : FnM) (i : Nat) : List Int := (List.range n).map (F i)
def matF (n : Nat) (F : FnM) : List (List Int) := (List.range n).map (rowF n F)
def updM (F : FnM) (i j : Nat) (v : Int) : FnM := fun a b => if a = i ∧ b = j then v else F a b
def supM (n : Nat) (F : FnM) : Prop := ∀ i j, n ≤ i ∨ n ≤ j → F i j = 0
def zeroF : FnM := fun _ _ => 0
theorem matF_len (n : Nat) (F : FnM) : (matF n F).length = n := by simp [matF]
theorem rowF_len (n : Nat) (F : FnM) (i : Nat) : (rowF n F i).length = n := by simp [rowF]
theorem matF_get {n : Nat} {F : FnM} {i : Nat} (h : i < n) : (matF n F)[i]? = some (rowF n F i) := by
  unfold matF; rw [List.getElem?_map, List.getElem?_range h]; rfl
theorem rowF_get {n : Nat} {F : FnM} {i j : Nat} (h : j < n) : (rowF n F i)[j]? = some (F i j) := by
  unfold rowF; rw [List.getElem?_map, List.getElem?_range h]; rfl
theorem matF_set {n : Nat} {F : FnM} {i j : Nat} {v : Int} (hi : i < n) (hj : j < n) : (matF n F).set i ((rowF n F i).set j v) = matF n (updM F i j v) := by
  apply List.ext_getElem?
  intro a
  by_cases ha : a < n
  · rw [matF_get ha]
    by_cases hai : a = i
    · subst hai
      rw [List.getElem?_set_self (by rw [matF_len]; exact ha)]
      congr 1
      apply List.ext_getElem?
      intro b
      by_cases hb : b < n
      · rw [rowF_get hb]
        by_cases hbj : b = j
        · subst hbj
          rw [List.getElem?_set_self (by rw [rowF_len]; exact hb)]
          simp [updM]
        · rw [List.getElem?_set_ne (fun e => hbj e.symm), rowF_get hb]
          simp [updM, hbj]
      · rw [List.getElem?_eq_none (by rw [List.length_set, rowF_len]; omega), List.getElem?_eq_none (by rw [rowF_len]; omega)]
    · rw [List.getElem?_set_ne (fun e => hai e.symm), matF_get ha]
      congr 1
      unfold rowF
      apply List.map_congr_left
      intro b _
      simp [updM, hai]
  · rw [List.getElem?_eq_none (by rw [List.length_set, matF_len]; omega), List.getElem?_eq_none (by rw [matF_len]; omega)]
theorem matF_grow {n : Nat} {F : FnM} (h : supM n F) : (matF n F).map (fun x => x ++ [0]) ++ [List.replicate (n + 1) 0] = matF (n + 1) F := by
  have hrow : ∀ i, rowF (n + 1) F i = rowF n F i ++ [F i n] := fun i => by unfold rowF; rw [List.range_succ, List.map_append]; rfl
  unfold matF
  rw [List.range_succ, List.map_append, List.map_map]
  congr 1
  · apply List.map_congr_left
    intro i _
    show rowF n F i ++ [0] = rowF (n + 1) F i
    rw [hrow, h i n (.inr (Nat.le_refl _))]
  · rw [List.map_singleton]
    congr 1
    apply List.ext_getElem?
    intro j
    by_cases hj : j < n + 1
    · rw [rowF_get hj, h n j (.inl (Nat.le_refl _))]
      simp [hj]
    · rw [List.getElem?_eq_none (by simp; omega), List.getElem?_eq_none (by rw [rowF_len]; omega)]
theorem supM_upd {n : Nat} {F : FnM} {i j : Nat} {v : Int} (h : supM n F) (hi : i < n) (hj : j < n) : supM n (updM F i j v) := by
  intro a b hab
  unfold updM
  rw [if_neg (by omega)]
  exact h a b hab
theorem supM_le {n m : Nat} {F : FnM} (h : supM n F) (hm : n ≤ m) : supM m F := fun i j hij => h i j (by omega)
/-- the loop that adds a column -/
theorem grow_loop18 (M : List (List Int)) (n : Nat) (hn : M.length = n) (hle : n ≤ 1000) (hr : ∀ x ∈ M, x.length ≤ 1000) (B : List (List Int) × Int → Option (LS (List (List Int) × Int) (List (List Int))))
    (hB : ∀ (o : List (List Int)) (k : Int), B (o, k) = if n ≤ o.length then (if k < (n : Int) then (idx o k).bind fun x => if roomB (x.length + 1) 8 = true then some (.next ((o.set k.toNat (x ++ [0])), (IntKind.i64.wrap (k + 1)))) else none else some (.done o)) else none) :
    LoopF B (M, 0) = some (M.map fun x => x ++ [0]) := by
  have h := LoopF_foldl M (fun (_ : Unit) (i : Int) => ((M.take i.toNat).map (fun x => x ++ [0]) ++ M.drop i.toNat, i)) B (fun b _ => b) (fun _ => M.map fun x => x ++ [0]) (fun _ _ => True) (b0 := ()) (s0 := (M, 0)) (by simp) trivial
    (fun k b x hx hk _ => by
      refine ⟨?_, trivial⟩
      simp only [Int.toNat_natCast]
      have hlen : ((M.take k).map (fun x => x ++ [0]) ++ M.drop k).length = M.length := by simp; omega
      have hd : M.drop k = x :: M.drop (k + 1) := by
        have := List.drop_eq_getElem_cons hk
        rw [this]; congr 1
        rw [List.getElem?_eq_getElem hk] at hx
        exact Option.some.inj hx
      have hg : ((M.take k).map (fun x => x ++ [0]) ++ M.drop k)[k]? = some x := by
        rw [List.getElem?_append_right (by simp; omega), List.length_map, List.length_take, Nat.min_eq_left (by omega), Nat.sub_self, hd]; rfl
      have hxl := hr x (List.mem_of_getElem? hx)
      rw [hB, if_pos (by omega), if_pos (by omega), idx_get hg, Option.bind_some, if_pos (room8 (by omega)), Int.toNat_natCast, wrap_succ hk (by omega)]
      congr 3
      rw [List.set_append_right _ _ (by simp; omega), List.length_map, List.length_take, Nat.min_eq_left (by omega), Nat.sub_self, hd, List.set_cons_zero, List.take_add_one, hx, List.map_append]
      simp)
    (fun b _ => by
      rw [hB, if_pos (by simp; omega), if_neg (by omega)]
      simp)
  exact h
/-! ### the closure -/
def mx3 (a b c : Int) : Int := max a (max b c)
def stepC18 (k i : Nat) (F : FnM) (j : Nat) : FnM := if 0 < F i k ∧ 0 < F k j then updM F i j (mx3 (F i j) (F i k) (F k j)) else F
def rowC18 (n k : Nat) (F : FnM) (i : Nat) : FnM := (List.range n).foldl (stepC18 k i) F
def layC18 (n : Nat) (F : FnM) (k : Nat) : FnM := (List.range n).foldl (rowC18 n k) F
def closeF (n : Nat) (F : FnM) : FnM := (List.range n).foldl (layC18 n) F
/-- a loop over the numbers below n that changes a matrix -/
theorem mat_loop (n : Nat) (hn : n ≤ 1000) (B : List (List Int) × Int → Option (LS (List (List Int) × Int) (List (List Int)))) (g : FnM → Nat → FnM)
    (hB : ∀ (F : FnM) (k : Nat), k < n → B (matF n F, (k : Int)) = some (.next (matF n (g F k), IntKind.i64.wrap ((k : Int) + 1)))) (hE : ∀ F, B (matF n F, (n : Int)) = some (.done (matF n F))) (F : FnM) :
    LoopF B (matF n F, 0) = some (matF n ((List.range n).foldl g F)) := by
  have h := LoopF_foldl (List.range n) (fun (F : FnM) (i : Int) => (matF n F, i)) B g (fun F => matF n F) (fun _ _ => True) (b0 := F) (s0 := (matF n F, 0)) rfl trivial
    (fun k F x hx hk _ => by
      rw [List.length_range] at hk
      obtain ⟨rfl, _⟩ := Go.Proofs.YtlaodgbkpmdhoaaGreatDoor.range_at hx
      exact ⟨by rw [hB F x hk, wrap_succ hk (by omega)], trivial⟩)
    (fun F _ => by rw [List.length_range]; exact hE F)
  exact h
theorem ite_max (a b : Int) : (if b > a then b else a) = max a b := by
  by_cases h : b > a
  · rw [if_pos h, Int.max_eq_right (by omega)]
  · rw [if_neg h, Int.max_eq_left (by omega)]
end Go.Ab
namespace Go.Proofs.YtlaodgbkpmdhoaaGreatDoor
open Go Go.Ab
theorem clo_47 (T : List Term) {n : Nat} (hT : T.length = n) (hn : n ≤ 1000) (M : List (List Int)) (hM : M.length = n) {k i : Nat} (hk : k < n) (hi : i < n) (F : FnM) :
    LoopF (denial_Contradictory_l47 T M (k : Int) (i : Int)) (matF n F, 0) = some (matF n (rowC18 n k F i)) := by
  refine mat_loop n hn _ (stepC18 k i) (fun F j hj => ?_) (fun F => ?_) F
  · have e1 := matF_get (F := F) hi
    have e2 := matF_get (F := F) hk
    have e3 := rowF_get (F := F) (i := i) hk
    have e4 := rowF_get (F := F) (i := k) hj
    have e5 := rowF_get (F := F) (i := i) hj
    simp only [denial_Contradictory_l47, matF_len, hM, Nat.le_refl, if_true, hT, if_pos (show (j : Int) < (n : Int) by omega), idx_get e1, idx_get e2, idx_get e3, idx_get e4, idx_get e5, Option.bind_some]
    unfold stepC18
    by_cases h1 : 0 < F i k
    · simp only [if_pos (show F i k > 0 from h1), Option.bind_some]
      by_cases h2 : 0 < F k j
      · simp only [if_pos (show 0 < F i k ∧ 0 < F k j from ⟨h1, h2⟩), show decide (F k j > 0) = true by simpa using h2, if_true, Int.toNat_natCast, matF_set hi hj, ite_max]
        rfl
      · simp only [if_neg (show ¬ (0 < F i k ∧ 0 < F k j) from fun h => h2 h.2), show decide (F k j > 0) = false by simpa using h2, Bool.false_eq_true, if_false]
    · simp only [if_neg (show ¬ (F i k > 0) from h1), Option.bind_some, if_neg (show ¬ (0 < F i k ∧ 0 < F k j) from fun h => h1 h.1), Bool.false_eq_true, if_false]
  · simp [denial_Contradictory_l47, matF_len, hM, hT]
theorem clo_48 (T : List Term) {n : Nat} (hT : T.length = n) (hn : n ≤ 1000) (M : List (List Int)) (hM : M.length = n) {k : Nat} (hk : k < n) (F : FnM) :
    LoopF (denial_Contradictory_l48 T M (k : Int)) (matF n F, 0) = some (matF n (layC18 n F k)) := by
  refine mat_loop n hn _ (rowC18 n k) (fun F i hi => ?_) (fun F => ?_) F
  · simp only [denial_Contradictory_l48, matF_len, hM, Nat.le_refl, if_true, hT, if_pos (show (i : Int) < (n : Int) by omega), clo_47 T hT hn M hM hk hi, Option.bind_some]
  · simp [denial_Contradictory_l48, matF_len, hM, hT]
theorem clo_49 (T : List Term) {n : Nat} (hT : T.length = n) (hn : n ≤ 1000) (M : List (List Int)) (hM : M.length = n) (F : FnM) :
    LoopF (denial_Contradictory_l49 T M) (matF n F, 0) = some (matF n (closeF n F)) := by
  refine mat_loop n hn _ (layC18 n) (fun F i hi => ?_) (fun F => ?_) F
  · simp only [denial_Contradictory_l49, matF_len, hM, Nat.le_refl, if_true, hT, if_pos (show (i : Int) < (n : Int) by omega), clo_48 T hT hn M hM hi, Option.bind_some]
  · simp [denial_Contradictory_l49, matF_len, hM, hT]
/-- constants -/
def cLess (a b : Term) : Bool := decide (a.Var = 0) && (decide (b.Var = 0) && decide (vcmp a.Value b.Value < 0))
def putM (F : FnM) (i j : Nat) (w : Int) : FnM := updM F i j (max (F i j) w)
def termAt (T : List Term) (i : Nat) : Term := T.getD i ⟨0, 0, ⟨0, 0, []⟩⟩
def constRow (T : List Term) (i : Nat) (F : FnM) (j : Nat) : FnM := if cLess (termAt T i) (termAt T j) = true then putM F i j 2 else F
def constM (T : List Term) (F : FnM) : FnM := (List.range T.length).foldl (fun F i => (List.range T.length).foldl (constRow T i) F) F
theorem termAt_get {T : List Term} {i : Nat} (h : i < T.length) : T[i]? = some (termAt T i) := by
  unfold termAt
  rw [List.getD_eq_getElem?_getD, List.getElem?_eq_getElem h]; rfl
theorem const_22 (T : List Term) (hn : T.length ≤ 1000) {i : Nat} (hi : i < T.length) (F : FnM) : LoopF (denial_Contradictory_l22 T (i : Int) (termAt T i)) (matF T.length F, 0) = some (matF T.length ((List.range T.length).foldl (constRow T i) F)) := by
  refine mat_loop T.length hn _ (constRow T i) (fun F j hj => ?_) (fun F => ?_) F
  · have e1 := matF_get (F := F) hi
    have e2 := rowF_get (F := F) (i := i) hj
    have ht := termAt_get hj
    simp only [denial_Contradictory_l22, if_pos (show (j : Int) < ((T.length : Nat) : Int) by omega), idx_get ht, Option.bind_some]
    unfold constRow cLess
    by_cases h1 : (termAt T i).Var = 0
    · rw [if_pos (by simpa using h1)]
      by_cases h2 : (termAt T j).Var = 0
      · rw [if_pos (by simpa using h2)]
        simp only [value_Compare_eq, Option.bind_some, h1, h2, decide_true, Bool.true_and]
        cases decide (vcmp (termAt T i).Value (termAt T j).Value < 0) with
        | true =>
          simp only [if_true, idx_get e1, idx_get e2, Option.bind_some, Int.toNat_natCast, matF_set hi hj, ite_max]
          rfl
        | false => simp only [Bool.false_eq_true, if_false]
      · rw [if_neg (by simpa using h2)]
        simp [h2]
    · rw [if_neg (by simpa using h1)]
      simp [h1]
  · simp [denial_Contradictory_l22]
theorem const_23 (T : List Term) (hn : T.length ≤ 1000) (F : FnM) : LoopF (denial_Contradictory_l23 T) (matF T.length F, 0) = some (matF T.length (constM T F)) := by
  refine mat_loop T.length hn _ (fun F i => (List.range T.length).foldl (constRow T i) F) (fun F i hi => ?_) (fun F => ?_) F
  · have ht := termAt_get hi
    simp only [denial_Contradictory_l23, if_pos (show (i : Int) < ((T.length : Nat) : Int) by omega), idx_get ht, Option.bind_some, const_22 T hn hi]
  · simp [denial_Contradictory_l23]
end Go.Proofs.YtlaodgbkpmdhoaaGreatDoor
/- Denial: what Contradictory computes. -/
set_option linter.unusedVariables false
set_option linter.unusedSimpArgs false
namespace Go.Proofs.YtlaodgbkpmdhoaaGreatDoor
open Go Go.Ab

theorem teq_eq (v x : Term) : ((v.Var == x.Var) && ((v.Attr == x.Attr) && ((v.Value.Kind == x.Value.Kind) && ((v.Value.Num == x.Value.Num) && (v.Value.Str == x.Value.Str))))) = decide (x = v) := by
  obtain ⟨a, b, ⟨c, d, e⟩⟩ := v
  obtain ⟨a', b', ⟨c', d', e'⟩⟩ := x
  rw [Bool.eq_iff_iff]
  simp only [Bool.and_eq_true, beq_iff_eq, decide_eq_true_eq, Term.mk.injEq, Value.mk.injEq]
  constructor
  · rintro ⟨rfl, rfl, rfl, rfl, rfl⟩; exact ⟨rfl, rfl, rfl, rfl, rfl⟩
  · rintro ⟨rfl, rfl, rfl, rfl, rfl⟩; exact ⟨rfl, rfl, rfl, rfl, rfl⟩
def posT (T : List Term) (t : Term) : Nat := (T.findIdx? fun y => decide (y = t)).getD T.length
theorem posT_mem {T : List Term} {t : Term} (h : t ∈ T) : (T.findIdx? fun y => decide (y = t)) = some (posT T t) ∧ posT T t < T.length := by
  unfold posT
  cases hf : T.findIdx? fun y => decide (y = t) with
  | none =>
    rw [List.findIdx?_eq_none_iff] at hf
    have := hf t h
    simp at this
  | some i =>
    rw [List.findIdx?_eq_some_iff_getElem] at hf
    obtain ⟨hi, _⟩ := hf
    exact ⟨rfl, hi⟩
theorem posT_not {T : List Term} {t : Term} (h : t ∉ T) : (T.findIdx? fun y => decide (y = t)) = none ∧ posT T t = T.length := by
  have hf : (T.findIdx? fun y => decide (y = t)) = none := by
    rw [List.findIdx?_eq_none_iff]
    intro x hx
    simp only [decide_eq_false_iff_not]
    rintro rfl; exact h hx
  exact ⟨hf, by unfold posT; rw [hf]; rfl⟩
theorem Index_Term_eq (T : List Term) (t : Term) (hl : T.length ≤ 1000000) : slices_Index_Term T t = some (if t ∈ T then (posT T t : Int) else -1) := by
  have h := LoopF_find T (slices_Index_Term_l1 T t) (fun y => decide (y = t))
    (fun k x hx hk hp => by simp only [slices_Index_Term_l1, if_pos (lt_true hx), idx_get hx, Option.bind_some, teq_eq, hp, Bool.false_eq_true, if_false, wrap_succ hk (show T.length ≤ 4611686018427387904 by omega)])
    (fun k x hx hp => by simp only [slices_Index_Term_l1, if_pos (lt_true hx), idx_get hx, Option.bind_some, teq_eq, hp, if_true])
    (by simp [slices_Index_Term_l1])
  unfold slices_Index_Term
  rw [h, Option.bind_some]
  by_cases hm : t ∈ T
  · rw [if_pos hm, (posT_mem hm).1]
  · rw [if_neg hm, (posT_not hm).1]
def nodeT (T : List Term) (t : Term) : List Term := if t ∈ T then T else T ++ [t]
def nodeF (T : List Term) (F : FnM) (t : Term) : FnM := if t ∈ T then F else updM F T.length T.length 1
def putsA (op : Int) (l r : Nat) (F : FnM) : FnM := if op = 1 then putM (putM F l r 1) r l 1 else if op = 3 then putM F l r 2 else if op = 4 then putM F l r 1 else F
def stepA18 (S : List Term × FnM) (a : Atom) : List Term × FnM :=
  (nodeT (nodeT S.1 a.Left) a.Right, putsA a.Op (posT S.1 a.Left) (posT (nodeT S.1 a.Left) a.Right) (nodeF (nodeT S.1 a.Left) (nodeF S.1 S.2 a.Left) a.Right))
theorem nodeT_len (T : List Term) (t : Term) : T.length ≤ (nodeT T t).length ∧ (nodeT T t).length ≤ T.length + 1 ∧ posT T t < (nodeT T t).length := by
  unfold nodeT
  by_cases h : t ∈ T
  · rw [if_pos h]; exact ⟨by omega, by omega, (posT_mem h).2⟩
  · rw [if_neg h, (posT_not h).2]; simp
theorem node_sup {T : List Term} {F : FnM} (t : Term) (h : supM T.length F) : supM (nodeT T t).length (nodeF T F t) := by
  unfold nodeT nodeF
  by_cases hm : t ∈ T
  · rw [if_pos hm, if_pos hm]; exact h
  · rw [if_neg hm, if_neg hm]
    rw [show (T ++ [t]).length = T.length + 1 by simp]
    exact supM_upd (supM_le h (by omega)) (by omega) (by omega)
theorem putM_sup {n : Nat} {F : FnM} {i j : Nat} {w : Int} (h : supM n F) (hi : i < n) (hj : j < n) : supM n (putM F i j w) := supM_upd h hi hj
theorem putsA_sup {n : Nat} {F : FnM} {l r : Nat} (op : Int) (h : supM n F) (hl : l < n) (hr : r < n) : supM n (putsA op l r F) := by
  unfold putsA
  split
  · exact putM_sup (putM_sup h hl hr) hr hl
  · split
    · exact putM_sup h hl hr
    · split
      · exact putM_sup h hl hr
      · exact h
theorem step_sup {S : List Term × FnM} (a : Atom) (h : supM S.1.length S.2) : supM (stepA18 S a).1.length (stepA18 S a).2 := by
  have h1 := nodeT_len S.1 a.Left
  have h2 := nodeT_len (nodeT S.1 a.Left) a.Right
  exact putsA_sup _ (node_sup a.Right (node_sup a.Left h)) (show posT S.1 a.Left < (nodeT (nodeT S.1 a.Left) a.Right).length by omega) h2.2.2
theorem step_len (S : List Term × FnM) (a : Atom) : S.1.length ≤ (stepA18 S a).1.length ∧ (stepA18 S a).1.length ≤ S.1.length + 2 := by
  have h1 := nodeT_len S.1 a.Left
  have h2 := nodeT_len (nodeT S.1 a.Left) a.Right
  show S.1.length ≤ (nodeT (nodeT S.1 a.Left) a.Right).length ∧ (nodeT (nodeT S.1 a.Left) a.Right).length ≤ S.1.length + 2
  omega
theorem rows_short {n : Nat} (hn : n ≤ 1000) {F : FnM} : ∀ x ∈ matF n F, x.length ≤ 1000 := by
  intro x hx
  obtain ⟨i, _, rfl⟩ := List.mem_map.1 hx
  rw [rowF_len]; exact hn
theorem last_nat {n : Nat} (h : n ≤ 1000000) : (IntKind.i64.wrap ((((n + 1) : Nat) : Int) - 1)) = (n : Int) := wrap_last h
/-- the rest of node -/
theorem node_tail {α : Type} {n : Nat} (hn : n ≤ 900) {F : FnM} (hs : supM n F) (K : List Int → List (List Int) → Option α) :
    (if 0 ≤ (((n + 1) : Nat) : Int) then (if roomB (n + 1) 8 = true then (if roomB (((matF n F).map fun x => x ++ [0]).length + 1) 24 = true then
      (idx (((matF n F).map fun x => x ++ [0]) ++ [(List.replicate (n + 1) 0)]) (IntKind.i64.wrap ((((n + 1) : Nat) : Int) - 1))).bind fun (x : List Int) =>
      (idx x (IntKind.i64.wrap ((((n + 1) : Nat) : Int) - 1))).bind fun (y : Int) =>
      K x ((((matF n F).map fun x => x ++ [0]) ++ [(List.replicate (n + 1) 0)]).set ((IntKind.i64.wrap ((((n + 1) : Nat) : Int) - 1)).toNat) (x.set (IntKind.i64.wrap ((((n + 1) : Nat) : Int) - 1)).toNat 1))
      else none) else none) else none) = K (rowF (n + 1) F n) (matF (n + 1) (updM F n n 1)) := by
  rw [matF_grow hs, last_nat (by omega), if_pos (by omega), if_pos (room8 (by omega)), if_pos (room_le (by rw [List.length_map, matF_len]; omega) (by omega))]
  rw [idx_get (matF_get (show n < n + 1 by omega)), Option.bind_some, idx_get (rowF_get (show n < n + 1 by omega)), Option.bind_some, Int.toNat_natCast, matF_set (by omega) (by omega)]
theorem puts_eq {n : Nat} {F : FnM} {l r : Nat} (hl : l < n) (hr : r < n) (T : List Term) (op k : Int) {τ : Type} :
    (if (op == 1) = true then
      (idx (matF n F) (l : Int)).bind fun (x : List Int) => (idx x (r : Int)).bind fun (y : Int) =>
      (idx ((matF n F).set ((l : Int)).toNat (x.set ((r : Int)).toNat (if 1 > y then 1 else y))) (r : Int)).bind fun (x2 : List Int) => (idx x2 (l : Int)).bind fun (y2 : Int) =>
      some (LS.next (T, (((matF n F).set ((l : Int)).toNat (x.set ((r : Int)).toNat (if 1 > y then 1 else y))).set ((r : Int)).toNat (x2.set ((l : Int)).toNat (if 1 > y2 then 1 else y2))), k))
    else if (op == 3) = true then
      (idx (matF n F) (l : Int)).bind fun (x : List Int) => (idx x (r : Int)).bind fun (y : Int) =>
      some (LS.next (T, ((matF n F).set ((l : Int)).toNat (x.set ((r : Int)).toNat (if 2 > y then 2 else y))), k))
    else if (op == 4) = true then
      (idx (matF n F) (l : Int)).bind fun (x : List Int) => (idx x (r : Int)).bind fun (y : Int) =>
      some (LS.next (T, ((matF n F).set ((l : Int)).toNat (x.set ((r : Int)).toNat (if 1 > y then 1 else y))), k))
    else some (LS.next (T, matF n F, k))) = (some (LS.next (T, matF n (putsA op l r F), k)) : Option (LS (List Term × List (List Int) × Int) τ)) := by
  have e1 := matF_get (F := F) hl
  have e2 := rowF_get (F := F) (i := l) hr
  unfold putsA
  by_cases h1 : op = 1
  · have e3 := matF_get (F := putM F l r 1) hr
    have e4 := rowF_get (F := putM F l r 1) (i := r) hl
    unfold putM at e3 e4
    rw [if_pos (by simpa using h1), if_pos h1]
    simp only [idx_get e1, idx_get e2, Option.bind_some, Int.toNat_natCast, matF_set hl hr, ite_max, idx_get e3, idx_get e4, matF_set hr hl]
    rfl
  · rw [if_neg (by simpa using h1), if_neg h1]
    by_cases h3 : op = 3
    · rw [if_pos (by simpa using h3), if_pos h3]
      simp only [idx_get e1, idx_get e2, Option.bind_some, Int.toNat_natCast, matF_set hl hr, ite_max]
      rfl
    · rw [if_neg (by simpa using h3), if_neg h3]
      by_cases h4 : op = 4
      · rw [if_pos (by simpa using h4), if_pos h4]
        simp only [idx_get e1, idx_get e2, Option.bind_some, Int.toNat_natCast, matF_set hl hr, ite_max]
        rfl
      · rw [if_neg (by simpa using h4), if_neg h4]
theorem l19_step (atoms : List Atom) {T : List Term} {F : FnM} {k : Nat} {a : Atom} (hk : atoms[k]? = some a) (hn : T.length ≤ 500) (hs : supM T.length F) :
    denial_Contradictory_l19 atoms (T, matF T.length F, (k : Int)) = some (.next ((stepA18 (T, F) a).1, matF (stepA18 (T, F) a).1.length (stepA18 (T, F) a).2, IntKind.i64.wrap ((k : Int) + 1))) := by
  have i1 := Index_Term_eq T a.Left (by omega)
  have i2 := Index_Term_eq T a.Right (by omega)
  have g0 : LoopF (denial_Contradictory_l16 (matF T.length F)) (matF T.length F, 0) = some ((matF T.length F).map fun x => x ++ [0]) :=
    grow_loop18 (matF T.length F) T.length (matF_len _ _) (by omega) (rows_short (by omega)) _ (fun o k => by simp only [denial_Contradictory_l16, matF_len])
  have g0' : LoopF (denial_Contradictory_l17 (matF T.length F)) (matF T.length F, 0) = some ((matF T.length F).map fun x => x ++ [0]) := g0
  have hlen0 : (matF T.length F).length ≤ ((matF T.length F).map fun x => x ++ [0]).length := by rw [List.length_map]; exact Nat.le_refl _
  by_cases hL : a.Left ∈ T
  · obtain ⟨_, hl⟩ := posT_mem hL
    have hT1 : nodeT T a.Left = T := by unfold nodeT; rw [if_pos hL]
    have hF1 : nodeF T F a.Left = F := by unfold nodeF; rw [if_pos hL]
    by_cases hR : a.Right ∈ T
    · obtain ⟨_, hr⟩ := posT_mem hR
      have hT2 : nodeT T a.Right = T := by unfold nodeT; rw [if_pos hR]
      have hF2 : nodeF T F a.Right = F := by unfold nodeF; rw [if_pos hR]
      simp only [denial_Contradictory_l19, if_pos (lt_true hk), idx_get hk, Option.bind_some, i1, i2, if_pos hL, if_pos hR, if_pos (show (posT T a.Left : Int) ≥ 0 by omega), if_pos (show (posT T a.Right : Int) ≥ 0 by omega)]
      rw [puts_eq hl hr]
      simp only [stepA18, hT1, hF1, hT2, hF2]
    · obtain ⟨_, hr⟩ := posT_not hR
      have hT2 : nodeT T a.Right = T ++ [a.Right] := by unfold nodeT; rw [if_neg hR]
      have hF2 : nodeF T F a.Right = updM F T.length T.length 1 := by unfold nodeF; rw [if_neg hR]
      simp only [denial_Contradictory_l19, if_pos (lt_true hk), idx_get hk, Option.bind_some, i1, i2, if_pos hL, if_neg hR, if_pos (show (posT T a.Left : Int) ≥ 0 by omega), if_neg (show ¬ (-1 : Int) ≥ 0 by omega), room_le (show T.length + 1 ≤ 1073741824 by omega) (show 48 ≤ 65536 by omega), if_true, g0, if_pos hlen0]
      have nt := node_tail (show T.length ≤ 900 by omega) hs (fun _ M => (some (T ++ [a.Right], M, ((posT T a.Left : Nat) : Int), IntKind.i64.wrap ((((T.length + 1) : Nat) : Int) - 1)) : Option (List Term × List (List Int) × Int × Int)))
      rw [nt]
      simp only [Option.bind_some, last_nat (show T.length ≤ 1000000 by omega)]
      rw [puts_eq (show posT T a.Left < T.length + 1 by omega) (show T.length < T.length + 1 by omega)]
      simp only [stepA18, hT1, hF1, hT2, hF2, hr, List.length_append, List.length_singleton]
  · obtain ⟨_, hl⟩ := posT_not hL
    have hT1 : nodeT T a.Left = T ++ [a.Left] := by unfold nodeT; rw [if_neg hL]
    have hF1 : nodeF T F a.Left = updM F T.length T.length 1 := by unfold nodeF; rw [if_neg hL]
    have hs1 : supM (T.length + 1) (updM F T.length T.length 1) := supM_upd (supM_le hs (by omega)) (by omega) (by omega)
    have i3 := Index_Term_eq (T ++ [a.Left]) a.Right (by simp; omega)
    simp only [denial_Contradictory_l19, if_pos (lt_true hk), idx_get hk, Option.bind_some, i1, if_neg hL, if_neg (show ¬ (-1 : Int) ≥ 0 by omega), room_le (show T.length + 1 ≤ 1073741824 by omega) (show 48 ≤ 65536 by omega), if_true, g0', if_pos hlen0, i3]
    by_cases hR : a.Right ∈ T ++ [a.Left]
    · obtain ⟨_, hr⟩ := posT_mem hR
      have hT2 : nodeT (T ++ [a.Left]) a.Right = T ++ [a.Left] := by unfold nodeT; rw [if_pos hR]
      have hF2 : nodeF (T ++ [a.Left]) (updM F T.length T.length 1) a.Right = updM F T.length T.length 1 := by unfold nodeF; rw [if_pos hR]
      simp only [if_pos hR, if_pos (show (posT (T ++ [a.Left]) a.Right : Int) ≥ 0 by omega)]
      have nt := node_tail (show T.length ≤ 900 by omega) hs (fun _ M => (some (T ++ [a.Left], M, IntKind.i64.wrap ((((T.length + 1) : Nat) : Int) - 1), ((posT (T ++ [a.Left]) a.Right : Nat) : Int)) : Option (List Term × List (List Int) × Int × Int)))
      rw [nt]
      simp only [Option.bind_some, last_nat (show T.length ≤ 1000000 by omega)]
      rw [List.length_append, List.length_singleton] at hr
      rw [puts_eq (show T.length < T.length + 1 by omega) hr]
      simp only [stepA18, hT1, hF1, hT2, hF2, hl, List.length_append, List.length_singleton]
    · obtain ⟨_, hr⟩ := posT_not hR
      have hT2 : nodeT (T ++ [a.Left]) a.Right = (T ++ [a.Left]) ++ [a.Right] := by unfold nodeT; rw [if_neg hR]
      have hF2 : nodeF (T ++ [a.Left]) (updM F T.length T.length 1) a.Right = updM (updM F T.length T.length 1) (T.length + 1) (T.length + 1) 1 := by
        unfold nodeF; rw [if_neg hR]; simp
      simp only [if_neg hR, if_neg (show ¬ (-1 : Int) ≥ 0 by omega), room_le (show T.length + 1 + 1 ≤ 1073741824 by omega) (show 48 ≤ 65536 by omega), if_true]
      have nt := node_tail (show T.length ≤ 900 by omega) hs (fun (x : List Int) M => (LoopF (denial_Contradictory_l18 T ((matF T.length F).map fun x => x ++ [0]) x) (M, 0)).bind (fun (o3 : List (List Int)) =>
        if (((matF T.length F).map fun x => x ++ [0]) ++ [(List.replicate (T.length + 1) 0)]).length ≤ o3.length then
        if 0 ≤ ((((T.length + 1) + 1) : Nat) : Int) then
        if roomB ((T.length + 1) + 1) 8 = true then
        if roomB (o3.length + 1) 24 = true then
        (idx (o3 ++ [(List.replicate ((T.length + 1) + 1) 0)]) (IntKind.i64.wrap (((((T.length + 1) + 1) : Nat) : Int) - 1))).bind fun (x2 : List Int) =>
        (idx x2 (IntKind.i64.wrap (((((T.length + 1) + 1) : Nat) : Int) - 1))).bind fun (y2 : Int) =>
        if (matF T.length F).length ≤ o3.length then
        (some (((T ++ [a.Left]) ++ [a.Right]), ((o3 ++ [(List.replicate ((T.length + 1) + 1) 0)]).set ((IntKind.i64.wrap (((((T.length + 1) + 1) : Nat) : Int) - 1)).toNat) (x2.set (IntKind.i64.wrap (((((T.length + 1) + 1) : Nat) : Int) - 1)).toNat 1)), (IntKind.i64.wrap ((((T.length + 1) : Nat) : Int) - 1)), (IntKind.i64.wrap (((((T.length + 1) + 1) : Nat) : Int) - 1))) : Option (List Term × List (List Int) × Int × Int))
        else none else none else none else none else none))
      rw [nt]
      have g1 : LoopF (denial_Contradictory_l18 T ((matF T.length F).map fun x => x ++ [0]) (rowF (T.length + 1) F T.length)) (matF (T.length + 1) (updM F T.length T.length 1), 0) = some ((matF (T.length + 1) (updM F T.length T.length 1)).map fun x => x ++ [0]) :=
        grow_loop18 (matF (T.length + 1) (updM F T.length T.length 1)) (T.length + 1) (matF_len _ _) (by omega) (rows_short (by omega)) _ (fun o k => by simp only [denial_Contradictory_l18, List.length_append, List.length_map, matF_len, List.length_singleton, List.length_set])
      have hlen1 : (((matF T.length F).map fun x => x ++ [0]) ++ [(List.replicate (T.length + 1) 0)]).length ≤ ((matF (T.length + 1) (updM F T.length T.length 1)).map fun x => x ++ [0]).length := by simp [matF_len]
      have hlen2 : (matF T.length F).length ≤ ((matF (T.length + 1) (updM F T.length T.length 1)).map fun x => x ++ [0]).length := by simp [matF_len]
      simp only [g1, Option.bind_some, if_pos hlen1, if_pos hlen2]
      have nt2 := node_tail (show T.length + 1 ≤ 900 by omega) hs1 (fun (x : List Int) M => (some (((T ++ [a.Left]) ++ [a.Right]), M, (IntKind.i64.wrap ((((T.length + 1) : Nat) : Int) - 1)), (IntKind.i64.wrap (((((T.length + 1) + 1) : Nat) : Int) - 1))) : Option (List Term × List (List Int) × Int × Int)))
      rw [nt2]
      simp only [Option.bind_some, last_nat (show T.length ≤ 1000000 by omega), last_nat (show T.length + 1 ≤ 1000000 by omega)]
      rw [puts_eq (show T.length < T.length + 1 + 1 by omega) (show T.length + 1 < T.length + 1 + 1 by omega)]
      simp only [stepA18, hT1, hF1, hT2, hF2, hl, hr, List.length_append, List.length_singleton]
/-- terms and matrix of the atoms -/
def foldA18 (atoms : List Atom) : List Term × FnM := atoms.foldl stepA18 ([], zeroF)
theorem foldA_ok : ∀ (l : List Atom) (S : List Term × FnM), supM S.1.length S.2 → supM (l.foldl stepA18 S).1.length (l.foldl stepA18 S).2 ∧ (l.foldl stepA18 S).1.length ≤ S.1.length + 2 * l.length
  | [], S, h => ⟨h, by simp⟩
  | a :: l, S, h => by
    rw [List.foldl_cons]
    obtain ⟨h1, h2⟩ := foldA_ok l (stepA18 S a) (step_sup a h)
    have := step_len S a
    refine ⟨h1, ?_⟩
    rw [List.length_cons]; omega
theorem l19_loop (atoms : List Atom) (hl : atoms.length ≤ 100) : LoopF (denial_Contradictory_l19 atoms) ([], [], 0) = some ((foldA18 atoms).1, matF (foldA18 atoms).1.length (foldA18 atoms).2) := by
  have h := LoopF_foldl atoms (fun (S : List Term × FnM) (i : Int) => (S.1, matF S.1.length S.2, i)) (denial_Contradictory_l19 atoms) stepA18 (fun S => (S.1, matF S.1.length S.2)) (fun k S => supM S.1.length S.2 ∧ S.1.length ≤ 2 * k) (b0 := ([], zeroF)) (s0 := ([], [], 0)) rfl ⟨fun _ _ _ => rfl, Nat.le_refl _⟩
    (fun k S x hx hk hI => by
      obtain ⟨hI1, hI2⟩ := hI
      refine ⟨?_, step_sup x hI1, by have := step_len S x; omega⟩
      rw [l19_step atoms hx (by omega) hI1, wrap_succ hk (by omega)])
    (fun S _ => by simp [denial_Contradictory_l19])
  exact h
/-- the diagonal -/
theorem l50_loop (T : List Term) (hn : T.length ≤ 1000) (F : FnM) : LoopF (denial_Contradictory_l50 T (matF T.length F)) 0 = some (if (List.range T.length).all (fun i => decide (F i i ≠ 2)) then .inl () else .inr true) := by
  refine LoopF_all (List.range T.length) _ (fun i => decide (F i i ≠ 2)) true (fun k x hx hk hp => ?_) (fun k x hx hp => ?_) (by simp [denial_Contradictory_l50])
  · rw [List.length_range] at hk
    obtain ⟨rfl, _⟩ := range_at hx
    have hp' : ¬ ((F x x == 2) = true) := by simpa using hp
    simp only [denial_Contradictory_l50, if_pos (show (x : Int) < ((T.length : Nat) : Int) by omega), idx_get (matF_get hk), idx_get (rowF_get hk), Option.bind_some, if_neg hp', wrap_succ hk (show T.length ≤ 4611686018427387904 by omega)]
  · obtain ⟨rfl, hk⟩ := range_at hx
    have hp' : (F x x == 2) = true := by simpa using hp
    simp only [denial_Contradictory_l50, if_pos (show (x : Int) < ((T.length : Nat) : Int) by omega), idx_get (matF_get hk), idx_get (rowF_get hk), Option.bind_some, if_pos hp']
def clash (T : List Term) (F : FnM) (a : Atom) : Bool := decide (a.Op = 2) && (decide (0 < F (posT T a.Left) (posT T a.Right)) && decide (0 < F (posT T a.Right) (posT T a.Left)))
theorem l69_loop (atoms : List Atom) (hl : atoms.length ≤ 100) (T : List Term) (hn : T.length ≤ 1000) (hT : ∀ a ∈ atoms, a.Left ∈ T ∧ a.Right ∈ T) (F : FnM) :
    ∃ o, LoopF (denial_Contradictory_l69 atoms (matF T.length F)) (T, matF T.length F, 0) = some o ∧ (if atoms.any (clash T F) = true then ∃ k : Nat, o = .inr ((k : Int), T, matF T.length F) else o = .inl (T, matF T.length F)) := by
  have key : ∀ (r : List Atom) (k : Nat), atoms.drop k = r → k ≤ atoms.length → ∃ o, LoopF (denial_Contradictory_l69 atoms (matF T.length F)) (T, matF T.length F, (k : Int)) = some o ∧ (if r.any (clash T F) = true then ∃ k : Nat, o = .inr ((k : Int), T, matF T.length F) else o = .inl (T, matF T.length F)) := by
    intro r
    induction r with
    | nil =>
      intro k hd hk
      have := drop_n18 hd hk
      subst this
      exact ⟨_, Loop_done (t := .inl (T, matF T.length F)) (by simp [denial_Contradictory_l69]), by simp⟩
    | cons a r ih =>
      intro k hd hk
      obtain ⟨x1, x2, x3⟩ := drop_c18 hd
      obtain ⟨hL, hR⟩ := hT a (List.mem_of_getElem? x1)
      obtain ⟨_, hl'⟩ := posT_mem hL
      obtain ⟨_, hr'⟩ := posT_mem hR
      have e1 := matF_get (F := F) hl'
      have e2 := rowF_get (F := F) (i := posT T a.Left) hr'
      have e3 := matF_get (F := F) hr'
      have e4 := rowF_get (F := F) (i := posT T a.Right) hl'
      have hstep : denial_Contradictory_l69 atoms (matF T.length F) (T, matF T.length F, (k : Int)) = if clash T F a = true then some (.done (.inr ((k : Int), T, matF T.length F))) else some (.next (T, matF T.length F, ((k + 1 : Nat) : Int))) := by
        simp only [denial_Contradictory_l69, Nat.le_refl, if_true, if_pos (lt_true x1), idx_get x1, Option.bind_some, Index_Term_eq T a.Left (by omega), Index_Term_eq T a.Right (by omega), if_pos hL, if_pos hR, if_pos (show (posT T a.Left : Int) ≥ 0 by omega), if_pos (show (posT T a.Right : Int) ≥ 0 by omega), wrap_succ x3 (show atoms.length ≤ 4611686018427387904 by omega)]
        unfold clash
        by_cases h2 : a.Op = 2
        · rw [if_pos (by simpa using h2)]
          simp only [idx_get e1, idx_get e2, Option.bind_some, h2, decide_true, Bool.true_and]
          by_cases h3 : F (posT T a.Left) (posT T a.Right) > 0
          · rw [if_pos h3]
            simp only [idx_get e3, idx_get e4, Option.bind_some, show decide (0 < F (posT T a.Left) (posT T a.Right)) = true by simpa using h3, Bool.true_and, decide_eq_true_eq]
          · rw [if_neg h3]
            simp only [show decide (0 < F (posT T a.Left) (posT T a.Right)) = false by simpa using h3, Bool.false_and, Bool.false_eq_true, if_false]
        · rw [if_neg (by simpa using h2)]
          simp [h2]
      cases hc : clash T F a with
      | true =>
        rw [hc] at hstep
        exact ⟨_, Loop_done hstep, by simp only [List.any_cons, hc, Bool.true_or, if_true]; exact ⟨k, rfl⟩⟩
      | false =>
        rw [hc] at hstep
        simp only [Bool.false_eq_true, if_false] at hstep
        obtain ⟨o, ho1, ho2⟩ := ih (k + 1) x2 x3
        exact ⟨o, by rw [Loop_next hstep]; exact ho1, by simpa only [List.any_cons, hc, Bool.false_or] using ho2⟩
  exact key atoms 0 rfl (Nat.zero_le _)
def contraB (atoms : List Atom) : Bool :=
  let S := foldA18 atoms
  let F := closeF S.1.length (constM S.1 S.2)
  (List.range S.1.length).any (fun i => decide (F i i = 2)) || atoms.any (clash S.1 F)
theorem node_mem {T : List Term} {t : Term} : t ∈ nodeT T t ∧ ∀ x ∈ T, x ∈ nodeT T t := by
  unfold nodeT
  by_cases h : t ∈ T
  · rw [if_pos h]; exact ⟨h, fun x hx => hx⟩
  · rw [if_neg h]; exact ⟨by simp, fun x hx => by simp [hx]⟩
theorem foldA_mem : ∀ (l : List Atom) (S : List Term × FnM), (∀ x ∈ S.1, x ∈ (l.foldl stepA18 S).1) ∧ ∀ a ∈ l, a.Left ∈ (l.foldl stepA18 S).1 ∧ a.Right ∈ (l.foldl stepA18 S).1
  | [], S => ⟨fun x hx => hx, by simp⟩
  | a :: l, S => by
    rw [List.foldl_cons]
    obtain ⟨h1, h2⟩ := foldA_mem l (stepA18 S a)
    have m1 := @node_mem S.1 a.Left
    have m2 := @node_mem (nodeT S.1 a.Left) a.Right
    refine ⟨fun x hx => h1 x (m2.2 x (m1.2 x hx)), fun b hb => ?_⟩
    rcases List.mem_cons.1 hb with rfl | hb
    · exact ⟨h1 _ (m2.2 _ m1.1), h1 _ m2.1⟩
    · exact h2 b hb
theorem Contradictory_eq (atoms : List Atom) (hl : atoms.length ≤ 100) : denial_Contradictory atoms = some (contraB atoms) := by
  have hok := foldA_ok atoms ([], zeroF) (fun _ _ _ => rfl)
  have hmem := (foldA_mem atoms ([], zeroF)).2
  have hn : (foldA18 atoms).1.length ≤ 200 := by have := hok.2; simp at this; unfold foldA18; omega
  unfold denial_Contradictory contraB
  rw [l19_loop atoms hl]
  simp only [Option.bind_some]
  change ∀ a ∈ atoms, a.Left ∈ (foldA18 atoms).1 ∧ a.Right ∈ (foldA18 atoms).1 at hmem
  generalize (foldA18 atoms).1 = T at *
  generalize (foldA18 atoms).2 = F0 at *
  rw [const_23 T (by omega)]
  simp only [Option.bind_some]
  generalize constM T F0 = F1
  rw [clo_49 T rfl (by omega) (matF T.length F1) (matF_len _ _)]
  simp only [Option.bind_some, matF_len, Nat.le_refl, if_true]
  generalize closeF T.length F1 = F
  rw [l50_loop T (by omega)]
  simp only [Option.bind_some]
  have hany : ((List.range T.length).any fun i => decide (F i i = 2)) = !((List.range T.length).all fun i => decide (F i i ≠ 2)) := by
    rw [← any_not]
    simp only [Bool.not_not]
    congr 1
    funext i
    simp
  rw [hany]
  cases hd : (List.range T.length).all fun i => decide (F i i ≠ 2) with
  | false => simp
  | true =>
    obtain ⟨o, ho1, ho2⟩ := l69_loop atoms hl T (by omega) hmem F
    simp only [if_true, ho1, Option.bind_some, Bool.not_true, Bool.false_or]
    cases hc : atoms.any (clash T F) with
    | true =>
      rw [hc] at ho2
      simp only [if_true] at ho2
      obtain ⟨k, rfl⟩ := ho2
      simp [matF_len]
    | false =>
      rw [hc] at ho2
      simp only [Bool.false_eq_true, if_false] at ho2
      subst ho2
      simp [matF_len]
end Go.Proofs.YtlaodgbkpmdhoaaGreatDoor
/- Denial: the examples of the chapter. -/
set_option linter.unusedVariables false
set_option linter.unusedSimpArgs false
namespace Go.Proofs.YtlaodgbkpmdhoaaGreatDoor
open Go Go.Ab

def exT18 : Table := ⟨[114], [[97], [98]], [⟨1, [⟨1, 2, []⟩, ⟨1, 1, []⟩]⟩, ⟨2, [⟨1, 2, []⟩, ⟨1, 2, []⟩]⟩, ⟨3, [⟨1, 7, []⟩, ⟨1, 2, []⟩]⟩]⟩
theorem ofV18_1 : ofV 1 = ⟨1, 1, []⟩ := by simp [ofV, drossref01_Of]
theorem ofV18_2 : ofV 2 = ⟨1, 2, []⟩ := by simp [ofV, drossref01_Of]
theorem ofV18_11 : ofV 11 = ⟨1, 7, []⟩ := by simp [ofV, drossref01_Of]
theorem Wide18 : drossref03_Wide (Drossref03_Recipe.mk 0 0 [[2, 1], [2, 2], [11, 2]]) 2 = some exT18 := by
  have h := Wide_eq (Drossref03_Recipe.mk 0 0 [[2, 1], [2, 2], [11, 2]]) 2 (by omega) (by simp) (by simp) (by simp)
  have h' : drossref03_Wide (Drossref03_Recipe.mk 0 0 [[2, 1], [2, 2], [11, 2]]) 2 = some (wide (Drossref03_Recipe.mk 0 0 [[2, 1], [2, 2], [11, 2]]) 2) := h
  rw [h']
  have e : wide (Drossref03_Recipe.mk 0 0 [[2, 1], [2, 2], [11, 2]]) 2 = exT18 := by
    simp [wide, wrow, wval, wstep, exT18, wnames, List.range, List.range.loop, ofV18_1, ofV18_2, ofV18_11]
  rw [e]
def no18 : List Atom := [⟨atT 1 0, 3, atT 1 1⟩, ⟨atT 1 1, 4, ⟨0, 0, ⟨1, 5, []⟩⟩⟩, ⟨⟨0, 0, ⟨1, 6, []⟩⟩, 3, atT 1 0⟩]
def yes18 : List Atom := [⟨atT 1 0, 3, ⟨0, 0, ⟨1, 2, []⟩⟩⟩, ⟨⟨0, 0, ⟨1, 1, []⟩⟩, 3, atT 1 0⟩]
theorem no_contra : contraB no18 = true := by decide +kernel
theorem yes_contra : contraB yes18 = false := by decide +kernel
theorem ex_dt : DT exT18 := by
  have hv : ∀ r ∈ exT18.Rows, ∀ v ∈ r.Values, v.Str = [] := by decide
  refine ⟨⟨by decide, by decide, by decide, fun r hr v hvm => by rw [hv r hr v hvm]; simp⟩, by decide +kernel, by decide, fun r hr v hvm => by rw [hv r hr v hvm]; simp⟩
def want18 : Denial := ⟨2, [bothA 1 0, bothA 2 1]⟩
def less18 : Denial := ⟨1, [⟨atT 1 0, 3, ⟨0, 0, ⟨1, 6, []⟩⟩⟩]⟩
theorem idsA_of {rows : List Row} {l : List Int} (hp : (rows.map Row.ID).Perm l) (hs : l.Pairwise fun a b => a ≤ b) : idsA rows = l :=
  int_asc_unique ((srtI_perm _).trans hp) (srtI_sorted _) hs
def r18a : Row := ⟨1, [⟨1, 2, []⟩, ⟨1, 1, []⟩]⟩
def r18b : Row := ⟨2, [⟨1, 2, []⟩, ⟨1, 2, []⟩]⟩
theorem viol_want : setO (violL exT18 want18) = [[1, 2]] := by
  have h : (asgN exT18 want18.Vars.toNat).filter (fun a => want18.Atoms.all (satA a)) = [[r18a, r18b], [r18b, r18a]] := by decide +kernel
  have e1 : idsA [r18a, r18b] = [1, 2] := idsA_of (by decide) (by decide)
  have e2 : idsA [r18b, r18a] = [1, 2] := idsA_of (List.Perm.swap _ _ _) (by decide)
  unfold violL
  rw [h, List.map_cons, List.map_cons, e1, e2]
  decide
theorem viol_less : setO (violL exT18 less18) = [[1], [2]] := by
  have h : (asgN exT18 less18.Vars.toNat).filter (fun a => less18.Atoms.all (satA a)) = [[r18a], [r18b]] := by decide +kernel
  have e1 : idsA [r18a] = [1] := idsA_of (by decide) (by decide)
  have e2 : idsA [r18b] = [2] := idsA_of (by decide) (by decide)
  unfold violL
  rw [h, List.map_cons, List.map_cons, e1, e2]
  decide
theorem Same_self18 (l : List Denial) (hl : l.length ≤ 1000000) (ha : ∀ d ∈ l, d.Atoms.length ≤ 1000000) : drossref18_Same l l = some true := by
  have inner : ∀ (k : Nat) (d : Denial), l[k]? = some d → LoopF (drossref18_Same_l3 l l (k : Int)) 0 = some (.inl ()) := by
    intro k d hd
    have h := LoopF_all d.Atoms (drossref18_Same_l3 l l (k : Int)) (fun _ => true) false
      (fun j a hx hk hp => by
        have e : ((((a.Left.Var == a.Left.Var) && ((a.Left.Attr == a.Left.Attr) && ((a.Left.Value.Kind == a.Left.Value.Kind) && ((a.Left.Value.Num == a.Left.Value.Num) && (a.Left.Value.Str == a.Left.Value.Str))))) && ((a.Op == a.Op) && ((a.Right.Var == a.Right.Var) && ((a.Right.Attr == a.Right.Attr) && ((a.Right.Value.Kind == a.Right.Value.Kind) && ((a.Right.Value.Num == a.Right.Value.Num) && (a.Right.Value.Str == a.Right.Value.Str)))))))) = true := by simp
        simp only [drossref18_Same_l3, idx_get hd, Option.bind_some, if_pos (lt_true hx), idx_get hx, if_pos e, wrap_succ hk (show d.Atoms.length ≤ 4611686018427387904 by have := ha d (List.mem_of_getElem? hd); omega)])
      (fun j a hx hp => by cases hp)
      (by simp [drossref18_Same_l3, idx_get hd])
    rw [h]; simp
  have h := LoopF_all l (drossref18_Same_l4 l l) (fun _ => true) false
    (fun k d hd hk hp => by
      simp only [drossref18_Same_l4, if_pos (lt_true hd), idx_get hd, Option.bind_some, bne_self_eq_false, Bool.false_eq_true, if_false, inner k d hd, wrap_succ hk (show l.length ≤ 4611686018427387904 by omega)])
    (fun k d hd hp => by cases hp)
    (by simp [drossref18_Same_l4])
  unfold drossref18_Same
  rw [if_neg (by simp), h, Option.bind_some]
  have : (l.all fun _ => true) = true := by simp
  rw [this]; rfl
theorem viol_at {t : Table} (H : DT t) {d : Denial} (he : denErr t d = 0) (hl : d.Atoms.length ≤ 1048576) : denial_Violations t d = some (setO (violL t d), 0) := by
  rw [DViolations_eq t d H.ok H.str H.few hl]
  unfold violR
  rw [if_pos he]
theorem awake18 : drosslaw18_awake = some true := by
  have h1 : denial_FromFD 2 (FD.mk 1 2) = some ([want18], 0) := by
    have h := FromFD_eq (n := 2) (s := 1) (r := 2) (by omega) (by omega) (by omega)
    have e : (if fdB 2 1 2 = true then (fdL 1 2, (0 : Int)) else ([], 1)) = ([want18], 0) := by decide +kernel
    rw [e] at h
    exact h
  have h2 : denial_Violations exT18 want18 = some ([[1, 2]], 0) := by
    rw [viol_at ex_dt (by decide +kernel) (by decide), viol_want]
  have h3 : denial_Violations exT18 less18 = some ([[1], [2]], 0) := by
    rw [viol_at ex_dt (by decide +kernel) (by decide), viol_less]
  have h4 : denial_FromOD 2 (OD.mk [0] [1]) = some (odL [0] [1], 0) := by
    have h := FromOD_eq 2 (OD.mk [0] [1]) (by simp) (by simp)
    have e : odR 2 (OD.mk [0] [1]) = (odL [0] [1], 0) := by decide +kernel
    rw [e] at h
    exact h
  have h5 : ((odL [0] [1]).length : Int) = 2 := by decide +kernel
  have h6 := Same_self18 [want18] (by simp) (by simp [want18])
  have h7 := Lists_self [[1, 2]] (by simp) (by simp)
  have h8 := Lists_self [[1], [2]] (by simp) (by simp)
  have h9 := Contradictory_eq no18 (by decide)
  have h10 := Contradictory_eq yes18 (by decide)
  rw [no_contra] at h9
  rw [yes_contra] at h10
  have h2' : denial_Violations exT18 (Denial.mk 2 [(Atom.mk (Term.mk 1 0 (Value.mk 0 0 [])) 1 (Term.mk 2 0 (Value.mk 0 0 []))), (Atom.mk (Term.mk 1 1 (Value.mk 0 0 [])) 2 (Term.mk 2 1 (Value.mk 0 0 [])))]) = _ := h2
  have h3' : denial_Violations exT18 (Denial.mk 1 [(Atom.mk (Term.mk 1 0 (Value.mk 0 0 [])) 3 (Term.mk 0 0 (Value.mk 1 6 [])))]) = _ := h3
  have h6' : drossref18_Same [want18] [(Denial.mk 2 [(Atom.mk (Term.mk 1 0 (Value.mk 0 0 [])) 1 (Term.mk 2 0 (Value.mk 0 0 []))), (Atom.mk (Term.mk 1 1 (Value.mk 0 0 [])) 2 (Term.mk 2 1 (Value.mk 0 0 [])))])] = _ := h6
  have h9' : denial_Contradictory [(Atom.mk (Term.mk 1 0 (Value.mk 0 0 [])) 3 (Term.mk 1 1 (Value.mk 0 0 []))), (Atom.mk (Term.mk 1 1 (Value.mk 0 0 [])) 4 (Term.mk 0 0 (Value.mk 1 5 []))), (Atom.mk (Term.mk 0 0 (Value.mk 1 6 [])) 3 (Term.mk 1 0 (Value.mk 0 0 [])))] = _ := h9
  have h10' : denial_Contradictory [(Atom.mk (Term.mk 1 0 (Value.mk 0 0 [])) 3 (Term.mk 0 0 (Value.mk 1 2 []))), (Atom.mk (Term.mk 0 0 (Value.mk 1 1 [])) 3 (Term.mk 1 0 (Value.mk 0 0 [])))] = _ := h10
  simp only [drosslaw18_awake, Wide18, h1, drosslaw18_at, drosslaw18_num, Option.bind_some, h2', h3', h4, bne_self_eq_false, Bool.false_eq_true, if_false, h6', if_true, h7, h8, h5, h9', h10', Bool.not_false]
end Go.Proofs.YtlaodgbkpmdhoaaGreatDoor
/- Denial: violations of several constraints; pairs of rows. -/
set_option linter.unusedVariables false
set_option linter.unusedSimpArgs false
namespace Go.Proofs.YtlaodgbkpmdhoaaGreatDoor
open Go Go.Ab

theorem search_l19 (out : List (List Int)) (x : List Int) (hl : out.length ≤ 1000000) (ho : ∀ y ∈ out, y.length ≤ 1000000) (hx : x.length ≤ 1000000) :
    LoopF (drosslaw18_together_l19 out x) 0 = some (if x ∈ out then .inr () else .inl ()) := search_l5 out x hl ho hx
theorem ins_l20 (out : List (List Int)) (x : List Int) (hl : out.length ≤ 1000000) (ho : ∀ y ∈ out, y.length ≤ 1000000) (hx : x.length ≤ 1000000) (hm : x ∉ out) :
    LoopF drosslaw18_together_l20 (out ++ [x], IntKind.i64.wrap ((((out.length + 1) : Nat) : Int) - 1)) = some (putL out x) := ins_l6 out x hl ho hx hm
theorem put_l21 (R : List (List Int) × Int) (hR : R.1.length ≤ 1000) (hs : ∀ y ∈ R.1, y.length ≤ 3) (out : List (List Int)) (hl : out.length ≤ 500000) (ho : ∀ y ∈ out, y.length ≤ 3) :
    LoopF (drosslaw18_together_l21 R) (out, 0) = some (R.1.foldl putL out) := by
  have h := LoopF_foldl R.1 (fun (b : List (List Int)) (m : Int) => (b, m)) (drosslaw18_together_l21 R) putL id (fun k b => b.length ≤ out.length + k ∧ ∀ y ∈ b, y.length ≤ 3) (b0 := out) (s0 := (out, 0)) rfl ⟨Nat.le_refl _, ho⟩
    (fun k b x hx hk hI => by
      obtain ⟨hI1, hI2⟩ := hI
      have hxl := hs x (List.mem_of_getElem? hx)
      constructor
      · simp only [drosslaw18_together_l21, if_pos (lt_true hx), idx_get hx, Option.bind_some, wrap_succ hk (show R.1.length ≤ 4611686018427387904 by omega)]
        rw [search_l19 b x (by omega) (fun y hy => by have := hI2 y hy; omega) (by omega)]
        by_cases hmm : x ∈ b
        · rw [if_pos hmm]
          simp only [Option.bind_some, putL, if_pos hmm]
        · rw [if_neg hmm]
          simp only [Option.bind_some, room_le (show b.length + 1 ≤ 1073741824 by omega) (show 24 ≤ 65536 by omega), if_true, ins_l20 b x (by omega) (fun y hy => by have := hI2 y hy; omega) (by omega) hmm]
      · refine ⟨by have := putL_len b x; omega, fun y hy => ?_⟩
        rcases (putL_mem _ _ _).1 hy with hy | rfl
        · exact hI2 y hy
        · exact hxl)
    (fun b _ => by simp [drosslaw18_together_l21])
  rw [h]; rfl
def allV (t : Table) (l : List Denial) : List (List Int) := l.flatMap (violL t)
theorem together_eq {t : Table} (H : DT t) (l : List Denial) (hl : l.length ≤ 100) (h : ∀ d ∈ l, denErr t d = 0) : drosslaw18_together t l = some (setO (allV t l), true) := by
  have hden : ∀ d ∈ l, denB t.Attrs.length d = true := fun d hd => (denErr_zero (h d hd)).2
  have key : ∀ (r : List Denial) (k : Nat) (out : List (List Int)) (W : List (List Int)), l.drop k = r → k ≤ l.length → out = setO W → (∀ z ∈ W, z.length ≤ 3) → W.length ≤ k * 343 →
      LoopF (drosslaw18_together_l22 t l) (out, (k : Int)) = some (.inl (setO (W ++ allV t r))) := by
    intro r
    induction r with
    | nil =>
      intro k out W hd hk ho hW hWl
      have := drop_n18 hd hk
      subst this
      rw [Loop_done (t := .inl out) (by simp [drosslaw18_together_l22])]
      rw [ho]; simp [allV]
    | cons d r ih =>
      intro k out W hd hk ho hW hWl
      obtain ⟨x1, x2, x3⟩ := drop_c18 hd
      have hm := List.mem_of_getElem? x1
      obtain ⟨⟨hv1, hv2, hv3⟩, hat⟩ := denB_parts (hden d hm)
      have hV := viol_at H (h d hm) (by omega)
      have hVl := violL_len H.few hv2
      have hVs : ∀ y ∈ setO (violL t d), y.length ≤ 3 := fun y hy => by rw [violL_short ((setO_mem _ _).1 hy)]; omega
      have hol : out.length ≤ 500000 := by
        rw [ho]
        have := setO_len W
        have : k * 343 ≤ 100 * 343 := Nat.mul_le_mul_right _ (by omega)
        omega
      have hos : ∀ y ∈ out, y.length ≤ 3 := fun y hy => by rw [ho] at hy; exact hW y ((setO_mem _ _).1 hy)
      have hp := put_l21 (setO (violL t d), 0) (by have := setO_len (violL t d); simp only; omega) hVs out hol hos
      have hout : (setO (violL t d)).foldl putL out = setO (W ++ violL t d) := by
        refine asc_unique (foldP_asc _ _ (by rw [ho]; exact setO_asc W)) (setO_asc _) fun z => ?_
        rw [foldP_mem, setO_mem, setO_mem, ho, setO_mem, List.mem_append]
      rw [Loop_next (s' := (setO (W ++ violL t d), ((k + 1 : Nat) : Int))) (by
        simp only [drosslaw18_together_l22, if_pos (lt_true x1), idx_get x1, Option.bind_some, hV, bne_self_eq_false, Bool.false_eq_true, if_false, hp, hout, wrap_succ x3 (show l.length ≤ 4611686018427387904 by omega)])]
      rw [ih (k + 1) _ (W ++ violL t d) x2 x3 rfl (fun z hz => by
        rcases List.mem_append.1 hz with hz | hz
        · exact hW z hz
        · rw [violL_short hz]; omega) (by rw [List.length_append]; omega)]
      congr 3
      simp [allV, List.append_assoc]
  have := key l 0 [] [] rfl (Nat.zero_le _) rfl (by simp) (by simp)
  have h' : LoopF (drosslaw18_together_l22 t l) ([], 0) = _ := this
  unfold drosslaw18_together
  rw [h', Option.bind_some, List.nil_append]
theorem idsA_two {a b : Row} (h : a.ID ≠ b.ID) : idsA [a, b] = if a.ID < b.ID then [a.ID, b.ID] else [b.ID, a.ID] := by
  by_cases h1 : a.ID < b.ID
  · rw [if_pos h1]
    exact idsA_of (List.Perm.refl _) (by simp; omega)
  · rw [if_neg h1]
    exact idsA_of (List.Perm.swap _ _ _) (by simp; omega)
/-- the violations of a constraint on two rows -/
theorem viol_two {t : Table} {d : Denial} (hv : d.Vars = 2) (z : List Int) : z ∈ violL t d ↔ ∃ a ∈ t.Rows, ∃ b ∈ t.Rows, a.ID < b.ID ∧ (d.Atoms.all (satA [a, b]) = true ∨ d.Atoms.all (satA [b, a]) = true) ∧ z = [a.ID, b.ID] := by
  unfold violL
  rw [hv]
  constructor
  · intro hz
    obtain ⟨c, hc, rfl⟩ := List.mem_map.1 hz
    obtain ⟨hc1, hc2⟩ := List.mem_filter.1 hc
    obtain ⟨g1, g2, g3⟩ := asgN_mem hc1
    match c, g1, g2, g3, hc2 with
    | [x, y], _, g2, g3, hc2 =>
      have hne : x.ID ≠ y.ID := by
        have := (List.pairwise_cons.1 g3).1 y (by simp)
        exact this
      rw [idsA_two hne]
      by_cases h1 : x.ID < y.ID
      · rw [if_pos h1]
        exact ⟨x, g2 x (by simp), y, g2 y (by simp), h1, .inl hc2, rfl⟩
      · rw [if_neg h1]
        exact ⟨y, g2 y (by simp), x, g2 x (by simp), by omega, .inr hc2, rfl⟩
  · rintro ⟨a, ha, b, hb, hlt, hs, rfl⟩
    rcases hs with hs | hs
    · refine List.mem_map.2 ⟨[a, b], List.mem_filter.2 ⟨asgN_of rfl (by simp [ha, hb]) (by simp; omega), hs⟩, ?_⟩
      rw [idsA_two (by omega), if_pos hlt]
    · refine List.mem_map.2 ⟨[b, a], List.mem_filter.2 ⟨asgN_of rfl (by simp [ha, hb]) (by simp; omega), hs⟩, ?_⟩
      rw [idsA_two (by omega), if_neg (by omega)]
theorem sat_bothI (a b : Row) (op : Int) (x : Int) : satA [a, b] (bothA op x) = opB op (vcmp (cellV a x.toNat) (cellV b x.toNat)) := by
  unfold satA bothA atT valN
  simp [cellV, zeroV]
end Go.Proofs.YtlaodgbkpmdhoaaGreatDoor
/- The law DenialFD. -/
set_option linter.unusedVariables false
set_option linter.unusedSimpArgs false
namespace Go.Proofs.YtlaodgbkpmdhoaaGreatDoor
open Go Go.Ab
end Go.Proofs.YtlaodgbkpmdhoaaGreatDoor
/- Denial: constraints from conditional dependencies. -/
set_option linter.unusedVariables false
set_option linter.unusedSimpArgs false
namespace Go.Proofs.YtlaodgbkpmdhoaaGreatDoor
open Go Go.Ab

def ascF (n rhs : Int) : Int → List Int → Bool
  | _, [] => true
  | b, x :: l => (decide (b < x) && (decide (x < n) && decide (x ≠ rhs))) && ascF n rhs x l
def cellB (p : Cell) : Bool := if p.Any = true then ((p.Value.Kind == 0) && ((p.Value.Num == 0) && (p.Value.Str == []))) else valid p.Value
def cfdB (n : Int) (c : CFD) : Bool := decide (0 ≤ n ∧ n ≤ 16 ∧ 0 ≤ c.Rhs ∧ c.Rhs < n ∧ c.Pattern.length = c.Lhs.length + 1) && (ascF n c.Rhs (-1) c.Lhs && c.Pattern.all cellB)
theorem Valid_1c (p : Cell) : conditional_Valid_1 p = some (!cellB p) := by
  unfold conditional_Valid_1 cellB
  by_cases h : p.Any = true
  · rw [if_pos h, if_pos h]
    cases ((p.Value.Kind == 0) && ((p.Value.Num == 0) && (p.Value.Str == []))) <;> rfl
  · rw [if_neg h, if_neg h, value_Valid_eq, Option.bind_some]
theorem ContainsFunc_Cell_eq (l : List Cell) (f : Cell → Option Bool) (p : Cell → Bool) (hf : ∀ x ∈ l, f x = some (p x)) (hl : l.length ≤ 1000000) : slices_ContainsFunc_Cell l f = some (l.any p) := by
  have h := LoopF_find l (slices_IndexFunc_Cell_l1 l f) p
    (fun k x hx hk hp => by simp [slices_IndexFunc_Cell_l1, lt_true hx, idx_get hx, hf x (List.mem_of_getElem? hx), hp, wrap_succ hk (by omega)])
    (fun k x hx hp => by simp [slices_IndexFunc_Cell_l1, lt_true hx, idx_get hx, hf x (List.mem_of_getElem? hx), hp])
    (by simp [slices_IndexFunc_Cell_l1])
  have hI : slices_IndexFunc_Cell l f = some (match l.findIdx? p with | some i => (i : Int) | none => -1) := by
    simp only [slices_IndexFunc_Cell, h, Option.bind_some]
    cases l.findIdx? p <;> rfl
  simp only [slices_ContainsFunc_Cell, hI, Option.bind_some]
  exact congrArg some (findIdx_any p l)
theorem asc_l1 (n : Int) (c : CFD) (hl : c.Lhs.length ≤ 1000000) : ∀ (r : List Int) (k : Nat) (b : Int), c.Lhs.drop k = r → k ≤ c.Lhs.length → LoopF (conditional_Valid_l1 n c) (b, (k : Int)) = some (if ascF n c.Rhs b r = true then .inl () else .inr false)
  | [], k, b, hd, hk => by
    have := drop_n18 hd hk
    subst this
    exact Loop_done (by simp [conditional_Valid_l1, ascF])
  | x :: r, k, b, hd, hk => by
    obtain ⟨x1, x2, x3⟩ := drop_c18 hd
    by_cases h1 : x ≤ b
    · rw [Loop_done (t := .inr false) (by simp only [conditional_Valid_l1, if_pos (lt_true x1), idx_get x1, Option.bind_some, if_pos h1])]
      simp [ascF, show ¬ b < x by omega]
    · by_cases h2 : x ≥ n
      · rw [Loop_done (t := .inr false) (by simp only [conditional_Valid_l1, if_pos (lt_true x1), idx_get x1, Option.bind_some, if_neg h1, if_pos h2])]
        simp [ascF, show ¬ x < n by omega]
      · by_cases h3 : x = c.Rhs
        · rw [Loop_done (t := .inr false) (by simp only [conditional_Valid_l1, if_pos (lt_true x1), idx_get x1, Option.bind_some, if_neg h1, if_neg h2, if_pos (show (x == c.Rhs) = true by simpa using h3)])]
          simp [ascF, h3]
        · rw [Loop_next (s' := (x, ((k + 1 : Nat) : Int))) (by simp only [conditional_Valid_l1, if_pos (lt_true x1), idx_get x1, Option.bind_some, if_neg h1, if_neg h2, if_neg (show ¬ (x == c.Rhs) = true by simpa using h3), wrap_succ x3 (show c.Lhs.length ≤ 4611686018427387904 by omega)])]
          rw [asc_l1 n c hl r (k + 1) x x2 x3]
          simp [ascF, show b < x by omega, show x < n by omega, h3]
theorem CValid_eq (n : Int) (c : CFD) (h1 : c.Lhs.length ≤ 1000000) (h2 : c.Pattern.length ≤ 1000000) : conditional_Valid n c = some (cfdB n c) := by
  have hL := asc_l1 n c h1 c.Lhs 0 (-1) rfl (Nat.zero_le _)
  have hL' : LoopF (conditional_Valid_l1 n c) (-1, 0) = _ := hL
  unfold conditional_Valid cfdB
  by_cases a1 : n < 0
  · rw [if_pos a1]; simp [show ¬ 0 ≤ n by omega]
  rw [if_neg a1]
  by_cases a2 : n > 16
  · rw [if_pos a2]; simp [show ¬ n ≤ 16 by omega]
  rw [if_neg a2]
  by_cases a3 : c.Rhs < 0
  · rw [if_pos a3]; simp [show ¬ 0 ≤ c.Rhs by omega]
  rw [if_neg a3]
  by_cases a4 : c.Rhs ≥ n
  · rw [if_pos a4]; simp [show ¬ c.Rhs < n by omega]
  rw [if_neg a4]
  have hw : IntKind.i64.wrap ((c.Lhs.length : Int) + 1) = ((c.Lhs.length + 1 : Nat) : Int) := wrap_nat (by omega)
  rw [hw]
  by_cases a5 : c.Pattern.length = c.Lhs.length + 1
  · rw [if_neg (by rw [a5]; simp), hL', Option.bind_some]
    have e : (0 ≤ n ∧ n ≤ 16 ∧ 0 ≤ c.Rhs ∧ c.Rhs < n ∧ c.Pattern.length = c.Lhs.length + 1) := ⟨by omega, by omega, by omega, by omega, a5⟩
    simp only [e, and_self, decide_true, Bool.true_and]
    cases ascF n c.Rhs (-1) c.Lhs with
    | false => simp
    | true =>
      simp only [if_true, Bool.true_and, ContainsFunc_Cell_eq c.Pattern _ (fun p => !cellB p) (fun p _ => Valid_1c p) h2, Option.bind_some, any_not]
  · rw [if_pos (by simp only [bne_iff_ne, ne_eq]; omega)]; simp [a5]
theorem ref_asc (n rhs : Int) : ∀ (l : List Int) (k : Nat) (L : List Int) (b : Int), L.drop k = l → (k = 0 → b = -1) → (∀ m, k = m + 1 → L[m]? = some b ∧ 0 ≤ b) →
    allFrom (fun k x => (decide (0 ≤ x) && (decide (x < n) && decide (x ≠ rhs))) && (decide (k = 0) || decide (L.getD (k - 1) 0 < x))) k l = ascF n rhs b l
  | [], _, _, _, _, _, _ => rfl
  | x :: l, k, L, b, hd, h0, hm => by
    obtain ⟨x1, x2, x3⟩ := drop_c18 hd
    have hhead : ((decide (0 ≤ x) && (decide (x < n) && decide (x ≠ rhs))) && (decide (k = 0) || decide (L.getD (k - 1) 0 < x))) = (decide (b < x) && (decide (x < n) && decide (x ≠ rhs))) := by
      cases k with
      | zero =>
        have := h0 rfl
        subst this
        rw [Bool.eq_iff_iff]; simp; omega
      | succ m =>
        obtain ⟨g1, g2⟩ := hm m rfl
        rw [Nat.add_sub_cancel, getD_g18 g1, Bool.eq_iff_iff]
        simp; omega
    rw [allFrom, ascF, hhead]
    by_cases hb : b < x
    · rw [ref_asc n rhs l (k + 1) L x x2 (fun h => by omega) (fun m hmk => by
        have : m = k := by omega
        subst this
        refine ⟨x1, ?_⟩
        cases m with
        | zero => have := h0 rfl; omega
        | succ q => have := (hm q rfl).2; omega)]
    · simp [hb]
theorem ref_CValid_eq (n : Int) (c : CFD) (h1 : c.Lhs.length ≤ 1000000) (h2 : c.Pattern.length ≤ 1000000) : drossref16_Valid n c = some (cfdB n c) := by
  have hA := LoopF_allk c.Lhs (drossref16_Valid_l1 n c) (fun k x => (decide (0 ≤ x) && (decide (x < n) && decide (x ≠ c.Rhs))) && (decide (k = 0) || decide (c.Lhs.getD (k - 1) 0 < x))) false
    (fun k x hx hk hp => by
      simp only [Bool.and_eq_true, decide_eq_true_eq, Bool.or_eq_true] at hp
      obtain ⟨⟨p1, p2, p3⟩, p4⟩ := hp
      simp only [drossref16_Valid_l1, if_pos (lt_true hx), idx_get hx, Option.bind_some, if_neg (show ¬ x < 0 by omega), if_neg (show ¬ x ≥ n by omega), if_neg (show ¬ (x == c.Rhs) = true by simpa using p3), wrap_succ hk (show c.Lhs.length ≤ 4611686018427387904 by omega)]
      cases k with
      | zero => simp
      | succ m =>
        have hm : c.Lhs[m]? = some (c.Lhs.getD m 0) := by
          have : m < c.Lhs.length := by omega
          rw [List.getD_eq_getElem?_getD, List.getElem?_eq_getElem this]; rfl
        have hw : IntKind.i64.wrap (((m + 1 : Nat) : Int) - 1) = (m : Int) := wrap_last (by omega)
        have p5 : c.Lhs.getD m 0 < x := by rcases p4 with h | h; · omega
                                           · simpa using h
        rw [if_pos (by omega), hw, idx_get hm, Option.bind_some, if_neg (by omega)])
    (fun k x hx hp => by
      have hk := lt_of_get hx
      simp only [drossref16_Valid_l1, if_pos (lt_true hx), idx_get hx, Option.bind_some]
      by_cases q1 : x < 0
      · rw [if_pos q1]
      rw [if_neg q1]
      by_cases q2 : x ≥ n
      · rw [if_pos q2]
      rw [if_neg q2]
      by_cases q3 : x = c.Rhs
      · rw [if_pos (by simpa using q3)]
      rw [if_neg (by simpa using q3)]
      have p0 : (decide (0 ≤ x) && (decide (x < n) && decide (x ≠ c.Rhs))) = true := by
        simp only [Bool.and_eq_true, decide_eq_true_eq]; exact ⟨by omega, by omega, q3⟩
      rw [p0, Bool.true_and, Bool.or_eq_false_iff] at hp
      cases k with
      | zero => simp at hp
      | succ m =>
        have hm : c.Lhs[m]? = some (c.Lhs.getD m 0) := by
          have : m < c.Lhs.length := by omega
          rw [List.getD_eq_getElem?_getD, List.getElem?_eq_getElem this]; rfl
        have hw : IntKind.i64.wrap (((m + 1 : Nat) : Int) - 1) = (m : Int) := wrap_last (by omega)
        have p5 : ¬ c.Lhs.getD m 0 < x := by have := hp.2; simpa using this
        rw [if_pos (by omega), hw, idx_get hm, Option.bind_some, if_pos (by omega)])
    (by simp [drossref16_Valid_l1]) c.Lhs 0 rfl (Nat.zero_le _)
  rw [ref_asc n c.Rhs c.Lhs 0 c.Lhs (-1) rfl (fun _ => rfl) (fun m h => by omega)] at hA
  have hA' : LoopF (drossref16_Valid_l1 n c) 0 = _ := hA
  have hP := LoopF_all c.Pattern (drossref16_Valid_l2 c) cellB false
    (fun k p hx hk hp => by
      simp only [drossref16_Valid_l2, if_pos (lt_true hx), idx_get hx, Option.bind_some, ref_Valid_eq, wrap_succ hk (show c.Pattern.length ≤ 4611686018427387904 by omega)]
      unfold cellB at hp
      by_cases ha : p.Any = true
      · rw [if_pos ha] at hp ⊢
        rw [if_pos hp]
        have hv : valid p.Value = true := by
          simp only [Bool.and_eq_true, beq_iff_eq] at hp
          simp [valid, hp.1, hp.2.1, hp.2.2]
        rw [if_pos hv]
      · rw [if_neg ha] at hp ⊢
        rw [if_pos hp])
    (fun k p hx hp => by
      simp only [drossref16_Valid_l2, if_pos (lt_true hx), idx_get hx, Option.bind_some, ref_Valid_eq]
      unfold cellB at hp
      by_cases ha : p.Any = true
      · rw [if_pos ha] at hp ⊢
        rw [if_neg (by rw [hp]; simp)]
      · rw [if_neg ha] at hp ⊢
        rw [if_neg (by rw [hp]; simp)])
    (by simp [drossref16_Valid_l2])
  unfold drossref16_Valid cfdB
  by_cases a1 : n < 0
  · rw [if_pos a1]; simp [show ¬ 0 ≤ n by omega]
  rw [if_neg a1]
  by_cases a2 : n > 16
  · rw [if_pos a2]; simp [show ¬ n ≤ 16 by omega]
  rw [if_neg a2]
  have hw : IntKind.i64.wrap ((c.Lhs.length : Int) + 1) = ((c.Lhs.length + 1 : Nat) : Int) := wrap_nat (by omega)
  rw [hw]
  by_cases a5 : c.Pattern.length = c.Lhs.length + 1
  · rw [if_neg (by rw [a5]; simp)]
    by_cases a3 : c.Rhs < 0
    · rw [if_pos a3]; simp [show ¬ 0 ≤ c.Rhs by omega]
    rw [if_neg a3]
    by_cases a4 : c.Rhs ≥ n
    · rw [if_pos a4]; simp [show ¬ c.Rhs < n by omega]
    rw [if_neg a4, hA', Option.bind_some]
    have e : (0 ≤ n ∧ n ≤ 16 ∧ 0 ≤ c.Rhs ∧ c.Rhs < n ∧ c.Pattern.length = c.Lhs.length + 1) := ⟨by omega, by omega, by omega, by omega, a5⟩
    simp only [e, and_self, decide_true, Bool.true_and]
    cases ascF n c.Rhs (-1) c.Lhs with
    | false => simp
    | true =>
      simp only [if_true, Bool.true_and, hP, Option.bind_some]
      cases c.Pattern.all cellB <;> rfl
  · rw [if_pos (by simp only [bne_iff_ne, ne_eq]; omega)]; simp [a5]
/-! ### the constraints -/
def isA (op a : Int) (v : Value) : Atom := ⟨atT 1 a, op, ⟨0, 0, v⟩⟩
def zipC (c : CFD) : List (Int × Cell) := c.Lhs.zip c.Pattern
def oneF (o : List Atom) (q : Int × Cell) : List Atom := if q.2.Any = true then o else o ++ [isA 1 q.1 q.2.Value]
def twoF (o : List Atom) (q : Int × Cell) : List Atom := if q.2.Any = true then o ++ [bothA 1 q.1] else (o ++ [bothA 1 q.1]) ++ [isA 1 q.1 q.2.Value]
def oneC (c : CFD) : List Atom := (zipC c).foldl oneF []
def twoC (c : CFD) : List Atom := (zipC c).foldl twoF []
theorem zip_get {c : CFD} (h : c.Pattern.length = c.Lhs.length + 1) {k : Nat} {q : Int × Cell} (hq : (zipC c)[k]? = some q) : c.Lhs[k]? = some q.1 ∧ c.Pattern[k]? = some q.2 := by
  unfold zipC at hq
  rw [List.getElem?_zip_eq_some] at hq
  exact hq
theorem zip_len {c : CFD} (h : c.Pattern.length = c.Lhs.length + 1) : (zipC c).length = c.Lhs.length := by
  unfold zipC; rw [List.length_zip]; omega
theorem cfd_loopP {c : CFD} (h : c.Pattern.length = c.Lhs.length + 1) (hl : c.Lhs.length ≤ 20) : LoopF (denial_FromCFD_l1 c) ([], [], 0) = some (oneC c, twoC c) := by
  have hz := zip_len h
  have hL := LoopF_foldl (zipC c) (fun (b : List Atom × List Atom) (i : Int) => (b.1, b.2, i)) (denial_FromCFD_l1 c) (fun b q => (oneF b.1 q, twoF b.2 q)) id (fun k b => b.1.length ≤ k ∧ b.2.length ≤ 2 * k) (b0 := ([], [])) (s0 := ([], [], 0)) rfl ⟨by simp, by simp⟩
    (fun k b q hq hk hI => by
      obtain ⟨hI1, hI2⟩ := hI
      obtain ⟨g1, g2⟩ := zip_get h hq
      constructor
      · simp only [denial_FromCFD_l1, if_pos (lt_true g1), idx_get g1, idx_get g2, Option.bind_some, both_eq, denial_is, denial_of, room_le (show b.2.length + 1 ≤ 1073741824 by omega) (show 104 ≤ 65536 by omega), room_le (show b.2.length + 1 + 1 ≤ 1073741824 by omega) (show 104 ≤ 65536 by omega), room_le (show b.1.length + 1 ≤ 1073741824 by omega) (show 104 ≤ 65536 by omega), if_true, wrap_succ hk (show (zipC c).length ≤ 4611686018427387904 by omega)]
        unfold oneF twoF
        by_cases ha : q.2.Any = true
        · rw [if_pos ha, if_pos ha, if_pos ha]
        · rw [if_neg ha, if_neg ha, if_neg ha]; rfl
      · unfold oneF twoF
        by_cases ha : q.2.Any = true
        · rw [if_pos ha, if_pos ha]; simp; omega
        · rw [if_neg ha, if_neg ha]; simp; omega)
    (fun b _ => by simp [denial_FromCFD_l1, hz])
  have key : ∀ (l : List (Int × Cell)) (b : List Atom × List Atom), l.foldl (fun b q => (oneF b.1 q, twoF b.2 q)) b = (l.foldl oneF b.1, l.foldl twoF b.2) := by
    intro l
    induction l with
    | nil => intro b; rfl
    | cons q l ih => intro b; rw [List.foldl_cons, ih]; rfl
  rw [hL, id, key]
  rfl
theorem cfd_loopR {c : CFD} (h : c.Pattern.length = c.Lhs.length + 1) (hl : c.Lhs.length ≤ 20) : LoopF (drossref18_FromCFD_l1 c) ([], [], 0) = some (oneC c, twoC c) := by
  have hz := zip_len h
  have hL := LoopF_foldl (zipC c) (fun (b : List Atom × List Atom) (i : Int) => (b.1, b.2, i)) (drossref18_FromCFD_l1 c) (fun b q => (oneF b.1 q, twoF b.2 q)) id (fun k b => b.1.length ≤ k ∧ b.2.length ≤ 2 * k) (b0 := ([], [])) (s0 := ([], [], 0)) rfl ⟨by simp, by simp⟩
    (fun k b q hq hk hI => by
      obtain ⟨hI1, hI2⟩ := hI
      obtain ⟨g1, g2⟩ := zip_get h hq
      constructor
      · simp only [drossref18_FromCFD_l1, if_pos (lt_true g1), idx_get g1, idx_get g2, Option.bind_some, equal_eq, drossref18_at, room_le (show b.2.length + 1 ≤ 1073741824 by omega) (show 104 ≤ 65536 by omega), room_le (show b.2.length + 1 + 1 ≤ 1073741824 by omega) (show 104 ≤ 65536 by omega), room_le (show b.1.length + 1 ≤ 1073741824 by omega) (show 104 ≤ 65536 by omega), if_true, wrap_succ hk (show (zipC c).length ≤ 4611686018427387904 by omega)]
        unfold oneF twoF
        by_cases ha : q.2.Any = true
        · rw [if_pos ha, if_pos ha, if_pos ha]
        · rw [if_neg ha, if_neg ha, if_neg ha]; rfl
      · unfold oneF twoF
        by_cases ha : q.2.Any = true
        · rw [if_pos ha, if_pos ha]; simp; omega
        · rw [if_neg ha, if_neg ha]; simp; omega)
    (fun b _ => by simp [drossref18_FromCFD_l1, hz])
  have key : ∀ (l : List (Int × Cell)) (b : List Atom × List Atom), l.foldl (fun b q => (oneF b.1 q, twoF b.2 q)) b = (l.foldl oneF b.1, l.foldl twoF b.2) := by
    intro l
    induction l with
    | nil => intro b; rfl
    | cons q l ih => intro b; rw [List.foldl_cons, ih]; rfl
  rw [hL, id, key]
  rfl
def lastC (c : CFD) : Cell := c.Pattern.getD c.Lhs.length ⟨true, ⟨0, 0, []⟩⟩
def cfdL (c : CFD) : List Denial × Int := if (twoC c).length + 1 > 20 then ([], 3) else if (lastC c).Any = true then ([⟨2, twoC c ++ [bothA 2 c.Rhs]⟩], 0) else ([⟨1, oneC c ++ [isA 2 c.Rhs (lastC c).Value]⟩, ⟨2, twoC c ++ [bothA 2 c.Rhs]⟩], 0)
def cfdR (n : Int) (c : CFD) : List Denial × Int := if cfdB n c = true then cfdL c else ([], 1)
theorem last_get {c : CFD} (h : c.Pattern.length = c.Lhs.length + 1) : c.Pattern[c.Lhs.length]? = some (lastC c) := by
  unfold lastC
  rw [List.getD_eq_getElem?_getD, List.getElem?_eq_getElem (by omega)]; rfl
theorem foldO_len : ∀ (l : List (Int × Cell)) (o : List Atom), (l.foldl oneF o).length ≤ o.length + l.length
  | [], o => by simp
  | q :: l, o => by
    rw [List.foldl_cons]
    have h1 := foldO_len l (oneF o q)
    have h2 : (oneF o q).length ≤ o.length + 1 := by unfold oneF; split <;> simp
    rw [List.length_cons]; omega
theorem foldT_len : ∀ (l : List (Int × Cell)) (o : List Atom), (l.foldl twoF o).length ≤ o.length + 2 * l.length
  | [], o => by simp
  | q :: l, o => by
    rw [List.foldl_cons]
    have h1 := foldT_len l (twoF o q)
    have h2 : (twoF o q).length ≤ o.length + 2 := by unfold twoF; split <;> simp
    rw [List.length_cons]; omega
theorem cfdB_parts {n : Int} {c : CFD} (h : cfdB n c = true) : (0 ≤ n ∧ n ≤ 16 ∧ 0 ≤ c.Rhs ∧ c.Rhs < n ∧ c.Pattern.length = c.Lhs.length + 1) ∧ ascF n c.Rhs (-1) c.Lhs = true ∧ ∀ p ∈ c.Pattern, cellB p = true := by
  simpa only [cfdB, Bool.and_eq_true, decide_eq_true_eq, List.all_eq_true] using h
theorem FromCFD_eq (n : Int) (c : CFD) (h1 : c.Lhs.length ≤ 20) (h2 : c.Pattern.length ≤ 20) : denial_FromCFD n c = some (cfdR n c) := by
  unfold denial_FromCFD denial_inRange cfdR
  by_cases hn : n ≥ 0
  · rw [if_pos hn, Option.bind_some]
    by_cases hn2 : n ≤ 16
    · simp only [hn2, decide_true, if_true, CValid_eq n c (by omega) (by omega), Option.bind_some]
      cases hv : cfdB n c with
      | false => simp
      | true =>
        obtain ⟨⟨_, _, _, _, hp⟩, _, _⟩ := cfdB_parts hv
        have hz := zip_len hp
        have l1 := foldO_len (zipC c) []
        have l2 := foldT_len (zipC c) []
        have l1' : (oneC c).length ≤ 20 := by unfold oneC; simp at l1; omega
        have l2' : (twoC c).length ≤ 40 := by unfold twoC; simp at l2; omega
        simp only [if_true, cfd_loopP hp h1, Option.bind_some, idx_get (last_get hp), both_eq, denial_is, denial_of, room_le (show (twoC c).length + 1 ≤ 1073741824 by omega) (show 104 ≤ 65536 by omega), room_le (show (oneC c).length + 1 ≤ 1073741824 by omega) (show 104 ≤ 65536 by omega)]
        unfold cfdL
        by_cases h20 : (twoC c).length + 1 > 20
        · rw [if_pos (by omega), if_pos h20]
        · rw [if_neg (by omega), if_neg h20]
          by_cases ha : (lastC c).Any = true
          · rw [if_pos ha, if_pos ha]
          · rw [if_neg ha, if_neg ha]; rfl
    · have hb : cfdB n c = false := by unfold cfdB; simp [hn2]
      simp [hn2, hb]
  · have hb : cfdB n c = false := by unfold cfdB; simp [show ¬ 0 ≤ n by omega]
    rw [if_neg hn, Option.bind_some]; simp [hb]
theorem ref_FromCFD_eq (n : Int) (c : CFD) (h1 : c.Lhs.length ≤ 20) (h2 : c.Pattern.length ≤ 20) : drossref18_FromCFD n c = some (cfdR n c) := by
  unfold drossref18_FromCFD drossref18_range16 cfdR
  by_cases hn : n ≥ 0
  · rw [if_pos hn, Option.bind_some]
    by_cases hn2 : n ≤ 16
    · simp only [hn2, decide_true, if_true, ref_CValid_eq n c (by omega) (by omega), Option.bind_some]
      cases hv : cfdB n c with
      | false => simp
      | true =>
        obtain ⟨⟨_, _, _, _, hp⟩, _, _⟩ := cfdB_parts hv
        have hz := zip_len hp
        have l1 := foldO_len (zipC c) []
        have l2 := foldT_len (zipC c) []
        have l1' : (oneC c).length ≤ 20 := by unfold oneC; simp at l1; omega
        have l2' : (twoC c).length ≤ 40 := by unfold twoC; simp at l2; omega
        simp only [if_true, cfd_loopR hp h1, Option.bind_some, idx_get (last_get hp), drossref18_at, room_le (show (twoC c).length + 1 ≤ 1073741824 by omega) (show 104 ≤ 65536 by omega), room_le (show (oneC c).length + 1 ≤ 1073741824 by omega) (show 104 ≤ 65536 by omega)]
        unfold cfdL
        by_cases h20 : (twoC c).length + 1 > 20
        · rw [if_pos (by omega), if_pos h20]
        · rw [if_neg (by omega), if_neg h20]
          by_cases ha : (lastC c).Any = true
          · rw [if_pos ha, if_pos ha]; rfl
          · rw [if_neg ha, if_neg ha]; rfl
    · have hb : cfdB n c = false := by unfold cfdB; simp [hn2]
      simp [hn2, hb]
  · have hb : cfdB n c = false := by unfold cfdB; simp [show ¬ 0 ≤ n by omega]
    rw [if_neg hn, Option.bind_some]; simp [hb]
end Go.Proofs.YtlaodgbkpmdhoaaGreatDoor
/- The law DenialNegate. -/
set_option linter.unusedVariables false
set_option linter.unusedSimpArgs false
namespace Go.Proofs.YtlaodgbkpmdhoaaGreatDoor
open Go Go.Ab
theorem viol_one {t : Table} {d : Denial} (hv : d.Vars = 1) (z : List Int) : z ∈ violL t d ↔ ∃ a ∈ t.Rows, d.Atoms.all (satA [a]) = true ∧ z = [a.ID] := by
  have hone : ∀ a : Row, idsA [a] = [a.ID] := fun a => idsA_of (List.Perm.refl _) (by simp)
  unfold violL
  rw [hv]
  constructor
  · intro hz
    obtain ⟨c, hc, rfl⟩ := List.mem_map.1 hz
    obtain ⟨hc1, hc2⟩ := List.mem_filter.1 hc
    obtain ⟨g1, g2, g3⟩ := asgN_mem hc1
    match c, g1, g2, hc2 with
    | [x], _, g2, hc2 => exact ⟨x, g2 x (by simp), hc2, hone x⟩
  · rintro ⟨a, ha, hs, rfl⟩
    exact List.mem_map.2 ⟨[a], List.mem_filter.2 ⟨asgN_of rfl (by simp [ha]) (by simp), hs⟩, hone a⟩
end Go.Proofs.YtlaodgbkpmdhoaaGreatDoor
/- The law DenialCFD. -/
set_option linter.unusedVariables false
set_option linter.unusedSimpArgs false
namespace Go.Proofs.YtlaodgbkpmdhoaaGreatDoor
open Go Go.Ab
def matchB (c : CFD) (a : Row) : Bool := (zipC c).all fun q => q.2.Any || decide (vcmp q.2.Value (cellV a q.1.toNat) = 0)
def oneB (c : CFD) (a : Row) : Bool := !(lastC c).Any && decide (vcmp (lastC c).Value (cellV a c.Rhs.toNat) ≠ 0)
def agC (c : CFD) (a b : Row) : Bool := c.Lhs.all fun i => decide (vcmp (cellV a i.toNat) (cellV b i.toNat) = 0)
def twoB (c : CFD) (a b : Row) : Bool := agC c a b && decide (vcmp (cellV a c.Rhs.toNat) (cellV b c.Rhs.toNat) ≠ 0)
theorem ascF_mem {n rhs : Int} : ∀ {l : List Int} {b : Int}, ascF n rhs b l = true → ∀ x ∈ l, b < x ∧ x < n
  | [], _, _, x, hx => by cases hx
  | y :: l, b, h, x, hx => by
    rw [ascF] at h
    simp only [Bool.and_eq_true, decide_eq_true_eq] at h
    obtain ⟨⟨h1, h2, _⟩, h3⟩ := h
    rcases List.mem_cons.1 hx with rfl | hx
    · exact ⟨h1, h2⟩
    · have := ascF_mem h3 x hx; exact ⟨by omega, this.2⟩
theorem lhs_lt {n : Int} {c : CFD} (h : cfdB n c = true) : ∀ x ∈ c.Lhs, 0 ≤ x ∧ x < n := fun x hx => by
  have := ascF_mem (cfdB_parts h).2.1 x hx
  exact ⟨by omega, this.2⟩
theorem cellI18 {t : Table} (H : DT t) {a : Row} (ha : a ∈ t.Rows) {i : Int} (h0 : 0 ≤ i) (h1 : i < t.Attrs.length) : idx a.Values i = some (cellV a i.toNat) := by
  have hl := ((H.code).1 a ha).1
  rw [idx_at h0]
  unfold cellV
  rw [List.getD_eq_getElem?_getD, List.getElem?_eq_getElem (by omega)]; rfl
theorem cell_cmp {t : Table} (H : DT t) {a : Row} (ha : a ∈ t.Rows) (i : Nat) (v : Value) : drossref01_Compare (cellV a i) v = some (vcmp (cellV a i) v) := by
  refine ref_Compare_eq _ _ ?_
  unfold cellV
  rw [List.getD_eq_getElem?_getD]
  cases h : a.Values[i]? with
  | none => simp
  | some w => have := H.str a ha w (List.mem_of_getElem? h); simp; omega
theorem zip_mem {c : CFD} (h : c.Pattern.length = c.Lhs.length + 1) {q : Int × Cell} (hq : q ∈ zipC c) : q.1 ∈ c.Lhs ∧ q.2 ∈ c.Pattern := by
  obtain ⟨k, hk⟩ := List.mem_iff_getElem?.1 hq
  obtain ⟨g1, g2⟩ := zip_get h hk
  exact ⟨List.mem_of_getElem? g1, List.mem_of_getElem? g2⟩
theorem matches_eq {t : Table} (H : DT t) {c : CFD} (hc : cfdB t.Attrs.length c = true) (h20 : c.Lhs.length ≤ 20) (hs : ∀ p ∈ c.Pattern, p.Value.Str.length ≤ 500) {a : Row} (ha : a ∈ t.Rows) : drosslaw18_matches a c = some (matchB c a) := by
  obtain ⟨⟨_, _, _, _, hp⟩, _, _⟩ := cfdB_parts hc
  have hz := zip_len hp
  have hL := LoopF_all (zipC c) (drosslaw18_matches_l1 a c) (fun q => q.2.Any || decide (vcmp q.2.Value (cellV a q.1.toNat) = 0)) false
    (fun k q hq hk hpp => by
      obtain ⟨g1, g2⟩ := zip_get hp hq
      obtain ⟨r1, r2⟩ := lhs_lt hc q.1 (List.mem_of_getElem? g1)
      have hcm := ref_Compare_eq q.2.Value (cellV a q.1.toNat) (by have := hs q.2 (List.mem_of_getElem? g2); omega)
      simp only [drosslaw18_matches_l1, if_pos (lt_true g1), idx_get g1, idx_get g2, Option.bind_some, cellI18 H ha r1 r2, hcm, wrap_succ hk (show (zipC c).length ≤ 4611686018427387904 by omega)]
      cases hany : q.2.Any with
      | true => simp
      | false =>
        rw [hany, Bool.false_or, decide_eq_true_eq] at hpp
        simp [hpp])
    (fun k q hq hpp => by
      obtain ⟨g1, g2⟩ := zip_get hp hq
      obtain ⟨r1, r2⟩ := lhs_lt hc q.1 (List.mem_of_getElem? g1)
      have hcm := ref_Compare_eq q.2.Value (cellV a q.1.toNat) (by have := hs q.2 (List.mem_of_getElem? g2); omega)
      rw [Bool.or_eq_false_iff, decide_eq_false_iff_not] at hpp
      have hne : (vcmp q.2.Value (cellV a q.1.toNat) != 0) = true := by simpa using hpp.2
      simp only [drosslaw18_matches_l1, if_pos (lt_true g1), idx_get g1, idx_get g2, Option.bind_some, cellI18 H ha r1 r2, hcm, hpp.1, Bool.false_eq_true, if_false, if_pos hne])
    (by simp [drosslaw18_matches_l1, hz])
  unfold drosslaw18_matches matchB
  rw [hL, Option.bind_some]
  cases ((zipC c).all fun q => q.2.Any || decide (vcmp q.2.Value (cellV a q.1.toNat) = 0)) <;> rfl
theorem agree_all {t : Table} (H : DT t) {c : CFD} (hc : cfdB t.Attrs.length c = true) (h20 : c.Lhs.length ≤ 20) {a b : Row} (ha : a ∈ t.Rows) (hb : b ∈ t.Rows) :
    slices_ContainsFunc_int c.Lhs (fun y => drosslaw18_DenialCFD_1 y a b) = some (!agC c a b) := by
  rw [ContainsFunc_int_eq c.Lhs _ (fun y => !decide (vcmp (cellV a y.toNat) (cellV b y.toNat) = 0)) (fun y hy => by
    obtain ⟨r1, r2⟩ := lhs_lt hc y hy
    simp only [drosslaw18_DenialCFD_1, cellI18 H ha r1 r2, cellI18 H hb r1 r2, Option.bind_some, cell_cmp H ha]
    rfl) (by omega), any_not_all]
  rfl
theorem search_l41 (out : List (List Int)) (a : Row) (hl : out.length ≤ 1000000) (ho : ∀ y ∈ out, y.length ≤ 3) : LoopF (drosslaw18_DenialCFD_l41 out a) 0 = some (if [a.ID] ∈ out then .inr () else .inl ()) := search_l5 out [a.ID] hl (fun y hy => by have := ho y hy; omega) (by simp)
theorem ins_l42 (out : List (List Int)) (x : List Int) (hl : out.length ≤ 1000000) (ho : ∀ y ∈ out, y.length ≤ 3) (hx : x.length ≤ 3) (hm : x ∉ out) : LoopF drosslaw18_DenialCFD_l42 (out ++ [x], IntKind.i64.wrap ((((out.length + 1) : Nat) : Int) - 1)) = some (putL out x) := ins_l6 out x hl (fun y hy => by have := ho y hy; omega) (by omega) hm
theorem search_l47 (out : List (List Int)) (a b : Row) (hl : out.length ≤ 1000000) (ho : ∀ y ∈ out, y.length ≤ 3) : LoopF (drosslaw18_DenialCFD_l47 a out b) 0 = some (if [a.ID, b.ID] ∈ out then .inr () else .inl ()) := search_l5 out [a.ID, b.ID] hl (fun y hy => by have := ho y hy; omega) (by simp)
theorem ins_l48 (out : List (List Int)) (x : List Int) (hl : out.length ≤ 1000000) (ho : ∀ y ∈ out, y.length ≤ 3) (hx : x.length ≤ 3) (hm : x ∉ out) : LoopF drosslaw18_DenialCFD_l48 (out ++ [x], IntKind.i64.wrap ((((out.length + 1) : Nat) : Int) - 1)) = some (putL out x) := ins_l6 out x hl (fun y hy => by have := ho y hy; omega) (by omega) hm
theorem putL_short {out : List (List Int)} {x : List Int} (ho : ∀ y ∈ out, y.length ≤ 3) (hx : x.length ≤ 3) : ∀ y ∈ putL out x, y.length ≤ 3 := by
  intro y hy
  rcases (putL_mem _ _ _).1 hy with hy | rfl
  · exact ho y hy
  · exact hx
def pairC (c : CFD) (a : Row) (l : List Row) : List (List Int) := (l.filter (twoB c a)).map fun b => [a.ID, b.ID]
theorem pairs_l49 {t : Table} (H : DT t) {c : CFD} (hc : cfdB t.Attrs.length c = true) (h20 : c.Lhs.length ≤ 20) (f : Bool) {k : Nat} {a : Row} (hk : t.Rows[k]? = some a) (out : List (List Int)) (ho : out.length ≤ 1000) (hos : ∀ y ∈ out, y.length ≤ 3) :
    LoopF (drosslaw18_DenialCFD_l49 c (t, f) (k : Int) a) (out, 0) = some ((pairC c a (t.Rows.drop (k + 1))).foldl putL out) := by
  have hlt := lt_of_get hk
  have hf := H.few
  have hw : (IntKind.i64.wrap ((k : Int) + 1)).toNat = k + 1 := by rw [wrap_nat (by omega)]; simp
  have hl : (((t.Rows.drop (IntKind.i64.wrap ((k : Int) + 1)).toNat).take (t.Rows.length - (IntKind.i64.wrap ((k : Int) + 1)).toNat))) = t.Rows.drop (k + 1) := by rw [hw, drop_take]
  have hlen : (t.Rows.drop (k + 1)).length ≤ 7 := by rw [List.length_drop]; omega
  have ham : a ∈ t.Rows := List.mem_of_getElem? hk
  obtain ⟨⟨_, _, q1, q2, hp⟩, _, _⟩ := cfdB_parts hc
  have h := LoopF_foldl (t.Rows.drop (k + 1)) (fun (b : List (List Int)) (i : Int) => (b, i)) (drosslaw18_DenialCFD_l49 c (t, f) (k : Int) a) (fun o b => if twoB c a b = true then putL o [a.ID, b.ID] else o) id (fun j o => o.length ≤ out.length + j ∧ ∀ y ∈ o, y.length ≤ 3) (b0 := out) (s0 := (out, 0)) rfl ⟨Nat.le_refl _, hos⟩
    (fun j o b hb hj hI => by
      obtain ⟨hI1, hI2⟩ := hI
      have hbm : b ∈ t.Rows := List.mem_of_mem_drop (List.mem_of_getElem? hb)
      constructor
      · simp only [drosslaw18_DenialCFD_l49, hl, if_pos (lt_true hb), idx_get hb, Option.bind_some, agree_all H hc h20 ham hbm, cellI18 H ham q1 q2, cellI18 H hbm q1 q2, cell_cmp H ham, wrap_succ hj (show (t.Rows.drop (k + 1)).length ≤ 4611686018427387904 by omega)]
        unfold twoB
        cases agC c a b with
        | false => simp
        | true =>
          by_cases hr : vcmp (cellV a c.Rhs.toNat) (cellV b c.Rhs.toNat) = 0
          · simp [hr]
          · have hr' : (vcmp (cellV a c.Rhs.toNat) (cellV b c.Rhs.toNat) != 0) = true := by simpa using hr
            simp only [Bool.not_true, Bool.false_eq_true, if_false, Option.bind_some, hr', if_true, search_l47 o a b (by omega) hI2, hr, ne_eq, not_false_eq_true, decide_true, Bool.and_self]
            by_cases hmm : [a.ID, b.ID] ∈ o
            · simp only [if_pos hmm, Option.bind_some, putL]
            · simp only [if_neg hmm, Option.bind_some, room_le (show o.length + 1 ≤ 1073741824 by omega) (show 24 ≤ 65536 by omega), if_true, ins_l48 o [a.ID, b.ID] (by omega) hI2 (by simp) hmm]
      · split
        · exact ⟨by have := putL_len o [a.ID, b.ID]; omega, putL_short hI2 (by simp)⟩
        · exact ⟨by omega, hI2⟩)
    (fun o _ => by simp only [drosslaw18_DenialCFD_l49, hl]; simp)
  rw [h, id, foldl_kp18 (twoB c a) (fun b => [a.ID, b.ID]) putL]
  rfl
theorem l56_l49 : drosslaw18_DenialCFD_l56 = drosslaw18_DenialCFD_l49 := rfl
theorem l63_l49 : drosslaw18_DenialCFD_l63 = drosslaw18_DenialCFD_l49 := rfl
def rowC (c : CFD) (a : Row) (r : List Row) : List (List Int) := if matchB c a = true then (if oneB c a = true then [[a.ID]] else []) ++ pairC c a r else []
def wantC (c : CFD) : List Row → List (List Int)
  | [] => []
  | a :: r => rowC c a r ++ wantC c r
theorem rowC_len (c : CFD) (a : Row) (r : List Row) : (rowC c a r).length ≤ r.length + 1 := by
  unfold rowC pairC
  have := List.length_filter_le (twoB c a) r
  split
  · rw [List.length_append, List.length_map]
    split <;> simp <;> omega
  · simp
theorem rowC_short (c : CFD) (a : Row) (r : List Row) : ∀ y ∈ rowC c a r, y.length ≤ 3 := by
  intro y hy
  unfold rowC pairC at hy
  split at hy
  · rcases List.mem_append.1 hy with hy | hy
    · split at hy
      · rw [List.mem_singleton.1 hy]; simp
      · cases hy
    · obtain ⟨b, _, rfl⟩ := List.mem_map.1 hy; simp
  · cases hy
theorem foldP_short : ∀ (l out : List (List Int)), (∀ y ∈ out, y.length ≤ 3) → (∀ y ∈ l, y.length ≤ 3) → ∀ y ∈ l.foldl putL out, y.length ≤ 3 := fun l out h1 h2 y hy => by
  rcases (foldP_mem y l out).1 hy with hy | hy
  · exact h1 y hy
  · exact h2 y hy
theorem step_l64 {t : Table} (H : DT t) {c : CFD} (hc : cfdB t.Attrs.length c = true) (h20 : c.Lhs.length ≤ 20) (hs : ∀ p ∈ c.Pattern, p.Value.Str.length ≤ 500) (f : Bool) {k : Nat} {a : Row} (hk : t.Rows[k]? = some a) (out : List (List Int)) (ho : out.length ≤ 900) (hos : ∀ y ∈ out, y.length ≤ 3) :
    drosslaw18_DenialCFD_l64 c (t, f) (lastC c) (out, (k : Int)) = some (.next ((rowC c a (t.Rows.drop (k + 1))).foldl putL out, ((k + 1 : Nat) : Int))) := by
  have hlt := lt_of_get hk
  have hf := H.few
  have ham : a ∈ t.Rows := List.mem_of_getElem? hk
  obtain ⟨⟨_, _, q1, q2, hp⟩, _, _⟩ := cfdB_parts hc
  have hw : IntKind.i64.wrap ((k : Int) + 1) = ((k + 1 : Nat) : Int) := wrap_nat (by omega)
  have hcm := ref_Compare_eq (lastC c).Value (cellV a c.Rhs.toNat) (by have := hs _ (List.mem_of_getElem? (last_get hp)); omega)
  have c1 : (0 : Int) ≤ ((k + 1 : Nat) : Int) := by omega
  have c2 : ((k + 1 : Nat) : Int) ≤ (t.Rows.length : Int) := by omega
  simp only [drosslaw18_DenialCFD_l64, if_pos (lt_true hk), idx_get hk, Option.bind_some, matches_eq H hc h20 hs ham, cellI18 H ham q1 q2, hcm, l56_l49, l63_l49]
  unfold rowC
  cases hm : matchB c a with
  | false => simp [hw]
  | true =>
    simp only [if_true]
    have h3 := pairs_l49 H hc h20 f hk out (by omega) hos
    by_cases hone : oneB c a = true
    · have hh := hone
      unfold oneB at hh
      rw [Bool.and_eq_true, decide_eq_true_eq, Bool.not_eq_true'] at hh
      have hne : (vcmp (lastC c).Value (cellV a c.Rhs.toNat) != 0) = true := by simpa using hh.2
      simp only [hh.1, Bool.false_eq_true, if_false, hne, Option.bind_some, if_true, search_l41 out a (by omega) hos, hone]
      by_cases hmm : [a.ID] ∈ out
      · have e : putL out [a.ID] = out := by unfold putL; rw [if_pos hmm]
        simp only [if_pos hmm, Option.bind_some, hw, if_pos c1, if_pos c2, h3, List.foldl_append, List.foldl_cons, List.foldl_nil, e]
      · have hp1 := putL_len out [a.ID]
        have h4 := pairs_l49 H hc h20 f hk (putL out [a.ID]) (by omega) (putL_short hos (by simp))
        simp only [if_neg hmm, Option.bind_some, room_le (show out.length + 1 ≤ 1073741824 by omega) (show 24 ≤ 65536 by omega), if_true, ins_l42 out [a.ID] (by omega) hos (by simp) hmm, hw, if_pos c1, if_pos c2, h4, List.foldl_append, List.foldl_cons, List.foldl_nil]
    · have hsel : (show Option Bool from if (lastC c).Any = true then some false else some (vcmp (lastC c).Value (cellV a c.Rhs.toNat) != 0)) = some false := by
        cases hany : (lastC c).Any with
        | true => simp
        | false =>
          unfold oneB at hone
          rw [hany] at hone
          simp only [Bool.not_false, Bool.true_and, decide_eq_true_eq, ne_eq, Classical.not_not] at hone
          simp [hone]
      simp only [hsel, Option.bind_some, Bool.false_eq_true, if_false, hone, List.nil_append, hw, if_pos c1, if_pos c2, h3]
theorem want_l64 {t : Table} (H : DT t) {c : CFD} (hc : cfdB t.Attrs.length c = true) (h20 : c.Lhs.length ≤ 20) (hs : ∀ p ∈ c.Pattern, p.Value.Str.length ≤ 500) (f : Bool) : LoopF (drosslaw18_DenialCFD_l64 c (t, f) (lastC c)) ([], 0) = some (setO (wantC c t.Rows)) := by
  have hf := H.few
  have key : ∀ (r : List Row) (k : Nat) (out : List (List Int)), t.Rows.drop k = r → k ≤ t.Rows.length → out.length ≤ k * 8 → (∀ y ∈ out, y.length ≤ 3) → LoopF (drosslaw18_DenialCFD_l64 c (t, f) (lastC c)) (out, (k : Int)) = some ((wantC c r).foldl putL out) := by
    intro r
    induction r with
    | nil =>
      intro k out hd hk ho _
      have := drop_n18 hd hk
      subst this
      rw [Loop_done (t := out) (by simp [drosslaw18_DenialCFD_l64])]
      rfl
    | cons a r ih =>
      intro k out hd hk ho hos
      obtain ⟨x1, x2, x3⟩ := drop_c18 hd
      have hst := step_l64 H hc h20 hs f x1 out (by omega) hos
      rw [x2] at hst
      rw [Loop_next hst]
      have hrl : r.length ≤ 7 := by rw [← x2, List.length_drop]; omega
      have h1 := foldP_len (rowC c a r) out
      have h2 := rowC_len c a r
      have hr1 : (rowC c a r).length ≤ 8 := by omega
      rw [ih (k + 1) _ x2 x3 (by omega) (foldP_short _ _ hos (rowC_short c a r))]
      rw [wantC, List.foldl_append]
  exact key t.Rows 0 [] rfl (Nat.zero_le _) (by simp) (by simp)
theorem wantC_mem (c : CFD) (z : List Int) : ∀ (l : List Row), (l.Pairwise fun a b => a.ID < b.ID) → (z ∈ wantC c l ↔ (∃ a ∈ l, matchB c a = true ∧ oneB c a = true ∧ z = [a.ID]) ∨ ∃ a ∈ l, ∃ b ∈ l, a.ID < b.ID ∧ (matchB c a = true ∧ twoB c a b = true) ∧ z = [a.ID, b.ID])
  | [], _ => by simp [wantC]
  | a :: l, h => by
    rw [List.pairwise_cons] at h
    obtain ⟨h1, h2⟩ := h
    rw [wantC, List.mem_append, wantC_mem c z l h2]
    unfold rowC pairC
    constructor
    · rintro (hz | ⟨x, hx, h3⟩ | ⟨x, hx, y, hy, h3⟩)
      · split at hz
        · rename_i hm
          rcases List.mem_append.1 hz with hz | hz
          · split at hz
            · rename_i hone
              exact .inl ⟨a, by simp, hm, hone, List.mem_singleton.1 hz⟩
            · cases hz
          · obtain ⟨b, hb, rfl⟩ := List.mem_map.1 hz
            obtain ⟨hb1, hb2⟩ := List.mem_filter.1 hb
            exact .inr ⟨a, by simp, b, by simp [hb1], h1 b hb1, ⟨hm, hb2⟩, rfl⟩
        · cases hz
      · exact .inl ⟨x, by simp [hx], h3⟩
      · exact .inr ⟨x, by simp [hx], y, by simp [hy], h3⟩
    · rintro (⟨x, hx, h3, h4, h5⟩ | ⟨x, hx, y, hy, h3, ⟨h4, h5⟩, h6⟩)
      · rcases List.mem_cons.1 hx with e1 | hx1
        · rw [e1] at h3 h4 h5
          rw [if_pos h3, if_pos h4]
          exact .inl (List.mem_append.2 (.inl (by simp [h5])))
        · exact .inr (.inl ⟨x, hx1, h3, h4, h5⟩)
      · rcases List.mem_cons.1 hx with e1 | hx1
        · rcases List.mem_cons.1 hy with e2 | hy1
          · rw [e1, e2] at h3; omega
          · rw [e1] at h4 h5 h6
            rw [if_pos h4]
            exact .inl (List.mem_append.2 (.inr (List.mem_map.2 ⟨y, List.mem_filter.2 ⟨hy1, h5⟩, h6.symm⟩)))
        · rcases List.mem_cons.1 hy with e2 | hy1
          · have := h1 x hx1
            rw [e2] at h3; omega
          · exact .inr (.inr ⟨x, hx1, y, hy1, h3, ⟨h4, h5⟩, h6⟩)
theorem wantC_len (c : CFD) : ∀ l : List Row, (wantC c l).length ≤ l.length * (l.length + 1)
  | [] => by simp [wantC]
  | a :: l => by
    rw [wantC, List.length_append]
    have h1 := wantC_len c l
    have h2 := rowC_len c a l
    have e : (a :: l).length * ((a :: l).length + 1) = l.length * (l.length + 1) + (l.length + 1) + (l.length + 1) := by
      rw [List.length_cons, Nat.succ_mul, Nat.mul_succ]; omega
    omega
/-! ### the constraints' meaning -/
theorem foldO_all (f : Atom → Bool) : ∀ (l : List (Int × Cell)) (o : List Atom), (l.foldl oneF o).all f = (o.all f && l.all fun q => q.2.Any || f (isA 1 q.1 q.2.Value))
  | [], o => by simp
  | q :: l, o => by
    rw [List.foldl_cons, foldO_all f l, List.all_cons]
    unfold oneF
    cases q.2.Any <;> simp [Bool.and_assoc]
theorem foldT_all (f : Atom → Bool) : ∀ (l : List (Int × Cell)) (o : List Atom), (l.foldl twoF o).all f = (o.all f && l.all fun q => f (bothA 1 q.1) && (q.2.Any || f (isA 1 q.1 q.2.Value)))
  | [], o => by simp
  | q :: l, o => by
    rw [List.foldl_cons, foldT_all f l, List.all_cons]
    unfold twoF
    cases q.2.Any <;> simp [Bool.and_assoc]
theorem foldOT_len : ∀ (l : List (Int × Cell)) (o p : List Atom), o.length ≤ p.length → (l.foldl oneF o).length ≤ (l.foldl twoF p).length
  | [], o, p, h => h
  | q :: l, o, p, h => by
    rw [List.foldl_cons, List.foldl_cons]
    refine foldOT_len l _ _ ?_
    unfold oneF twoF
    split <;> simp <;> omega
theorem sat_is (a : Row) (r : List Row) (op x : Int) (v : Value) : satA (a :: r) (isA op x v) = opB op (vcmp (cellV a x.toNat) v) := by
  unfold satA isA atT valN
  simp [cellV, zeroV]
theorem vz_symm (a b : Value) : (vcmp a b = 0) = (vcmp b a = 0) := by
  have := vcmp_neg a b
  apply propext
  omega
theorem is_one (a : Row) (r : List Row) (x : Int) (v : Value) : satA (a :: r) (isA 1 x v) = decide (vcmp v (cellV a x.toNat) = 0) := by
  rw [sat_is]; unfold opB
  rw [if_pos rfl]
  simp only [vz_symm (cellV a x.toNat) v]
theorem one_sat (c : CFD) (a : Row) (r : List Row) : (oneC c).all (satA (a :: r)) = matchB c a := by
  unfold oneC matchB
  rw [foldO_all]
  simp only [List.all_nil, Bool.true_and, is_one]
theorem zip_all {c : CFD} (h : c.Pattern.length = c.Lhs.length + 1) (g : Int → Bool) : ((zipC c).all fun q => g q.1) = c.Lhs.all g := by
  have e : (zipC c).map Prod.fst = c.Lhs := List.map_fst_zip (by omega)
  have : ((zipC c).map Prod.fst).all g = ((zipC c).all fun q => g q.1) := by rw [List.all_map]; rfl
  rw [← this, e]
theorem all_and {α : Type} (f g : α → Bool) (l : List α) : (l.all fun x => f x && g x) = (l.all f && l.all g) := by
  induction l with
  | nil => rfl
  | cons x l ih =>
    rw [List.all_cons, List.all_cons, List.all_cons, ih]
    cases f x <;> cases g x <;> simp
theorem two_sat {c : CFD} (h : c.Pattern.length = c.Lhs.length + 1) (a b : Row) : (twoC c).all (satA [a, b]) = (agC c a b && matchB c a) := by
  unfold twoC
  rw [foldT_all, List.all_nil, Bool.true_and, all_and (fun q : Int × Cell => satA [a, b] (bothA 1 q.1)), zip_all h (fun x => satA [a, b] (bothA 1 x))]
  unfold agC matchB
  simp only [is_one, sat_bothI, opB, if_true]
theorem oneD_sat (c : CFD) (a : Row) (hany : (lastC c).Any = false) : ((oneC c ++ [isA 2 c.Rhs (lastC c).Value]).all (satA [a])) = (matchB c a && oneB c a) := by
  rw [List.all_append, one_sat]
  unfold oneB
  rw [hany]
  simp only [List.all_cons, List.all_nil, Bool.and_true, sat_is, opB, show ¬ (2 : Int) = 1 by decide, if_false, if_true, Bool.not_false, Bool.true_and, ne_eq, vz_symm (cellV a c.Rhs.toNat) (lastC c).Value]
theorem twoD_sat {c : CFD} (h : c.Pattern.length = c.Lhs.length + 1) (a b : Row) : ((twoC c ++ [bothA 2 c.Rhs]).all (satA [a, b])) = (matchB c a && twoB c a b) := by
  rw [List.all_append, two_sat h]
  unfold twoB
  simp only [List.all_cons, List.all_nil, Bool.and_true, sat_bothI, opB, show ¬ (2 : Int) = 1 by decide, if_false, if_true]
  cases agC c a b <;> cases matchB c a <;> simp
theorem twoB_symm (c : CFD) (a b : Row) : twoB c b a = twoB c a b := by
  unfold twoB agC
  simp only [ne_eq, vz_symm (cellV b _)]
theorem match_ag {c : CFD} (h : c.Pattern.length = c.Lhs.length + 1) {a b : Row} (hag : twoB c a b = true) : matchB c b = matchB c a := by
  unfold twoB agC at hag
  rw [Bool.and_eq_true, List.all_eq_true] at hag
  unfold matchB
  rw [Bool.eq_iff_iff, List.all_eq_true, List.all_eq_true]
  have key : ∀ q ∈ zipC c, cellV a q.1.toNat = cellV b q.1.toNat := fun q hq => by
    have := hag.1 q.1 (zip_mem h hq).1
    rw [decide_eq_true_eq, vcmp_eq] at this
    exact this
  constructor
  · intro hh q hq
    rw [key q hq]; exact hh q hq
  · intro hh q hq
    rw [← key q hq]; exact hh q hq
theorem allV_cfd {t : Table} (H : DT t) {c : CFD} (h : c.Pattern.length = c.Lhs.length + 1) (h3 : ¬ (twoC c).length + 1 > 20) : setO (allV t (cfdL c).1) = setO (wantC c t.Rows) := by
  refine setO_congr fun z => ?_
  rw [wantC_mem c z t.Rows (H.code).2]
  have two : z ∈ violL t ⟨2, twoC c ++ [bothA 2 c.Rhs]⟩ ↔ ∃ a ∈ t.Rows, ∃ b ∈ t.Rows, a.ID < b.ID ∧ (matchB c a = true ∧ twoB c a b = true) ∧ z = [a.ID, b.ID] := by
    rw [viol_two (d := ⟨2, twoC c ++ [bothA 2 c.Rhs]⟩) rfl]
    simp only [twoD_sat h, Bool.and_eq_true]
    constructor
    · rintro ⟨a, ha, b, hb, hlt, hs | hs, e⟩
      · exact ⟨a, ha, b, hb, hlt, hs, e⟩
      · rw [twoB_symm] at hs
        refine ⟨a, ha, b, hb, hlt, ⟨?_, hs.2⟩, e⟩
        rw [← match_ag h hs.2]; exact hs.1
    · rintro ⟨a, ha, b, hb, hlt, hs, e⟩
      exact ⟨a, ha, b, hb, hlt, .inl hs, e⟩
  unfold cfdL allV
  rw [if_neg h3]
  cases hany : (lastC c).Any with
  | true =>
    have hno : ∀ a, ¬ oneB c a = true := fun a => by unfold oneB; rw [hany]; simp
    simp only [if_true, List.flatMap_cons, List.flatMap_nil, List.append_nil, two]
    constructor
    · intro hz; exact .inr hz
    · rintro (⟨a, _, _, ho, _⟩ | hz)
      · exact absurd ho (hno a)
      · exact hz
  | false =>
    simp only [Bool.false_eq_true, if_false, List.flatMap_cons, List.flatMap_nil, List.append_nil, List.mem_append, two]
    have one : z ∈ violL t ⟨1, oneC c ++ [isA 2 c.Rhs (lastC c).Value]⟩ ↔ ∃ a ∈ t.Rows, matchB c a = true ∧ oneB c a = true ∧ z = [a.ID] := by
      rw [viol_one (d := ⟨1, oneC c ++ [isA 2 c.Rhs (lastC c).Value]⟩) rfl]
      simp only [oneD_sat c _ hany, Bool.and_eq_true, and_assoc]
    rw [one]
/-! ### valid constraints -/
theorem both_atomI {n x : Int} (h0 : 0 ≤ x) (h1 : x < n) {op : Int} (ho : 1 ≤ op ∧ op ≤ 4) : atomB n 2 (bothA op x) = true := by
  unfold atomB bothA atT termB
  simp only [Bool.and_eq_true, decide_eq_true_eq]
  refine ⟨ho, ?_, ?_⟩
  · rw [if_neg (by decide)]
    simp only [Bool.and_eq_true, decide_eq_true_eq]
    exact ⟨⟨by omega, by omega, by omega, by omega⟩, by decide⟩
  · rw [if_neg (by decide)]
    simp only [Bool.and_eq_true, decide_eq_true_eq]
    exact ⟨⟨by omega, by omega, by omega, by omega⟩, by decide⟩
theorem is_atom {n x vars : Int} (h0 : 0 ≤ x) (h1 : x < n) (hv : 1 ≤ vars) {v : Value} (hval : valid v = true) {op : Int} (ho : 1 ≤ op ∧ op ≤ 4) : atomB n vars (isA op x v) = true := by
  unfold atomB isA atT termB
  simp only [Bool.and_eq_true, decide_eq_true_eq]
  refine ⟨ho, ?_, ?_⟩
  · rw [if_neg (by decide)]
    simp only [Bool.and_eq_true, decide_eq_true_eq]
    exact ⟨⟨by omega, by omega, by omega, by omega⟩, by decide⟩
  · simp [hval]
theorem cell_valid {p : Cell} (h : cellB p = true) (ha : p.Any = false) : valid p.Value = true := by
  unfold cellB at h
  rw [ha] at h
  simpa using h
theorem cfd_denErr {t : Table} (H : DT t) {c : CFD} (hc : cfdB t.Attrs.length c = true) (h3 : ¬ (twoC c).length + 1 > 20) : ∀ d ∈ (cfdL c).1, denErr t d = 0 := by
  obtain ⟨⟨n0, n1, q1, q2, hp⟩, _, hcell⟩ := cfdB_parts hc
  have herr : ∀ d : Denial, (d.Vars = 1 ∨ d.Vars = 2) → denB t.Attrs.length d = true → denErr t d = 0 := by
    intro d hv hb
    unfold denErr
    rw [if_neg (by simp [H.err]), if_pos hb, if_neg (by rintro ⟨h, _⟩; omega)]
  have hone : (oneC c).length ≤ (twoC c).length := foldOT_len (zipC c) [] [] (Nat.le_refl _)
  have hx : ∀ q ∈ zipC c, (0 ≤ q.1 ∧ q.1 < (t.Attrs.length : Int)) ∧ cellB q.2 = true := fun q hq => by
    obtain ⟨g1, g2⟩ := zip_mem hp hq
    exact ⟨lhs_lt hc _ g1, hcell _ g2⟩
  have d2 : denErr t ⟨2, twoC c ++ [bothA 2 c.Rhs]⟩ = 0 := by
    refine herr _ (.inr rfl) ?_
    unfold denB twoC
    rw [List.all_append, foldT_all]
    simp only [Bool.and_eq_true, decide_eq_true_eq, List.length_append, List.length_singleton, List.all_nil, Bool.true_and, List.all_cons, Bool.and_true, List.all_eq_true, Bool.or_eq_true]
    refine ⟨⟨by decide, by decide, by unfold twoC at h3; omega⟩, fun q hq => ?_, both_atomI q1 q2 (by decide)⟩
    obtain ⟨⟨r1, r2⟩, r3⟩ := hx q hq
    refine ⟨both_atomI r1 r2 (by decide), ?_⟩
    cases hany : q.2.Any with
    | true => exact .inl rfl
    | false => exact .inr (is_atom r1 r2 (by decide) (cell_valid r3 hany) (by decide))
  intro d hd
  unfold cfdL at hd
  rw [if_neg h3] at hd
  cases hany : (lastC c).Any with
  | true =>
    rw [hany] at hd
    simp only [if_true, List.mem_singleton] at hd
    rw [hd]; exact d2
  | false =>
    rw [hany] at hd
    simp only [Bool.false_eq_true, if_false, List.mem_cons, List.not_mem_nil, or_false] at hd
    rcases hd with rfl | rfl
    · refine herr _ (.inl rfl) ?_
      unfold denB oneC
      rw [List.all_append, foldO_all]
      simp only [Bool.and_eq_true, decide_eq_true_eq, List.length_append, List.length_singleton, List.all_nil, Bool.true_and, List.all_cons, Bool.and_true, List.all_eq_true, Bool.or_eq_true]
      refine ⟨⟨by decide, by decide, by unfold oneC at hone; omega⟩, fun q hq => ?_, is_atom q1 q2 (by decide) (cell_valid (hcell _ (List.mem_of_getElem? (last_get hp))) hany) (by decide)⟩
      obtain ⟨⟨r1, r2⟩, r3⟩ := hx q hq
      cases hany : q.2.Any with
      | true => exact .inl rfl
      | false => exact .inr (is_atom r1 r2 (by decide) (cell_valid r3 hany) (by decide))
    · exact d2
theorem cfdL_short (c : CFD) (hl : c.Lhs.length ≤ 20) : (cfdL c).1.length ≤ 2 ∧ ∀ d ∈ (cfdL c).1, d.Atoms.length ≤ 1000000 := by
  have l1 := foldO_len (zipC c) []
  have l2 := foldT_len (zipC c) []
  have hz : (zipC c).length ≤ 20 := by unfold zipC; rw [List.length_zip]; omega
  have l1' : (oneC c).length ≤ 20 := by unfold oneC; simp at l1; omega
  have l2' : (twoC c).length ≤ 40 := by unfold twoC; simp at l2; omega
  unfold cfdL
  split
  · exact ⟨by simp, by simp⟩
  · split
    · refine ⟨by simp, ?_⟩
      intro d hd
      rw [List.mem_singleton.1 hd]; simp; omega
    · refine ⟨by simp, ?_⟩
      intro d hd
      simp only [List.mem_cons, List.not_mem_nil, or_false] at hd
      rcases hd with rfl | rfl <;> simp <;> omega
theorem DenialCFD_holds (x : Drossref03_Recipe) (c : CFD) (h0 : okDrossref03_Recipe x) (h1 : okCFD c) : drosslaw18_DenialCFD x c = some true := by
  rcases recipe7 x h0 with ⟨t, ht, ha⟩ | ⟨t, ht, hok, G, hn, hat⟩
  · simp only [drosslaw18_DenialCFD, ht, awake18, Option.bind_some, if_true, Bool.false_eq_true, if_false]
  · have H := dt_of hok G hn
    by_cases hL : (c.Lhs.length : Int) > 20
    · simp only [drosslaw18_DenialCFD, ht, awake18, Option.bind_some, if_true, if_pos hL]
    by_cases hP : (c.Pattern.length : Int) > 20
    · simp only [drosslaw18_DenialCFD, ht, awake18, Option.bind_some, if_true, if_neg hL, hP, decide_true]
    have hl1 := LoopF_all c.Pattern (drosslaw18_DenialCFD_l1 c) (fun p => decide (p.Value.Str.length ≤ 500)) true
      (fun k p hx hk hp => by
        rw [decide_eq_true_eq] at hp
        simp only [drosslaw18_DenialCFD_l1, if_pos (lt_true hx), idx_get hx, Option.bind_some, if_neg (show ¬ ((p.Value.Str.length : Int) > 500) by omega), wrap_succ hk (show c.Pattern.length ≤ 4611686018427387904 by omega)])
      (fun k p hx hp => by
        rw [decide_eq_false_iff_not] at hp
        simp only [drosslaw18_DenialCFD_l1, if_pos (lt_true hx), idx_get hx, Option.bind_some, if_pos (show ((p.Value.Str.length : Int) > 500) by omega)])
      (by simp [drosslaw18_DenialCFD_l1])
    simp only [drosslaw18_DenialCFD, ht, awake18, Option.bind_some, if_true, if_neg hL, hP, decide_false, Bool.false_eq_true, if_false, hl1]
    cases hall : (c.Pattern.all fun p => decide (p.Value.Str.length ≤ 500)) with
    | false => simp
    | true =>
      have hs : ∀ p ∈ c.Pattern, p.Value.Str.length ≤ 500 := by simpa using hall
      have e1 := FromCFD_eq (t.Attrs.length : Int) c (by omega) (by omega)
      have e2 := ref_FromCFD_eq (t.Attrs.length : Int) c (by omega) (by omega)
      simp only [if_true, e1, e2, Option.bind_some, bne_self_eq_false, beq_self_eq_true, Bool.false_eq_true, if_false]
      unfold cfdR
      cases hc : cfdB t.Attrs.length c with
      | false =>
        have hS := Same_self18 [] (by simp) (by simp)
        simp only [Bool.false_eq_true, if_false, hS, Option.bind_some, if_true]
        rfl
      | true =>
        obtain ⟨⟨_, _, q1, q2, hp⟩, _, _⟩ := cfdB_parts hc
        obtain ⟨s1, s2⟩ := cfdL_short c (by omega)
        have hS := Same_self18 (cfdL c).1 (by omega) s2
        simp only [if_true, hS, Option.bind_some]
        by_cases h3 : (twoC c).length + 1 > 20
        · have e : (cfdL c).2 = 3 := by unfold cfdL; rw [if_pos h3]
          rw [e]
          rfl
        · have e : (cfdL c).2 = 0 := by unfold cfdL; rw [if_neg h3]; split <;> rfl
          have hT := together_eq H (cfdL c).1 (by omega) (cfd_denErr H hc h3)
          rw [allV_cfd H hp h3] at hT
          have hw := setO_len (wantC c t.Rows)
          have hw2 := wantC_len c t.Rows
          have h56 : t.Rows.length * (t.Rows.length + 1) ≤ 7 * 8 := Nat.mul_le_mul hn (by omega)
          have hLi := Lists_self (setO (wantC c t.Rows)) (by omega) (fun y hy => by
            have hy' := (setO_mem _ _).1 hy
            rcases (wantC_mem c y t.Rows (H.code).2).1 hy' with ⟨a, _, _, _, rfl⟩ | ⟨a, _, b, _, _, _, rfl⟩ <;> simp)
          simp only [e, bne_self_eq_false, Bool.false_eq_true, if_false, idx_get (last_get hp), Option.bind_some, want_l64 H hc (by omega) hs, hT, if_true, hLi]
end Go.Proofs.YtlaodgbkpmdhoaaGreatDoor
