/- The Lean functions that the program's functions are lifted to, and the plain laws about them. -/
import Derived.Test.YtjcdclpfeflfkaaGreatDoorL1
/- The errors that the program computes. -/
set_option linter.unusedVariables false
set_option linter.unusedSimpArgs false
namespace Go.Proofs.YtjcdclpfeflfkaaGreatDoor
open Go Go.Ab

theorem best_eq (g : List (List Nat)) (hl : g.length ≤ 1000000) (hb : ∀ d ∈ g, d.length ≤ 1000000) : approx_group_best (intLL g) = some ((bestN g : Nat) : Int) := by
  by_cases h0 : g = []
  · subst h0
    simp only [approx_group_best]
    rw [Loop_done (t := 0) (by simp [approx_group_best_l1, intLL])]
    rfl
  have hpos : 0 < g.length := List.length_pos_iff.2 h0
  have h := LoopF_foldl (List.range g.length) (fun (b : Nat) i => ((b : Int), i)) (approx_group_best_l1 (intLL g)) (fun k i => if (g.getD k []).length < (g.getD i []).length then i else k) (fun b => (b : Int)) (fun k b => b < g.length) (b0 := 0) (s0 := (0, 0)) rfl hpos
    (fun k b x hx hk hI => by
      have hxk : x = k ∧ k < g.length := by
        rw [List.length_range] at hk
        rw [List.getElem?_range hk] at hx
        exact ⟨(Option.some.inj hx).symm, hk⟩
      obtain ⟨rfl, hkl⟩ := hxk
      have hki : ((x : Int) < ((intLL g).length : Int)) := by rw [intLL_len]; omega
      have e1 : idx (intLL g) (x : Int) = some (intL (g.getD x [])) := by
        rw [idx_nat, intLL_get, List.getElem?_eq_getElem hkl]; simp [List.getD, List.getElem?_eq_getElem hkl]
      have e2 : idx (intLL g) (b : Int) = some (intL (g.getD b [])) := by
        rw [idx_nat, intLL_get, List.getElem?_eq_getElem hI]; simp [List.getD, List.getElem?_eq_getElem hI]
      have hw := wrap_nat (show x < 4611686018427387904 by omega)
      simp only [approx_group_best_l1, if_pos hki, e1, e2, Option.bind_some, intL_len, hw]
      by_cases hc : (g.getD b []).length < (g.getD x []).length
      · have hc' : ((g.getD x []).length : Int) > ((g.getD b []).length : Int) := by omega
        rw [if_pos hc', if_pos hc]
        exact ⟨rfl, hkl⟩
      · have hc' : ¬ ((g.getD x []).length : Int) > ((g.getD b []).length : Int) := by omega
        rw [if_neg hc', if_neg hc]
        exact ⟨rfl, hI⟩)
    (fun b _ => by simp [approx_group_best_l1, intLL_len])
  simp only [approx_group_best]
  rw [h]; rfl
theorem foldl_sum {α : Type} (f : α → Nat) : ∀ (l : List α) (a : Nat), l.foldl (fun n x => n + f x) a = a + (l.map f).sum
  | [], a => by simp
  | x :: l, a => by rw [List.foldl_cons, foldl_sum f l]; simp; omega
theorem le_sum {l : List Nat} {x : Nat} (h : x ∈ l) : x ≤ l.sum := by
  induction l with
  | nil => cases h
  | cons y l ih =>
    rcases List.mem_cons.1 h with rfl | h
    · simp
    · have := ih h; simp; omega
theorem take_sum (l : List Nat) (k : Nat) : (l.take k).sum ≤ l.sum := by
  conv => rhs; rw [← List.take_append_drop k l]
  rw [List.sum_append]; omega
/-- a loop over a list that adds numbers -/
theorem sum_loop {α : Type} (l : List α) (B : Int × Int → Option (LS (Int × Int) Int)) (f : α → Nat) (a : Nat)
    (hB : ∀ (k : Nat) (x : α) (s : Nat), l[k]? = some x → k < l.length → s ≤ a + (l.map f).sum → B ((s : Int), (k : Int)) = some (.next (((s + f x : Nat) : Int), ((k + 1 : Nat) : Int))))
    (hE : ∀ s : Int, B (s, (l.length : Int)) = some (.done s)) : LoopF B ((a : Int), 0) = some (((a + (l.map f).sum : Nat) : Int)) := by
  have h := LoopF_foldl l (fun (s : Nat) i => ((s : Int), i)) B (fun s x => s + f x) (fun s => (s : Int)) (fun k s => s = a + ((l.take k).map f).sum) (b0 := a) (s0 := ((a : Int), 0)) rfl (by simp)
    (fun k s x hx hk hI => by
      have hs : s ≤ a + (l.map f).sum := by
        rw [hI, List.map_take]
        have := take_sum (l.map f) k
        omega
      refine ⟨hB k x s hx hk hs, ?_⟩
      rw [hI, List.take_add_one, hx]
      simp; omega)
    (fun s _ => hE s)
  rw [h, foldl_sum]
theorem size_eq (g : List (List Nat)) (hl : g.length ≤ 1000000) (hs : (g.map fun d => d.length).sum ≤ 1000000) : approx_group_size (intLL g) = some (((g.map fun d => d.length).sum : Nat) : Int) := by
  have h := sum_loop g (approx_group_size_l1 (intLL g)) (fun d => d.length) 0
    (fun k d s hd hk hsl => by
      have hki : ((k : Int) < ((intLL g).length : Int)) := by rw [intLL_len]; omega
      have e1 : idx (intLL g) (k : Int) = some (intL d) := by rw [idx_nat, intLL_get, hd]; rfl
      have hdl : d.length ≤ (g.map fun d => d.length).sum := le_sum (List.mem_map.2 ⟨d, List.mem_of_getElem? hd, rfl⟩)
      have hw : IntKind.i64.wrap ((s : Int) + (d.length : Int)) = ((s + d.length : Nat) : Int) := by rw [wrap_i64 (by omega) (by omega)]; omega
      simp only [approx_group_size_l1, if_pos hki, e1, Option.bind_some, intL_len, hw, wrap_nat (show k < 4611686018427387904 by omega)])
    (fun s => by simp [approx_group_size_l1, intLL_len])
  simp only [approx_group_size]
  rw [show ((0 : Int), (0 : Int)) = (((0 : Nat) : Int), 0) from rfl, h]
  simp
theorem squares_loop (g : List (List Nat)) (hl : g.length ≤ 1000000) (A : Nat) (hA : (g.map fun d => d.length * d.length).sum ≤ A) (hA2 : A ≤ 1000000000000) (hd : ∀ d ∈ g, d.length ≤ 1000000) :
    LoopF (approx_measured_l3 (intLL g)) ((A : Int), 0) = some (((A - (g.map fun d => d.length * d.length).sum : Nat) : Int)) := by
  have h := LoopF_foldl g (fun (s : Nat) i => ((s : Int), i)) (approx_measured_l3 (intLL g)) (fun s d => s - d.length * d.length) (fun s => (s : Int)) (fun k s => s = A - ((g.take k).map fun d => d.length * d.length).sum) (b0 := A) (s0 := ((A : Int), 0)) rfl (by simp)
    (fun k s d hd' hk hI => by
      have hki : ((k : Int) < ((intLL g).length : Int)) := by rw [intLL_len]; omega
      have e1 : idx (intLL g) (k : Int) = some (intL d) := by rw [idx_nat, intLL_get, hd']; rfl
      have hdl := hd d (List.mem_of_getElem? hd')
      have hsq : d.length * d.length ≤ 1000000 * 1000000 := Nat.mul_le_mul hdl hdl
      have hts : ((g.take (k + 1)).map fun d => d.length * d.length).sum ≤ A := by
        rw [List.map_take]
        exact Nat.le_trans (take_sum _ _) hA
      have hts' : ((g.take (k + 1)).map fun d => d.length * d.length).sum = ((g.take k).map fun d => d.length * d.length).sum + d.length * d.length := by
        rw [List.take_add_one, hd']; simp
      generalize hsqe : d.length * d.length = q at *
      have hw1 : IntKind.i64.wrap ((d.length : Int) * (d.length : Int)) = (q : Int) := by
        have : (d.length : Int) * (d.length : Int) = (q : Int) := by rw [← hsqe]; simp
        rw [this, wrap_i64 (by omega) (by omega)]
      have hw2 : IntKind.i64.wrap ((s : Int) - (q : Int)) = ((s - q : Nat) : Int) := by rw [wrap_i64 (by omega) (by omega)]; omega
      refine ⟨?_, by rw [hts']; omega⟩
      simp only [approx_measured_l3, if_pos hki, e1, Option.bind_some, intL_len, hw1, hw2, wrap_nat (show k < 4611686018427387904 by omega)])
    (fun s _ => by simp [approx_measured_l3, intLL_len])
  rw [h]
  have : ∀ (l : List (List Nat)) (a : Nat), l.foldl (fun s d => s - d.length * d.length) a = a - (l.map fun d => d.length * d.length).sum := by
    intro l
    induction l with
    | nil => intro a; simp
    | cons d l ih => intro a; rw [List.foldl_cons, ih]; simp; omega
  rw [this]

/-- what a row adds to the error -/
def phiN (t : Table) (s p m i : Nat) : Nat := if m = 1 then nviol t s p i else if m = 2 then min (nviol t s p i) 1 else if remB t s p i then 1 else 0
def errN (t : Table) (s p m : Nat) : Nat := ((List.range t.Rows.length).map (phiN t s p m)).sum
theorem nviol_le (t : Table) (s p i : Nat) : nviol t s p i ≤ t.Rows.length := by
  unfold nviol
  exact Nat.le_trans List.countP_le_length (by rw [List.length_range]; exact Nat.le_refl _)
theorem phi_single {t : Table} {s p m i : Nat} (F : FinerR t s p) (hi : i < t.Rows.length) (h : cntP t s i = 1) : phiN t s p m i = 0 := by
  have h1 := cnt_split F hi
  have h2 := cntP_pos (p := p) hi
  have h3 : nviol t s p i = 0 := by omega
  have h4 : remB t s p i = false := by
    obtain ⟨b1, b2, _, _⟩ := bestRow_spec (s := s) (p := p) hi
    unfold remB
    by_cases e : bestRow t s p i = i
    · rw [e, agN_refl]; rfl
    · exfalso
      unfold cntP at h
      rw [List.countP_eq_length_filter] at h
      have hm1 : i ∈ (List.range t.Rows.length).filter fun k => agN t s k i := List.mem_filter.2 ⟨List.mem_range.2 hi, agN_refl t s i⟩
      have hm2 : bestRow t s p i ∈ (List.range t.Rows.length).filter fun k => agN t s k i := List.mem_filter.2 ⟨List.mem_range.2 b1, agN_symm b2⟩
      have := two_of (List.Nodup.sublist List.filter_sublist List.nodup_range) hm1 hm2 (fun e' => e e'.symm)
      omega
  unfold phiN
  rw [h3, h4]
  simp
theorem err_le (t : Table) (s p m : Nat) : errN t s p m ≤ t.Rows.length * t.Rows.length := by
  unfold errN
  have : ∀ i ∈ List.range t.Rows.length, phiN t s p m i ≤ t.Rows.length := by
    intro i hi
    have h := nviol_le t s p i
    have := List.mem_range.1 hi
    unfold phiN
    split
    · exact h
    · split
      · omega
      · split <;> omega
  have h2 := sum_le this
  rw [sum_const, List.length_range] at h2
  exact h2
theorem err_le1 (t : Table) (s p : Nat) {m : Nat} (hm : m ≠ 1) : errN t s p m ≤ t.Rows.length := by
  unfold errN
  have : ∀ i ∈ List.range t.Rows.length, phiN t s p m i ≤ 1 := by
    intro i hi
    unfold phiN
    rw [if_neg hm]
    split
    · omega
    · split <;> omega
  have h2 := sum_le this
  rw [sum_const, List.length_range, Nat.mul_one] at h2
  exact h2
/-- what a class adds -/
theorem group_val {t : Table} {s p : Nat} (F : FinerR t s p) {c : List Nat} (hc : c ∈ clsN t s) (h2 : 2 ≤ c.length) :
    (c.map (phiN t s p 1)).sum = c.length * c.length - ((parts t p c).map fun d => d.length * d.length).sum ∧
    (c.map (phiN t s p 2)).sum = (if 1 < (parts t p c).length then c.length else 0) ∧
    (c.map (phiN t s p 3)).sum = c.length - ((parts t p c).getD (bestN (parts t p c)) []).length := by
  have e1 : phiN t s p 1 = nviol t s p := by funext i; simp [phiN]
  have e2 : phiN t s p 2 = fun i => min (nviol t s p i) 1 := by funext i; simp [phiN]
  have e3 : phiN t s p 3 = fun i => if remB t s p i then 1 else 0 := by funext i; simp [phiN]
  have g1 := g1_class F hc
  have g2 := g2_class F hc
  have g3 := g3_class F hc (by intro e; subst e; simp at h2)
  rw [e1, e2, e3]
  refine ⟨by omega, g2.symm, by omega⟩
theorem measured_loop {t : Table} (hn : t.Rows.length ≤ 1000) {s p : Nat} (F : FinerR t s p) (m : Nat) (hm : m = 1 ∨ m = 2 ∨ m = 3) :
    LoopF (approx_measured_l4 (m : Int) (intG (grpN t s p))) (0, 0) = some ((errN t s p m : Nat) : Int) := by
  have hsum := big_sum (s := s) (phiN t s p m) (fun i hi h => phi_single F hi h)
  have hE := err_le t s p m
  have hnn : t.Rows.length * t.Rows.length ≤ 1000 * 1000 := Nat.mul_le_mul hn hn
  have hbl : (big (clsN t s)).length ≤ 1000000 := by
    have h2 := List.length_filter_le (fun c : List Nat => decide (2 ≤ c.length)) (clsN t s)
    have h3 := classes_len (List UInt8) (fun i => rkey s (rowN t i)) (List.range t.Rows.length)
    rw [List.length_range] at h3
    unfold big
    unfold clsN at h2 ⊢
    omega
  have h := sum_loop (big (clsN t s)) (approx_measured_l4 (m : Int) (intG (grpN t s p))) (fun c => (c.map (phiN t s p m)).sum) 0
    (fun k c a hc hk ha => by
      obtain ⟨hcm, hc2⟩ := big_mem.1 (List.mem_of_getElem? hc)
      obtain ⟨v1, v2, v3⟩ := group_val F hcm hc2
      have hcl : c.length ≤ 1000 := by
        have := class_len hcm
        rw [List.length_range] at this; omega
      have hg : (intG (grpN t s p))[k]? = some (intLL (parts t p c)) := by
        rw [intG_get]; unfold grpN; rw [List.getElem?_map, hc]; rfl
      have hki : ((k : Int) < ((intG (grpN t s p)).length : Int)) := by
        rw [intG_len]; unfold grpN; rw [List.length_map]; omega
      have hpl : (parts t p c).length ≤ 1000 := by
        have := classes_len (List UInt8) (fun i => rkey p (rowN t i)) c
        unfold parts; omega
      have hpd : ∀ d ∈ parts t p c, d.length ≤ 1000 := fun d hd => by
        have := class_len hd; omega
      have hsz := parts_size t p c
      have e1 := size_eq (parts t p c) (by omega) (by rw [hsz]; omega)
      rw [hsz] at e1
      have hmem : (c.map (phiN t s p m)).sum ≤ ((big (clsN t s)).map fun c => (c.map (phiN t s p m)).sum).sum := le_sum (List.mem_map.2 ⟨c, List.mem_of_getElem? hc, rfl⟩)
      rw [hsum] at ha hmem
      have hE' : ((List.range t.Rows.length).map (phiN t s p m)).sum ≤ 1000000 := by
        have : ((List.range t.Rows.length).map (phiN t s p m)).sum = errN t s p m := rfl
        omega
      have hw := wrap_nat (show k < 4611686018427387904 by omega)
      have hccl : c.length * c.length ≤ 1000 * 1000 := Nat.mul_le_mul hcl hcl
      have hsq := g1_class F hcm
      have hgb : ((parts t p c).getD (bestN (parts t p c)) []).length ≤ c.length := by
        have := g3_class F hcm (by intro e; subst e; simp at hc2); omega
      have hbest := best_eq (parts t p c) (by omega) (fun d hd => by have := hpd d hd; omega)
      have hne : parts t p c ≠ [] := by
        intro e; rw [e] at hsz; simp at hsz; omega
      have hgi : idx (intLL (parts t p c)) ((bestN (parts t p c) : Nat) : Int) = some (intL ((parts t p c).getD (bestN (parts t p c)) [])) := by
        have := (bestN_spec (parts t p c) hne).1
        rw [idx_nat, intLL_get, List.getElem?_eq_getElem this]; simp [List.getD, List.getElem?_eq_getElem this]
      simp only [approx_measured_l4, if_pos hki, idx_get hg, Option.bind_some, e1]
      rcases hm with rfl | rfl | rfl
      · generalize hq : c.length * c.length = q at *
        have w1 : IntKind.i64.wrap ((c.length : Int) * (c.length : Int)) = (q : Int) := by
          have : (c.length : Int) * (c.length : Int) = (q : Int) := by rw [← hq]; simp
          rw [this, wrap_i64 (by omega) (by omega)]
        have w2 : IntKind.i64.wrap ((a : Int) + (q : Int)) = ((a + q : Nat) : Int) := by rw [wrap_i64 (by omega) (by omega)]; omega
        have hl3 := squares_loop (parts t p c) (by omega) (a + q) (by omega) (by omega) (fun d hd => by have := hpd d hd; omega)
        have c1 : (((1 : Nat) : Int) == 1) = true := by decide
        simp only [c1, if_true, w1, w2, hl3, Option.bind_some, hw]
        congr 4
        omega
      · have c1 : (((2 : Nat) : Int) == 1) = false := by decide
        have c2 : (((2 : Nat) : Int) == 2) = true := by decide
        simp only [c1, Bool.false_eq_true, if_false, c2, if_true, intLL_len]
        by_cases hc1 : 1 < (parts t p c).length
        · have hc1' : ((parts t p c).length : Int) > 1 := by omega
          rw [if_pos hc1] at v2
          rw [if_pos hc1', v2]
          have w2 : IntKind.i64.wrap ((a : Int) + (c.length : Int)) = ((a + c.length : Nat) : Int) := by rw [wrap_i64 (by omega) (by omega)]; omega
          rw [w2, hw]
        · have hc1' : ¬ ((parts t p c).length : Int) > 1 := by omega
          rw [if_neg hc1] at v2
          rw [if_neg hc1', v2, hw]; rfl
      · have c1 : (((3 : Nat) : Int) == 1) = false := by decide
        have c2 : (((3 : Nat) : Int) == 2) = false := by decide
        simp only [c1, Bool.false_eq_true, if_false, c2, hbest, Option.bind_some, hgi, intL_len]
        have w1 : IntKind.i64.wrap ((c.length : Int) - (((parts t p c).getD (bestN (parts t p c)) []).length : Int)) = ((c.length - ((parts t p c).getD (bestN (parts t p c)) []).length : Nat) : Int) := by rw [wrap_i64 (by omega) (by omega)]; omega
        rw [w1, ← v3]
        have w2 : IntKind.i64.wrap ((a : Int) + (((c.map (phiN t s p 3)).sum : Nat) : Int)) = ((a + (c.map (phiN t s p 3)).sum : Nat) : Int) := by rw [wrap_i64 (by omega) (by omega)]; omega
        rw [w2, hw])
    (fun a => by
      have : (intG (grpN t s p)).length = (big (clsN t s)).length := by rw [intG_len]; simp [grpN]
      simp [approx_measured_l4, this])
  rw [show ((0 : Int), (0 : Int)) = (((0 : Nat) : Int), 0) from rfl, h, Nat.zero_add, hsum]
  rfl
theorem bits_or {s r : Nat} (k : Nat) (h : s.testBit k = true) : (s ||| r).testBit k = true := by rw [Nat.testBit_or, h]; rfl
theorem finerR_or {t : Table} (G : GT t) {s r : Nat} (hs : s < 2 ^ t.Attrs.length) (hr : r < 2 ^ t.Attrs.length) : FinerR t s (s ||| r) := fun i k hi hk ha => finer_of (fun k h => bits_or k h) G hs (Nat.or_lt_two_pow hs hr) hi hk ha
/-- the error -/
def errR (t : Table) (s p m : Nat) : Ratio := if t.Rows.length = 0 then ⟨0, 1⟩ else ratioN (errN t s p m) (if m = 1 then t.Rows.length * t.Rows.length else t.Rows.length)
theorem measured_eq {t : Table} (G : GT t) {s r : Nat} (hs : s < 2 ^ t.Attrs.length) (hr : r < 2 ^ t.Attrs.length) (m : Nat) (hm : m = 1 ∨ m = 2 ∨ m = 3) : approx_measured t ⟨(s : Int), (r : Int)⟩ (m : Int) = some (errR t s (s ||| r) m) := by
  have hn := G.rows
  unfold errR
  by_cases h0 : t.Rows.length = 0
  · have : ((t.Rows.length : Int) == 0) = true := by simp [h0]
    simp only [approx_measured, this, if_true, if_pos h0]
  · have hne : ((t.Rows.length : Int) == 0) = false := by simp; exact fun e => h0 (by rw [e]; rfl)
    have hE := err_le t s (s ||| r) m
    have hnn : t.Rows.length * t.Rows.length ≤ 1000 * 1000 := Nat.mul_le_mul hn hn
    have hpos : 0 < t.Rows.length * t.Rows.length := Nat.mul_pos (by omega) (by omega)
    simp only [approx_measured, hne, Bool.false_eq_true, if_false, groups_fd G hs hr, Option.bind_some, measured_loop hn (finerR_or G hs hr) m hm, if_neg h0]
    have hw : IntKind.i64.wrap ((t.Rows.length : Int) * (t.Rows.length : Int)) = ((t.Rows.length * t.Rows.length : Nat) : Int) := by
      have : (t.Rows.length : Int) * (t.Rows.length : Int) = ((t.Rows.length * t.Rows.length : Nat) : Int) := by simp
      rw [this, wrap_i64 (by omega) (by omega)]
    rcases hm with rfl | rfl | rfl
    · have c1 : (((1 : Nat) : Int) == 1) = true := by decide
      simp only [c1, if_true, hw, ratio_Make_nat _ _ (show errN t s (s ||| r) 1 < 4611686018427387904 by omega) hpos (by omega), Option.bind_some]
    · have c1 : (((2 : Nat) : Int) == 1) = false := by decide
      simp only [c1, Bool.false_eq_true, if_false, ratio_Make_nat _ _ (show errN t s (s ||| r) 2 < 4611686018427387904 by omega) (show 0 < t.Rows.length by omega) (by omega), Option.bind_some]
      simp
    · have c1 : (((3 : Nat) : Int) == 1) = false := by decide
      simp only [c1, Bool.false_eq_true, if_false, ratio_Make_nat _ _ (show errN t s (s ||| r) 3 < 4611686018427387904 by omega) (show 0 < t.Rows.length by omega) (by omega), Option.bind_some]
      simp
end Go.Proofs.YtjcdclpfeflfkaaGreatDoor
/- The reference of the errors, and the removal. -/
set_option linter.unusedVariables false
set_option linter.unusedSimpArgs false
namespace Go.Proofs.YtjcdclpfeflfkaaGreatDoor
open Go Go.Ab

theorem attrs_of {t : Table} (h : tableErr t = 0) : t.Attrs.length ≤ 16 := by
  unfold tableErr at h
  split at h
  · cases h
  · split at h
    · cases h
    · omega
/-- a dependency within the table -/
def inB (t : Table) (f : FD) : Bool := decide ((f.Lhs.toNat ||| f.Rhs.toNat) < 2 ^ t.Attrs.length)
theorem okI_u32 {n : Int} (h : okI .u32 n) : 0 ≤ n ∧ n ≤ 4294967295 := by
  have h' : (decide (IntKind.min .u32 ≤ n) && decide (n ≤ IntKind.max .u32)) = true := h
  simp only [Bool.and_eq_true, decide_eq_true_eq] at h'
  have e1 : IntKind.min .u32 = 0 := by decide
  have e2 : IntKind.max .u32 = 4294967295 := by decide
  rw [e1, e2] at h'
  exact h'
theorem okI_i64 {n : Int} (h : okI .i64 n) : -9223372036854775808 ≤ n ∧ n ≤ 9223372036854775807 := by
  have h' : (decide (IntKind.min .i64 ≤ n) && decide (n ≤ IntKind.max .i64)) = true := h
  simp only [Bool.and_eq_true, decide_eq_true_eq] at h'
  have e1 : IntKind.min .i64 = -9223372036854775808 := by decide
  have e2 : IntKind.max .i64 = 9223372036854775807 := by decide
  rw [e1, e2] at h'
  exact h'
theorem fd_of {f : FD} (h : okFD f) : ∃ s r : Nat, f = ⟨(s : Int), (r : Int)⟩ ∧ s < 4294967296 ∧ r < 4294967296 := by
  obtain ⟨h1, h2⟩ := h
  obtain ⟨L, R⟩ := f
  have q1 := okI_u32 h1
  have q2 := okI_u32 h2
  simp only at q1 q2
  refine ⟨L.toNat, R.toNat, ?_, by omega, by omega⟩
  congr 1 <;> omega
theorem shift_zero {n s : Nat} (hn : n ≤ 16) (hs : s < 4294967296) : ((Int.fdiv (IntKind.u64.wrap (s : Int)) (2 ^ (min ((n : Int)).toNat 64))) != 0) = !decide (s < 2 ^ n) := by
  rw [Int.toNat_natCast, Nat.min_eq_left (show n ≤ 64 by omega), wrap_u64 (n := (s : Int)) (by omega) (by omega), fdiv_pow]
  have hp : 0 < 2 ^ n := Nat.pow_pos (by omega)
  by_cases h : s < 2 ^ n
  · rw [Nat.div_eq_of_lt h]; simp [h]
  · have h2 := Nat.div_pos (show 2 ^ n ≤ s by omega) hp
    have : ¬ ((s / 2 ^ n : Nat) : Int) = 0 := by omega
    simp only [h, decide_false, Bool.not_false, bne_iff_ne, ne_eq]
    exact this
theorem known_list (t : Table) (T : TableOk t) (fds : List FD) (hl : fds.length ≤ 1000000) (h : ∀ f ∈ fds, okFD f) : approx_known t fds = some (if tableErr t = 0 then (if fds.all (inB t) then 0 else 6) else tableErr t) := by
  by_cases he : tableErr t = 0
  · have hn := attrs_of he
    have hb : ∀ (k : Nat) (f : FD), fds[k]? = some f → k < fds.length → approx_known_l1 t fds (k : Int) = some (if inB t f then .next ((k : Int) + 1) else .done (.inr 6)) := by
      intro k f hf hk
      obtain ⟨s, r, rfl, hs, hr⟩ := fd_of (h f (List.mem_of_getElem? hf))
      have h1 : ¬ ((t.Attrs.length : Int) < 0) := by omega
      have h2 := shift_zero hn (or_lt hs hr)
      have hw : IntKind.i64.wrap ((k : Int) + 1) = (k : Int) + 1 := by rw [wrap_i64 (by omega) (by omega)]
      have h3 : inB t ⟨(s : Int), (r : Int)⟩ = decide ((s ||| r) < 2 ^ t.Attrs.length) := by simp [inB]
      simp only [approx_known_l1, if_pos (lt_true hf), idx_get hf, Option.bind_some, if_neg h1, w32_or hs hr, h2, h3, hw]
      by_cases hc : (s ||| r) < 2 ^ t.Attrs.length <;> simp [hc]
    have hall := LoopF_all fds (approx_known_l1 t fds) (inB t) 6
      (fun k f hf hk hp => by rw [hb k f hf hk, if_pos hp]; rfl)
      (fun k f hf hp => by rw [hb k f hf (lt_of_get hf), if_neg (by simp [hp])])
      (by simp [approx_known_l1])
    simp only [approx_known, table_Valid_table t T, Option.bind_some, he, bne_self_eq_false, Bool.false_eq_true, if_false, hall, if_true]
    by_cases hc : fds.all (inB t) = true <;> simp [hc]
  · have hne : (tableErr t != 0) = true := by simp [he]
    simp only [approx_known, table_Valid_table t T, Option.bind_some, hne, if_true, if_neg he]
def fdErr (t : Table) (f : FD) : Int := if tableErr t = 0 then (if inB t f then 0 else 6) else tableErr t
theorem known_eq (t : Table) (T : TableOk t) (f : FD) (h : okFD f) : approx_known t [f] = some (fdErr t f) := by
  rw [known_list t T [f] (by simp) (fun g hg => by rw [List.mem_singleton.1 hg]; exact h)]
  simp [fdErr]
theorem check_eq (t : Table) (T : TableOk t) (f : FD) (h : okFD f) : drossref32_check t f = some (fdErr t f) := by
  unfold fdErr
  by_cases he : tableErr t = 0
  · have hn := attrs_of he
    obtain ⟨s, r, rfl, hs, hr⟩ := fd_of h
    have hp : 0 < 2 ^ t.Attrs.length := Nat.pow_pos (by omega)
    have hp2 : 2 ^ t.Attrs.length < 4294967296 := pow_lt (by omega)
    have h3 : inB t ⟨(s : Int), (r : Int)⟩ = decide ((s ||| r) < 2 ^ t.Attrs.length) := by simp [inB]
    simp only [drossref32_check, ref_Valid_table t T, Option.bind_some, he, bne_self_eq_false, Bool.false_eq_true, if_false, Full_eq hn, drossref02_Sub, w32_or hs hr, w32_and (or_lt hs hr) (show 2 ^ t.Attrs.length - 1 < 4294967296 by omega), Nat.and_two_pow_sub_one_eq_mod, if_true, h3]
    by_cases hc : (s ||| r) < 2 ^ t.Attrs.length
    · rw [Nat.mod_eq_of_lt hc]; simp [hc]
    · have hm := Nat.mod_lt (s ||| r) hp
      have : ¬ (((s ||| r) % 2 ^ t.Attrs.length : Nat) : Int) = ((s ||| r : Nat) : Int) := by omega
      have hb : ((((s ||| r) % 2 ^ t.Attrs.length : Nat) : Int) == ((s ||| r : Nat) : Int)) = false := by simpa using this
      rw [hb]; simp [hc]
  · have hne : (tableErr t != 0) = true := by simp [he]
    simp only [drossref32_check, ref_Valid_table t T, Option.bind_some, hne, if_true, if_neg he]

theorem agN_comm (t : Table) (p i k : Nat) : agN t p i k = agN t p k i := by
  unfold agN; rw [decide_eq_decide]; exact eq_comm
theorem agN_or {t : Table} (G : GT t) {s r : Nat} (hs : s < 2 ^ t.Attrs.length) (hr : r < 2 ^ t.Attrs.length) {i k : Nat} (hi : i < t.Rows.length) (hk : k < t.Rows.length) : agN t (s ||| r) i k = (agN t s i k && agN t r i k) := by
  rw [Bool.eq_iff_iff, Bool.and_eq_true, agN_iff G hs hi hk, agN_iff G hr hi hk, agN_iff G (Nat.or_lt_two_pow hs hr) hi hk]
  unfold AgreeN
  constructor
  · intro h
    exact ⟨fun a ha hb => h a ha (by rw [Nat.testBit_or, hb]; rfl), fun a ha hb => h a ha (by rw [Nat.testBit_or, hb, Bool.or_true])⟩
  · rintro ⟨h1, h2⟩ a ha hb
    rw [Nat.testBit_or, Bool.or_eq_true] at hb
    rcases hb with hb | hb
    · exact h1 a ha hb
    · exact h2 a ha hb
theorem sum_ite {α : Type} (p : α → Bool) : ∀ l : List α, (l.map fun x => if p x = true then 1 else 0).sum = l.countP p
  | [] => rfl
  | x :: l => by
    rw [List.map_cons, List.sum_cons, sum_ite p l, List.countP_cons]
    by_cases h : p x = true <;> simp [h] <;> omega
theorem range_at {n k z : Nat} (h : (List.range n)[k]? = some z) : z = k ∧ k < n := by
  have hk : k < n := by have := lt_of_get h; simpa using this
  rw [List.getElem?_range hk] at h
  exact ⟨(Option.some.inj h).symm, hk⟩
theorem count_loop (n : Nat) (hn : n ≤ 1000000) (B : Int × Int → Option (LS (Int × Int) Int)) (p : Nat → Bool)
    (hB : ∀ (k : Nat) (s : Nat), k < n → s ≤ n → B ((s : Int), (k : Int)) = some (.next (((if p k = true then s + 1 else s : Nat) : Int), ((k + 1 : Nat) : Int))))
    (hE : ∀ s : Int, B (s, (n : Int)) = some (.done s)) : LoopF B (0, 0) = some ((((List.range n).countP p : Nat) : Int)) := by
  have hc : (List.range n).countP p ≤ n := by
    have := List.countP_le_length (p := p) (l := List.range n)
    simpa using this
  have h := sum_loop (List.range n) B (fun k => if p k = true then 1 else 0) 0
    (fun k x s hx hk hs => by
      obtain ⟨rfl, hk'⟩ := range_at hx
      rw [sum_ite, Nat.zero_add] at hs
      rw [hB x s hk' (by omega)]
      by_cases hp : p x = true <;> simp [hp])
    (fun s => by rw [List.length_range]; exact hE s)
  rw [show ((0 : Int), (0 : Int)) = (((0 : Nat) : Int), 0) from rfl, h, sum_ite, Nat.zero_add]
theorem lt_u32 {t : Table} (G : GT t) {s : Nat} (hs : s < 2 ^ t.Attrs.length) : s < 4294967296 := pow_u32 G.attrs hs
/-! ### the reference's removal -/
theorem ref_l12 {t : Table} (G : GT t) {s r : Nat} (hs : s < 2 ^ t.Attrs.length) (hr : r < 2 ^ t.Attrs.length) {k : Nat} (hk : k < t.Rows.length) :
    LoopF (drossref32_Removal_l12 t ⟨(s : Int), (r : Int)⟩ (k : Int)) (0, 0) = some ((cntP t (s ||| r) k : Nat) : Int) := by
  have hn := G.rows
  refine count_loop t.Rows.length (by omega) _ (fun j => agN t (s ||| r) j k) (fun j c hj hc => ?_) (fun c => by simp [drossref32_Removal_l12])
  have hag := Agree_agN G (Nat.or_lt_two_pow hs hr) hk hj
  have hw := wrap_nat (show c < 4611686018427387904 by omega)
  have hw2 := wrap_nat (show j < 4611686018427387904 by omega)
  simp only [drossref32_Removal_l12, if_pos (show (j : Int) < (t.Rows.length : Int) by omega), idx_get (rowN_get hk), idx_get (rowN_get hj), Option.bind_some, w32_or (lt_u32 G hs) (lt_u32 G hr), hag, hw, hw2]
  rw [agN_comm]
  by_cases h : agN t (s ||| r) j k = true <;> simp [h]
theorem ref_l13 {t : Table} (G : GT t) {s r : Nat} (hs : s < 2 ^ t.Attrs.length) (hr : r < 2 ^ t.Attrs.length) {i : Nat} (hi : i < t.Rows.length) :
    LoopF (drossref32_Removal_l13 t ⟨(s : Int), (r : Int)⟩ (i : Int)) ((i : Int), 0, 0) = some ((bestRow t s (s ||| r) i : Nat) : Int) := by
  have hn := G.rows
  have h := LoopF_foldl (List.range t.Rows.length) (fun (b : Nat × Nat) k => ((b.1 : Int), (b.2 : Int), k)) (drossref32_Removal_l13 t ⟨(s : Int), (r : Int)⟩ (i : Int)) (stepB t s (s ||| r) i) (fun b => (b.1 : Int)) (fun _ _ => True) (b0 := (i, 0)) (s0 := ((i : Int), 0, 0)) rfl trivial
    (fun k b x hx hk _ => by
      obtain ⟨rfl, hk'⟩ := range_at hx
      refine ⟨?_, trivial⟩
      have hag := Agree_agN G hs hi hk'
      have hw2 := wrap_nat (show x < 4611686018427387904 by omega)
      simp only [drossref32_Removal_l13, if_pos (show (x : Int) < (t.Rows.length : Int) by omega), idx_get (rowN_get hi), idx_get (rowN_get hk'), Option.bind_some, hag, hw2, ref_l12 G hs hr hk']
      unfold stepB
      by_cases h1 : agN t s i x = true
      · by_cases h2 : b.2 < cntP t (s ||| r) x
        · simp only [h1, if_true, if_pos h2, if_pos (show ((cntP t (s ||| r) x : Nat) : Int) > (b.2 : Int) by omega)]
        · simp only [h1, if_true, if_neg h2, if_neg (show ¬ ((cntP t (s ||| r) x : Nat) : Int) > (b.2 : Int) by omega)]
      · simp only [h1, if_false, Bool.false_eq_true])
    (fun b _ => by simp [drossref32_Removal_l13])
  rw [h]; rfl
/-- the rows that are removed -/
def remL (t : Table) (s p : Nat) : List Nat := (List.range t.Rows.length).filter fun i => remB t s p i
def remIDs (t : Table) (s p : Nat) : List Int := (remL t s p).map fun i => (rowN t i).ID
theorem remB_ref {t : Table} (G : GT t) {s r : Nat} (hs : s < 2 ^ t.Attrs.length) (hr : r < 2 ^ t.Attrs.length) {i : Nat} (hi : i < t.Rows.length) : remB t s (s ||| r) i = !agN t r i (bestRow t s (s ||| r) i) := by
  obtain ⟨b1, b2, _, _⟩ := bestRow_spec (t := t) (s := s) (p := s ||| r) hi
  unfold remB
  rw [agN_comm, agN_or G hs hr hi b1, b2, Bool.true_and]
theorem foldl_keepM {α β : Type} (p : α → Bool) (f : α → β) : ∀ (l : List α) (o : List β), l.foldl (fun o x => if p x = true then o ++ [f x] else o) o = o ++ (l.filter p).map f
  | [], o => by simp
  | x :: l, o => by
    rw [List.foldl_cons, foldl_keepM p f l]
    by_cases h : p x = true <;> simp [h]
theorem ref_l14 {t : Table} (G : GT t) {s r : Nat} (hs : s < 2 ^ t.Attrs.length) (hr : r < 2 ^ t.Attrs.length) :
    LoopF (drossref32_Removal_l14 t ⟨(s : Int), (r : Int)⟩) ([], 0) = some (remIDs t s (s ||| r)) := by
  have hn := G.rows
  have h := LoopF_foldl (List.range t.Rows.length) (fun (o : List Int) k => (o, k)) (drossref32_Removal_l14 t ⟨(s : Int), (r : Int)⟩) (fun o i => if remB t s (s ||| r) i = true then o ++ [(rowN t i).ID] else o) id (fun k o => o.length ≤ k) (b0 := []) (s0 := ([], 0)) rfl (by simp)
    (fun k o x hx hk hI => by
      obtain ⟨rfl, hk'⟩ := range_at hx
      obtain ⟨b1, b2, _, _⟩ := bestRow_spec (t := t) (s := s) (p := s ||| r) hk'
      have hag := Agree_agN G hr hk' b1
      have hw2 := wrap_nat (show x < 4611686018427387904 by omega)
      have hroom : roomB (o.length + 1) 8 = true := room_le (by omega) (by omega)
      simp only [drossref32_Removal_l14, if_pos (show (x : Int) < (t.Rows.length : Int) by omega), ref_l13 G hs hr hk', idx_get (rowN_get hk'), idx_get (rowN_get b1), Option.bind_some, hag, hw2, hroom, if_true, remB_ref G hs hr hk']
      by_cases h1 : agN t r x (bestRow t s (s ||| r) x) = true
      · simp only [h1, if_true, Bool.not_true, Bool.false_eq_true, if_false]
        exact ⟨trivial, by omega⟩
      · have h1' : agN t r x (bestRow t s (s ||| r) x) = false := by simpa using h1
        simp only [h1', if_true, Bool.not_false, Bool.false_eq_true, if_false]
        exact ⟨trivial, by simp; omega⟩)
    (fun o _ => by simp [drossref32_Removal_l14])
  rw [h, foldl_keepM]; rfl
theorem lt_in {t : Table} {s r : Nat} (h : inB t ⟨(s : Int), (r : Int)⟩ = true) : s < 2 ^ t.Attrs.length ∧ r < 2 ^ t.Attrs.length := by
  simp only [inB, Int.toNat_natCast, decide_eq_true_eq] at h
  exact ⟨Nat.lt_of_le_of_lt Nat.left_le_or h, Nat.lt_of_le_of_lt Nat.right_le_or h⟩
/-- the rows that the program and the reference remove -/
def remR (t : Table) (f : FD) : List Int × Int := if fdErr t f = 0 then (remIDs t f.Lhs.toNat (f.Lhs.toNat ||| f.Rhs.toNat), 0) else ([], fdErr t f)
theorem gt_of {t : Table} (h : okTable t) (he : tableErr t = 0) : GT t := by
  refine ⟨tabOk_of h, he, fun r hr v hv => ?_⟩
  exact okI_i64 ((h.2.2.2 r hr).2.2 v hv).2.1
theorem fdErr_zero {t : Table} {f : FD} (h : fdErr t f = 0) : tableErr t = 0 ∧ inB t f = true := by
  unfold fdErr at h
  by_cases he : tableErr t = 0
  · rw [if_pos he] at h
    by_cases hi : inB t f = true
    · exact ⟨he, hi⟩
    · rw [if_neg hi] at h; cases h
  · rw [if_neg he] at h; exact absurd h he
theorem ref_Removal_eq (t : Table) (ht : okTable t) (f : FD) (h : okFD f) : drossref32_Removal t f = some (remR t f) := by
  unfold remR
  by_cases he : fdErr t f = 0
  · obtain ⟨h0, hi⟩ := fdErr_zero he
    have G := gt_of ht h0
    obtain ⟨s, r, rfl, hs, hr⟩ := fd_of h
    obtain ⟨hs', hr'⟩ := lt_in hi
    simp only [drossref32_Removal, check_eq t (tabOk_of ht) _ h, Option.bind_some, he, bne_self_eq_false, Bool.false_eq_true, if_false, ref_l14 G hs' hr', if_true, Int.toNat_natCast]
  · have hne : (fdErr t f != 0) = true := by simp [he]
    simp only [drossref32_Removal, check_eq t (tabOk_of ht) _ h, Option.bind_some, hne, if_true, if_neg he]

/-! ### the reference's errors -/
theorem ref_e3 {t : Table} (G : GT t) {s r : Nat} (hs : s < 2 ^ t.Attrs.length) (hr : r < 2 ^ t.Attrs.length) {i : Nat} (hi : i < t.Rows.length) :
    LoopF (drossref32_Error_l3 t ⟨(s : Int), (r : Int)⟩ (i : Int)) (0, 0) = some ((nviol t s (s ||| r) i : Nat) : Int) := by
  have hn := G.rows
  refine count_loop t.Rows.length (by omega) _ (fun k => agN t s k i && !agN t (s ||| r) k i) (fun k c hk hc => ?_) (fun c => by simp [drossref32_Error_l3])
  have h1 := Agree_agN G hs hi hk
  have h2 := Agree_agN G hr hi hk
  have hw := wrap_nat (show c < 4611686018427387904 by omega)
  have hw2 := wrap_nat (show k < 4611686018427387904 by omega)
  have hv : drossref32_violate (rowN t i) (rowN t k) ⟨(s : Int), (r : Int)⟩ = some (agN t s k i && !agN t (s ||| r) k i) := by
    rw [agN_or G hs hr hk hi]
    simp only [drossref32_violate, h1, h2, Option.bind_some]
    rw [agN_comm t s i k, agN_comm t r i k]
    by_cases hh : agN t s k i = true <;> simp [hh]
  simp only [drossref32_Error_l3, if_pos (show (k : Int) < (t.Rows.length : Int) by omega), idx_get (rowN_get hi), idx_get (rowN_get hk), Option.bind_some, hv, hw, hw2]
  by_cases h : (agN t s k i && !agN t (s ||| r) k i) = true <;> simp only [h, if_true, if_false, Bool.false_eq_true]
theorem fold_pair (f g : Nat → Nat) : ∀ (l : List Nat) (a : Nat × Nat), l.foldl (fun a i => (a.1 + f i, a.2 + g i)) a = (a.1 + (l.map f).sum, a.2 + (l.map g).sum)
  | [], a => by simp
  | x :: l, a => by rw [List.foldl_cons, fold_pair f g l]; simp; constructor <;> omega
theorem ref_e4 {t : Table} (G : GT t) {s r : Nat} (hs : s < 2 ^ t.Attrs.length) (hr : r < 2 ^ t.Attrs.length) :
    LoopF (drossref32_Error_l4 t ⟨(s : Int), (r : Int)⟩) (0, 0, 0) = some (((errN t s (s ||| r) 1 : Nat) : Int), ((errN t s (s ||| r) 2 : Nat) : Int)) := by
  have hn := G.rows
  have h := LoopF_foldl (List.range t.Rows.length) (fun (b : Nat × Nat) k => ((b.1 : Int), (b.2 : Int), k)) (drossref32_Error_l4 t ⟨(s : Int), (r : Int)⟩) (fun a i => (a.1 + nviol t s (s ||| r) i, a.2 + min (nviol t s (s ||| r) i) 1)) (fun b => ((b.1 : Int), (b.2 : Int))) (fun k b => b.1 ≤ k * t.Rows.length ∧ b.2 ≤ k) (b0 := (0, 0)) (s0 := (0, 0, 0)) rfl (by simp)
    (fun k b x hx hk hI => by
      obtain ⟨rfl, hk'⟩ := range_at hx
      have hv := nviol_le t s (s ||| r) x
      have hm : (x + 1) * t.Rows.length = x * t.Rows.length + t.Rows.length := Nat.succ_mul _ _
      have hmm : x * t.Rows.length ≤ 1000 * 1000 := Nat.mul_le_mul (by omega) hn
      refine ⟨?_, by simp only; omega, by simp only; omega⟩
      have hw2 := wrap_nat (show x < 4611686018427387904 by omega)
      have w1 : IntKind.i64.wrap ((b.1 : Int) + ((nviol t s (s ||| r) x : Nat) : Int)) = ((b.1 + nviol t s (s ||| r) x : Nat) : Int) := by rw [wrap_i64 (by omega) (by omega)]; omega
      have w2 : IntKind.i64.wrap ((b.2 : Int) + (if 1 < ((nviol t s (s ||| r) x : Nat) : Int) then 1 else ((nviol t s (s ||| r) x : Nat) : Int))) = ((b.2 + min (nviol t s (s ||| r) x) 1 : Nat) : Int) := by
        by_cases h1 : 1 < nviol t s (s ||| r) x
        · rw [if_pos (by omega), wrap_i64 (by omega) (by omega)]; omega
        · rw [if_neg (by omega), wrap_i64 (by omega) (by omega)]; omega
      simp only [drossref32_Error_l4, if_pos (show (x : Int) < (t.Rows.length : Int) by omega), ref_e3 G hs hr hk', Option.bind_some, w1, w2, hw2])
    (fun b _ => by simp [drossref32_Error_l4])
  rw [h, fold_pair]
  have e1 : phiN t s (s ||| r) 1 = nviol t s (s ||| r) := by funext i; simp [phiN]
  have e2 : phiN t s (s ||| r) 2 = fun i => min (nviol t s (s ||| r) i) 1 := by funext i; simp [phiN]
  simp only [errN, e1, e2, Nat.zero_add]
theorem err3_len (t : Table) (s p : Nat) : errN t s p 3 = (remIDs t s p).length := by
  have e3 : phiN t s p 3 = fun i => if remB t s p i = true then 1 else 0 := by funext i; simp [phiN]
  unfold errN remIDs remL
  rw [e3, sum_ite, List.length_map, List.countP_eq_length_filter]
/-- the answer of Error -/
def errA (t : Table) (f : FD) (m : Int) : Ratio × Int :=
  if fdErr t f = 0 then (if 1 ≤ m ∧ m ≤ 3 then (errR t f.Lhs.toNat (f.Lhs.toNat ||| f.Rhs.toNat) m.toNat, 0) else (⟨0, 0⟩, 1)) else (⟨0, 0⟩, fdErr t f)
theorem Error_eq (t : Table) (ht : okTable t) (f : FD) (h : okFD f) (m : Int) : approx_Error t f m = some (errA t f m) := by
  unfold errA
  by_cases he : fdErr t f = 0
  · obtain ⟨h0, hi⟩ := fdErr_zero he
    have G := gt_of ht h0
    obtain ⟨s, r, rfl, hs, hr⟩ := fd_of h
    obtain ⟨hs', hr'⟩ := lt_in hi
    simp only [approx_Error, known_eq t (tabOk_of ht) _ h, Option.bind_some, he, bne_self_eq_false, Bool.false_eq_true, if_false, if_true, Int.toNat_natCast, approx_measures]
    by_cases h1 : m ≥ 1
    · by_cases h3 : m ≤ 3
      · obtain ⟨k, rfl⟩ : ∃ k : Nat, m = (k : Int) := ⟨m.toNat, by omega⟩
        have hm := measured_eq G hs' hr' k (by omega)
        simp only [if_pos h1, h3, decide_true, if_true, Option.bind_some, hm, if_pos (show (1 : Int) ≤ (k : Int) ∧ True by exact ⟨by omega, trivial⟩), Int.toNat_natCast]
      · simp only [if_pos h1, h3, decide_false, Bool.false_eq_true, if_false, Option.bind_some, and_false]
    · simp only [if_neg h1, Bool.false_eq_true, if_false, Option.bind_some, if_neg (show ¬ ((1 : Int) ≤ m ∧ m ≤ 3) by omega)]
  · have hne : (fdErr t f != 0) = true := by simp [he]
    simp only [approx_Error, known_eq t (tabOk_of ht) _ h, Option.bind_some, hne, if_true, if_neg he]
theorem ref_Error_eq (t : Table) (ht : okTable t) (f : FD) (h : okFD f) (m : Int) : drossref32_Error t f m = some (errA t f m) := by
  unfold errA
  by_cases he : fdErr t f = 0
  · obtain ⟨h0, hi⟩ := fdErr_zero he
    have G := gt_of ht h0
    have hrem := ref_Removal_eq t ht f h
    obtain ⟨s, r, rfl, hs, hr⟩ := fd_of h
    obtain ⟨hs', hr'⟩ := lt_in hi
    have hn := G.rows
    have hck := check_eq t (tabOk_of ht) _ h
    rw [he] at hck
    simp only [remR, he, if_true, Int.toNat_natCast] at hrem
    simp only [drossref32_Error, hck, Option.bind_some, bne_self_eq_false, Bool.false_eq_true, if_false, he, if_true, Int.toNat_natCast]
    by_cases h1 : m < 1
    · rw [if_pos h1, if_neg (by omega)]
    · by_cases h3 : m > 3
      · rw [if_neg h1, if_pos h3, if_neg (by omega)]
      · rw [if_neg h1, if_neg h3, if_pos (show (1 : Int) ≤ m ∧ m ≤ 3 by omega)]
        obtain ⟨k, rfl⟩ : ∃ k : Nat, m = (k : Int) := ⟨m.toNat, by omega⟩
        have hk : k = 1 ∨ k = 2 ∨ k = 3 := by omega
        have hE := err_le t s (s ||| r) 1
        have hE2 := err_le1 t s (s ||| r) (m := 2) (by omega)
        have hE3 := err_le1 t s (s ||| r) (m := 3) (by omega)
        have hnn : t.Rows.length * t.Rows.length ≤ 1000 * 1000 := Nat.mul_le_mul hn hn
        unfold errR
        by_cases hz : t.Rows.length = 0
        · have hz' : ((t.Rows.length : Int) == 0) = true := by simp [hz]
          have h01 := ref_Of_nat 0 1 (by omega) (by omega) (by omega)
          simp only [hz', if_true, if_pos hz]
          rw [show drossref04_Of 0 1 = some (ratioN 0 1) from h01]
          rfl
        · have hz' : ((t.Rows.length : Int) == 0) = false := by simp; exact fun e => hz (by rw [e]; rfl)
          have hpos : 0 < t.Rows.length * t.Rows.length := Nat.mul_pos (by omega) (by omega)
          simp only [hz', Bool.false_eq_true, if_false, if_neg hz, ref_e4 G hs' hr', Option.bind_some, Int.toNat_natCast]
          have hw : IntKind.i64.wrap ((t.Rows.length : Int) * (t.Rows.length : Int)) = ((t.Rows.length * t.Rows.length : Nat) : Int) := by
            have : (t.Rows.length : Int) * (t.Rows.length : Int) = ((t.Rows.length * t.Rows.length : Nat) : Int) := by simp
            rw [this, wrap_i64 (by omega) (by omega)]
          rcases hk with rfl | rfl | rfl
          · have c1 : (((1 : Nat) : Int) == 1) = true := by decide
            simp only [c1, if_true, hw, ref_Of_nat _ _ (show errN t s (s ||| r) 1 < 2305843009213693952 by omega) hpos (by omega), Option.bind_some]
          · have c1 : (((2 : Nat) : Int) == 1) = false := by decide
            have c2 : (((2 : Nat) : Int) == 2) = true := by decide
            simp only [c1, c2, if_true, Bool.false_eq_true, if_false, ref_Of_nat _ _ (show errN t s (s ||| r) 2 < 2305843009213693952 by omega) (show 0 < t.Rows.length by omega) (by omega), Option.bind_some]
            simp
          · have c1 : (((3 : Nat) : Int) == 1) = false := by decide
            have c2 : (((3 : Nat) : Int) == 2) = false := by decide
            rw [err3_len] at hE3
            simp only [c1, c2, Bool.false_eq_true, if_false, hrem, Option.bind_some, ref_Of_nat _ _ (show (remIDs t s (s ||| r)).length < 2305843009213693952 by omega) (show 0 < t.Rows.length by omega) (by omega), err3_len]
            simp
  · have hne : (fdErr t f != 0) = true := by simp [he]
    simp only [drossref32_Error, check_eq t (tabOk_of ht) _ h, Option.bind_some, hne, if_true, if_neg he]
end Go.Proofs.YtjcdclpfeflfkaaGreatDoor
/- The program's removal; the chapter's example; Error. -/
set_option linter.unusedVariables false
set_option linter.unusedSimpArgs false
namespace Go.Proofs.YtjcdclpfeflfkaaGreatDoor
open Go Go.Ab

theorem intL_get (l : List Nat) (j : Nat) : (intL l)[j]? = (l[j]?).map (fun n : Nat => (n : Int)) := by simp [intL]
def idN (t : Table) (i : Nat) : Int := (rowN t i).ID
theorem foldl_app {α β : Type} (f : α → List β) : ∀ (l : List α) (o : List β), l.foldl (fun o x => o ++ f x) o = o ++ l.flatMap f
  | [], o => by simp
  | x :: l, o => by rw [List.foldl_cons, foldl_app f l]; simp
theorem flat_one {α β : Type} (f : α → β) : ∀ l : List α, (l.flatMap fun i => [f i]) = l.map f
  | [] => rfl
  | x :: l => by rw [List.flatMap_cons, flat_one f l]; rfl
theorem rem_l11 (t : Table) (b j : Nat) (d : List Nat) (hd : ∀ i ∈ d, i < t.Rows.length) (hl : d.length ≤ 1000000) (out : List Int) (ho : out.length ≤ 1000000000000) :
    LoopF (approx_Removal_l11 t (b : Int) (j : Int) (intL d)) (out, 0) = some (out ++ if j = b then [] else d.map (idN t)) := by
  have h := LoopF_foldl d (fun (o : List Int) k => (o, k)) (approx_Removal_l11 t (b : Int) (j : Int) (intL d)) (fun o i => o ++ if j = b then [] else [idN t i]) id (fun k o => o.length ≤ out.length + k) (b0 := out) (s0 := (out, 0)) rfl (by simp)
    (fun k o x hx hk hI => by
      have hki : ((k : Int) < ((intL d).length : Int)) := by rw [intL_len]; omega
      have e1 : idx (intL d) (k : Int) = some (x : Int) := by rw [idx_nat, intL_get, hx]; rfl
      have e2 := idx_get (rowN_get (hd x (List.mem_of_getElem? hx)))
      have hw := wrap_nat (show k < 4611686018427387904 by omega)
      have hr : roomB (o.length + 1) 8 = true := room8 (by omega)
      by_cases hj : j = b
      · have hne : ((j : Int) != (b : Int)) = false := by simp [hj]
        simp only [approx_Removal_l11, if_pos hki, e1, Option.bind_some, hne, Bool.false_eq_true, if_false, hw, if_pos hj, List.append_nil]
        exact ⟨trivial, by omega⟩
      · have hne : ((j : Int) != (b : Int)) = true := by simp; omega
        simp only [approx_Removal_l11, if_pos hki, e1, e2, hr, Option.bind_some, hne, if_true, hw, if_neg hj]
        exact ⟨rfl, by simp; omega⟩)
    (fun o _ => by simp [approx_Removal_l11, intL_len])
  rw [h, foldl_app]
  by_cases hj : j = b
  · simp only [if_pos hj, id]
    congr 2
    simp
  · simp only [if_neg hj, id]
    congr 2
    exact flat_one (idN t) d
/-- the rows of the parts that are not the best one -/
def outN (g : List (List Nat)) : List Nat := (List.range g.length).flatMap fun j => if j = bestN g then [] else g.getD j []
theorem map_outN (t : Table) (g : List (List Nat)) : (outN g).map (idN t) = (List.range g.length).flatMap fun j => if j = bestN g then [] else (g.getD j []).map (idN t) := by
  unfold outN
  rw [List.map_flatMap]
  congr 1
  funext j
  split <;> simp
theorem rem_l12 (t : Table) (g : List (List Nat)) (hg : g.length ≤ 1000) (hd : ∀ d ∈ g, (∀ i ∈ d, i < t.Rows.length) ∧ d.length ≤ 1000) (out : List Int) (ho : out.length ≤ 1000000000) :
    LoopF (approx_Removal_l12 t (intLL g) (bestN g : Nat)) (out, 0) = some (out ++ (outN g).map (idN t)) := by
  have h := LoopF_foldl (List.range g.length) (fun (o : List Int) k => (o, k)) (approx_Removal_l12 t (intLL g) (bestN g : Nat)) (fun o j => o ++ if j = bestN g then [] else (g.getD j []).map (idN t)) id (fun k o => o.length ≤ out.length + k * 1000) (b0 := out) (s0 := (out, 0)) rfl (by simp)
    (fun k o x hx hk hI => by
      obtain ⟨rfl, hxl⟩ := range_at hx
      have hki : ((x : Int) < ((intLL g).length : Int)) := by rw [intLL_len]; omega
      have hgx : g[x]? = some (g.getD x []) := by simp [List.getD, List.getElem?_eq_getElem hxl]
      have e1 : idx (intLL g) (x : Int) = some (intL (g.getD x [])) := by rw [idx_nat, intLL_get, hgx]; rfl
      obtain ⟨d1, d2⟩ := hd _ (List.mem_of_getElem? hgx)
      have hw := wrap_nat (show x < 4611686018427387904 by omega)
      refine ⟨?_, ?_⟩
      · simp only [approx_Removal_l12, if_pos hki, e1, Option.bind_some, rem_l11 t (bestN g) x _ d1 (by omega) o (by omega), hw]
      · rw [List.length_append]
        split
        · rename_i e; clear e; simp only [List.length_nil, Nat.add_zero, Nat.succ_mul]; exact Nat.le_trans hI (by omega)
        · rw [List.length_map]; omega)
    (fun o _ => by simp [approx_Removal_l12, intLL_len])
  rw [h, foldl_app, map_outN]; rfl
theorem outN_len (g : List (List Nat)) (hd : ∀ d ∈ g, d.length ≤ 1000) : (outN g).length ≤ g.length * 1000 := by
  unfold outN
  have key : ∀ m, m ≤ g.length → ((List.range m).flatMap fun j => if j = bestN g then [] else g.getD j []).length ≤ m * 1000 := by
    intro m
    induction m with
    | zero => intro _; simp
    | succ m ih =>
      intro hm
      have h1 := ih (by omega)
      have hgx : g[m]? = some (g.getD m []) := by simp [List.getD, List.getElem?_eq_getElem (show m < g.length by omega)]
      have h2 := hd _ (List.mem_of_getElem? hgx)
      rw [List.range_succ, List.flatMap_append, List.length_append]
      simp only [List.flatMap_cons, List.flatMap_nil, List.append_nil]
      by_cases e : m = bestN g
      · simp only [if_pos e, List.length_nil, Nat.add_zero]; clear e; exact Nat.le_trans h1 (by omega)
      · rw [if_neg e]; omega
  exact key _ (Nat.le_refl _)
theorem parts_bd {t : Table} (hn : t.Rows.length ≤ 1000) {s : Nat} (p : Nat) {c : List Nat} (hc : c ∈ clsN t s) : (parts t p c).length ≤ 1000 ∧ ∀ d ∈ parts t p c, (∀ i ∈ d, i < t.Rows.length) ∧ d.length ≤ 1000 := by
  have hcl : c.length ≤ 1000 := by
    have := class_len hc
    rw [List.length_range] at this; omega
  refine ⟨?_, fun d hd => ⟨fun i hi => (cls_self hc (part_of hd hi).1).1, ?_⟩⟩
  · have := classes_len (List UInt8) (fun i => rkey p (rowN t i)) c
    unfold parts; omega
  · have := class_len hd; omega
/-- what the program gathers -/
def outG (t : Table) (s p : Nat) : List Nat := (big (clsN t s)).flatMap fun c => outN (parts t p c)
theorem rem_l13 {t : Table} (hn : t.Rows.length ≤ 1000) (s p : Nat) : LoopF (approx_Removal_l13 t (intG (grpN t s p))) ([], 0) = some ((outG t s p).map (idN t)) := by
  have hbl : (big (clsN t s)).length ≤ 1000 := by
    have h2 := List.length_filter_le (fun c : List Nat => decide (2 ≤ c.length)) (clsN t s)
    have h3 := classes_len (List UInt8) (fun i => rkey s (rowN t i)) (List.range t.Rows.length)
    rw [List.length_range] at h3
    unfold big
    unfold clsN at h2 ⊢
    omega
  have h := LoopF_foldl (big (clsN t s)) (fun (o : List Int) k => (o, k)) (approx_Removal_l13 t (intG (grpN t s p))) (fun o c => o ++ (outN (parts t p c)).map (idN t)) id (fun k o => o.length ≤ k * 1000000) (b0 := []) (s0 := ([], 0)) rfl (by simp)
    (fun k o c hc hk hI => by
      obtain ⟨hcm, hc2⟩ := big_mem.1 (List.mem_of_getElem? hc)
      obtain ⟨b1, b2⟩ := parts_bd hn p hcm
      have hg : (intG (grpN t s p))[k]? = some (intLL (parts t p c)) := by
        rw [intG_get]; unfold grpN; rw [List.getElem?_map, hc]; rfl
      have hki : ((k : Int) < ((intG (grpN t s p)).length : Int)) := by
        rw [intG_len]; unfold grpN; rw [List.length_map]; omega
      have hbest := best_eq (parts t p c) (by omega) (fun d hd => by have := (b2 d hd).2; omega)
      have hw := wrap_nat (show k < 4611686018427387904 by omega)
      have hl := outN_len (parts t p c) (fun d hd => (b2 d hd).2)
      refine ⟨?_, ?_⟩
      · simp only [approx_Removal_l13, if_pos hki, idx_get hg, hbest, Option.bind_some, rem_l12 t (parts t p c) b1 b2 o (by omega), hw]
      · rw [List.length_append, List.length_map]; omega)
    (fun o _ => by
      have : (intG (grpN t s p)).length = (big (clsN t s)).length := by rw [intG_len]; simp [grpN]
      simp [approx_Removal_l13, this])
  rw [h, foldl_app]
  unfold outG
  rw [List.map_flatMap]
  simp
/-! ### the same rows, in order -/
theorem count_sum (a : Nat) (l : List Nat) : l.count a = (l.map fun x => if (x == a) = true then 1 else 0).sum := by
  rw [sum_ite]; rfl
theorem count_flat {α : Type} (a : Nat) (f : α → List Nat) : ∀ l : List α, (l.flatMap f).count a = (l.map fun x => (f x).count a).sum
  | [] => rfl
  | x :: l => by simp [List.count_append, count_flat a f l]
theorem range_map_getD {α β : Type} (g : List α) (z : α) (f : α → β) : ((List.range g.length).map fun j => f (g.getD j z)) = g.map f := by
  apply List.ext_getElem?
  intro j
  rw [List.getElem?_map, List.getElem?_map]
  by_cases h : j < g.length
  · rw [List.getElem?_range h, List.getElem?_eq_getElem h]
    simp [List.getD, List.getElem?_eq_getElem h]
  · rw [List.getElem?_eq_none (by simp; omega), List.getElem?_eq_none (by omega)]; rfl
theorem outN_count {t : Table} {s p : Nat} (F : FinerR t s p) {c : List Nat} (hc : c ∈ clsN t s) (a : Nat) : (outN (parts t p c)).count a = (c.map fun i => if (i == a) = true then (if remB t s p i then 1 else 0) else 0).sum := by
  have hsum := classes_sum (fun i => rkey p (rowN t i)) (fun i => if (i == a) = true then (if remB t s p i then 1 else 0) else 0) c
  rw [← hsum, show classes (fun i => rkey p (rowN t i)) c = parts t p c from rfl]
  unfold outN
  rw [count_flat]
  rw [← range_map_getD (parts t p c) [] (fun d => (d.map fun i => if (i == a) = true then (if remB t s p i then 1 else 0) else 0).sum)]
  congr 1
  apply List.map_congr_left
  intro j hj
  have hjl : j < (parts t p c).length := by simpa using hj
  have hgx : (parts t p c)[j]? = some ((parts t p c).getD j []) := by simp [List.getD, List.getElem?_eq_getElem hjl]
  have hr : ∀ i ∈ (parts t p c).getD j [], remB t s p i = decide (j ≠ bestN (parts t p c)) := fun i hi => rem_iff F hc hgx hi
  by_cases e : j = bestN (parts t p c)
  · rw [if_pos e]
    have : ((parts t p c).getD j []).map (fun i => if (i == a) = true then (if remB t s p i then 1 else 0) else 0) = ((parts t p c).getD j []).map fun _ => 0 := by
      apply List.map_congr_left
      intro i hi
      rw [hr i hi]; simp [e]
    rw [this, sum_const]; simp
  · rw [if_neg e, count_sum]
    congr 1
    apply List.map_congr_left
    intro i hi
    rw [hr i hi]; simp [e]
theorem outG_perm {t : Table} {s p : Nat} (F : FinerR t s p) : (outG t s p).Perm (remL t s p) := by
  rw [List.perm_iff_count]
  intro a
  unfold outG
  rw [count_flat]
  have h1 : (big (clsN t s)).map (fun c => (outN (parts t p c)).count a) = (big (clsN t s)).map fun c => (c.map fun i => if (i == a) = true then (if remB t s p i then 1 else 0) else 0).sum := by
    apply List.map_congr_left
    intro c hc
    exact outN_count F (big_mem.1 hc).1 a
  rw [h1, big_sum (s := s) (fun i => if (i == a) = true then (if remB t s p i then 1 else 0) else 0) (fun i hi h => by
    have := phi_single (m := 3) F hi h
    simp only [phiN] at this
    have h2 : (if remB t s p i then 1 else 0) = 0 := by simpa using this
    rw [h2]; simp)]
  unfold remL
  rw [count_sum]
  have : ∀ l : List Nat, (l.map fun i => if (i == a) = true then (if remB t s p i then 1 else 0) else 0).sum = ((l.filter fun i => remB t s p i).map fun x => if (x == a) = true then 1 else 0).sum := by
    intro l
    induction l with
    | nil => rfl
    | cons x l ih =>
      rw [List.map_cons, List.sum_cons, ih]
      by_cases h : remB t s p x = true
      · simp [h]
      · simp [h]
  exact this _
theorem rows_asc : ∀ (rows : List Row) (n : Nat) (b : Int), rowsCode n b rows = 0 → (∀ r ∈ rows, b < r.ID) ∧ rows.Pairwise fun x y => x.ID < y.ID
  | [], _, _, _ => by simp
  | r :: rows, n, b, h => by
    simp only [rowsCode] at h
    by_cases h1 : r.ID ≤ b
    · rw [if_pos h1] at h; cases h
    · rw [if_neg h1] at h
      by_cases h2 : r.Values.length = n
      · by_cases h3 : r.Values.all valid = true
        · simp only [h2, h3, ne_eq, not_true_eq_false, if_false, if_true, Bool.not_true, Bool.false_eq_true, Bool.true_eq_false] at h
          obtain ⟨p1, p2⟩ := rows_asc rows n _ h
          refine ⟨fun x hx => ?_, List.pairwise_cons.2 ⟨p1, p2⟩⟩
          rcases List.mem_cons.1 hx with rfl | hx
          · omega
          · have := p1 x hx; omega
        · simp [h2, h3] at h
      · simp [h2] at h
theorem idN_asc {t : Table} (G : GT t) {i k : Nat} (h : i < k) (hk : k < t.Rows.length) : idN t i < idN t k := by
  have := (rows_asc _ _ _ G.code).2
  have h2 := List.pairwise_iff_getElem.1 this i k (by omega) hk h
  have e1 : rowN t i = t.Rows[i] := by simp [rowN, List.getD, List.getElem?_eq_getElem (show i < t.Rows.length by omega)]
  have e2 : rowN t k = t.Rows[k] := by simp [rowN, List.getD, List.getElem?_eq_getElem hk]
  unfold idN
  rw [e1, e2]; exact h2
theorem remIDs_sorted {t : Table} (G : GT t) (s p : Nat) : (remIDs t s p).Pairwise (· < ·) := by
  unfold remIDs
  rw [List.pairwise_map]
  have h : (remL t s p).Pairwise (· < ·) := List.Pairwise.sublist List.filter_sublist List.pairwise_lt_range
  have h2 : ∀ i ∈ remL t s p, i < t.Rows.length := fun i hi => by
    have := (List.mem_filter.1 hi).1
    simpa using this
  exact List.Pairwise.imp_of_mem (fun {a b} ha hb hab => idN_asc G hab (h2 b hb)) h
theorem sorted_unique {l l' : List Int} (hp : l.Perm l') (h1 : l.Pairwise (· ≤ ·)) (h2 : l'.Pairwise (· < ·)) : l = l' :=
  List.Perm.eq_of_pairwise (le := (· ≤ ·)) (fun a b _ _ h1 h2 => Int.le_antisymm h1 h2) h1 (h2.imp fun {a b} h => Int.le_of_lt h) hp
theorem Removal_eq (t : Table) (ht : okTable t) (f : FD) (h : okFD f) : approx_Removal t f = some (remR t f) := by
  unfold remR
  by_cases he : fdErr t f = 0
  · obtain ⟨h0, hi⟩ := fdErr_zero he
    have G := gt_of ht h0
    obtain ⟨s, r, rfl, hs, hr⟩ := fd_of h
    obtain ⟨hs', hr'⟩ := lt_in hi
    have hn := G.rows
    have hperm : ((outG t s (s ||| r)).map (idN t)).Perm (remIDs t s (s ||| r)) := (outG_perm (finerR_or G hs' hr')).map _
    have hlen : (remIDs t s (s ||| r)).length ≤ 1000 := by
      unfold remIDs remL
      have := List.length_filter_le (fun i => remB t s (s ||| r) i) (List.range t.Rows.length)
      rw [List.length_range] at this
      rw [List.length_map]; omega
    have hs : srtIF ((outG t s (s ||| r)).map (idN t)) = some (remIDs t s (s ||| r)) := by
      unfold srtIF
      rw [if_pos (by rw [hperm.length_eq]; omega)]
      exact congrArg some (sorted_unique ((srtI_perm _).trans hperm) (srtI_sorted _) (remIDs_sorted G _ _))
    simp only [approx_Removal, known_eq t (tabOk_of ht) _ h, Option.bind_some, he, bne_self_eq_false, Bool.false_eq_true, if_false, if_true, Int.toNat_natCast, groups_fd G hs' hr', rem_l13 hn, hs]
  · have hne : (fdErr t f != 0) = true := by simp [he]
    simp only [approx_Removal, known_eq t (tabOk_of ht) _ h, Option.bind_some, hne, if_true, if_neg he]
end Go.Proofs.YtjcdclpfeflfkaaGreatDoor
/- Approx: the chapter's example. -/
set_option linter.unusedVariables false
set_option linter.unusedSimpArgs false
namespace Go.Proofs.YtjcdclpfeflfkaaGreatDoor
open Go Go.Ab

def ex32 : Table := ⟨[114], [[97], [98]], [⟨1, [⟨1, 1, []⟩, ⟨1, 1, []⟩]⟩, ⟨2, [⟨1, 1, []⟩, ⟨1, 1, []⟩]⟩, ⟨3, [⟨1, 1, []⟩, ⟨1, 2, []⟩]⟩, ⟨4, [⟨1, 2, []⟩, ⟨2, 0, [98]⟩]⟩]⟩
theorem v32a : errA ex32 ⟨1, 2⟩ 1 = (⟨1, 4⟩, 0) := by decide +kernel
theorem v32b : errA ex32 ⟨1, 2⟩ 2 = (⟨3, 4⟩, 0) := by decide +kernel
theorem v32c : errA ex32 ⟨1, 2⟩ 3 = (⟨1, 4⟩, 0) := by decide +kernel
theorem v32d : remR ex32 ⟨1, 2⟩ = ([3], 0) := by decide +kernel
theorem ofV_5 : ofV 5 = ⟨2, 0, [98]⟩ := by simp [ofV, drossref01_Of]
theorem ok_ex32 : okTable ex32 := by
  refine ⟨by show okS _; unfold okS; decide, ⟨by decide, ?_⟩, ⟨by decide, ?_⟩⟩
  · intro x hx
    have : x = [97] ∨ x = [98] := by simpa [ex32] using hx
    rcases this with rfl | rfl <;> (unfold okS; decide)
  · intro x hx
    have hx' : x = ⟨1, [⟨1, 1, []⟩, ⟨1, 1, []⟩]⟩ ∨ x = ⟨2, [⟨1, 1, []⟩, ⟨1, 1, []⟩]⟩ ∨ x = ⟨3, [⟨1, 1, []⟩, ⟨1, 2, []⟩]⟩ ∨ x = ⟨4, [⟨1, 2, []⟩, ⟨2, 0, [98]⟩]⟩ := by simpa [ex32] using hx
    have hv : ∀ v : Value, v = ⟨1, 1, []⟩ ∨ v = ⟨1, 2, []⟩ ∨ v = ⟨2, 0, [98]⟩ → okValue v := by
      rintro v (rfl | rfl | rfl)
      · exact ⟨by show Lit.wf _ = true; decide, by show Lit.wf _ = true; decide, by show okS _; unfold okS; decide⟩
      · exact ⟨by show Lit.wf _ = true; decide, by show Lit.wf _ = true; decide, by show okS _; unfold okS; decide⟩
      · exact ⟨by show Lit.wf _ = true; decide, by show Lit.wf _ = true; decide, by show okS _; unfold okS; decide⟩
    rcases hx' with rfl | rfl | rfl | rfl
    all_goals
      refine ⟨by show Lit.wf _ = true; decide, ⟨by decide, fun v h => hv v ?_⟩⟩
      simp only [List.mem_cons, List.not_mem_nil, or_false] at h
      rcases h with rfl | rfl <;> simp
theorem example32_eq : drosslaw32_example = some ex32 := by
  have h := LoopF_foldl (List.range 4) (fun (o : List Row) i => (o, i)) (drosslaw32_example_l1 [[1, 1], [1, 1], [1, 2], [2, 5]]) (fun o (k : Nat) => o ++ [⟨(k : Int) + 1, ((([[1, 1], [1, 1], [1, 2], [2, 5]] : List (List Int)).getD k []).map ofV)⟩]) id (fun k o => o.length = k) (b0 := []) (s0 := ([], 0)) rfl rfl
    (fun k o z hz hk hI => by
      obtain ⟨rfl, hk3⟩ := range_at hz
      refine ⟨?_, by simp [hI]⟩
      have hi : ([[1, 1], [1, 1], [1, 2], [2, 5]] : List (List Int))[z]? = some (([[1, 1], [1, 1], [1, 2], [2, 5]] : List (List Int)).getD z []) := by
        have : z < ([[1, 1], [1, 1], [1, 2], [2, 5]] : List (List Int)).length := hk3
        simp [List.getD, List.getElem?_eq_getElem this]
      have hl : (([[1, 1], [1, 1], [1, 2], [2, 5]] : List (List Int)).getD z []).length ≤ 1048576 := by
        rcases z with _ | _ | _ | _ | z
        · simp
        · simp
        · simp
        · simp
        · omega
      have hw : IntKind.i64.wrap ((z : Int) + 1) = (z : Int) + 1 := by rw [wrap_i64 (by omega) (by omega)]
      simp only [drosslaw32_example_l1, if_pos (show (z : Int) < 4 by omega), idx_get hi, Option.bind_some, List01_eq _ hl, room_le (show o.length + 1 ≤ 1073741824 by omega) (show 32 ≤ 65536 by omega), if_true, hw]
      rfl)
    (fun o _ => by simp [drosslaw32_example_l1])
  simp only [drosslaw32_example, Option.bind_some, h, id]
  simp only [ex32, List.range, List.range.loop, List.foldl_cons, List.foldl_nil, List.getD, List.getElem?_cons_zero, List.getElem?_cons_succ, Option.getD_some, List.map_cons, List.map_nil, ofV_1, ofV_2, ofV_5, List.nil_append, List.cons_append]
  rfl
theorem ok_f12 : okFD ⟨1, 2⟩ := ⟨by show Lit.wf _ = true; decide, by show Lit.wf _ = true; decide⟩
theorem awake32 : drosslaw32_awake = some true := by
  have h1 : ratioN 1 4 = ⟨1, 4⟩ := by decide +kernel
  have h3 : ratioN 3 4 = ⟨3, 4⟩ := by decide +kernel
  have r1 : drossref04_Of 1 4 = some ⟨1, 4⟩ := by rw [← h1]; exact ref_Of_nat 1 4 (by omega) (by omega) (by omega)
  have r3 : drossref04_Of 3 4 = some ⟨3, 4⟩ := by rw [← h3]; exact ref_Of_nat 3 4 (by omega) (by omega) (by omega)
  have hid := IDs_eq [3] [3] (by simp)
  simp only [drosslaw32_awake, example32_eq, Option.bind_some, Error_eq ex32 ok_ex32 _ ok_f12, Removal_eq ex32 ok_ex32 _ ok_f12, v32a, v32b, v32c, v32d, r1, r3, beq_self_eq_true, Bool.and_self, if_true, hid, decide_true]
end Go.Proofs.YtjcdclpfeflfkaaGreatDoor
/- Tables of recipes; kept rows. -/
set_option linter.unusedVariables false
set_option linter.unusedSimpArgs false
namespace Go.Proofs.YtjcdclpfeflfkaaGreatDoor
open Go Go.Ab

theorem Good.gt {t : Table} (G : Good t) (h : okTable t) : GT t := gt_of h G.err
theorem in_of {t : Table} {s r : Nat} (hs : s < 2 ^ t.Attrs.length) (hr : r < 2 ^ t.Attrs.length) : inB t ⟨(s : Int), (r : Int)⟩ = true := by
  simp only [inB, Int.toNat_natCast, decide_eq_true_eq]
  exact Nat.or_lt_two_pow hs hr
theorem fdErr_ok {t : Table} (G : GT t) {s r : Nat} (hs : s < 2 ^ t.Attrs.length) (hr : r < 2 ^ t.Attrs.length) : fdErr t ⟨(s : Int), (r : Int)⟩ = 0 := by
  unfold fdErr
  rw [if_pos G.err, if_pos (in_of hs hr)]

/-! ### some rows of a table -/
end Go.Proofs.YtjcdclpfeflfkaaGreatDoor
/- The removal takes the least number of rows. -/
set_option linter.unusedVariables false
set_option linter.unusedSimpArgs false
namespace Go.Proofs.YtjcdclpfeflfkaaGreatDoor
open Go Go.Ab

end Go.Proofs.YtjcdclpfeflfkaaGreatDoor
/- Fractions compared; the errors of a dependency that holds. -/
set_option linter.unusedVariables false
set_option linter.unusedSimpArgs false
namespace Go.Proofs.YtjcdclpfeflfkaaGreatDoor
open Go Go.Ab

theorem fdiv32 {x : Nat} (h : x < 4294967296) : Int.fdiv (x : Int) (2 ^ (min 32 64)) = 0 := by
  rw [show min 32 64 = 32 from rfl, fdiv_pow, Nat.div_eq_of_lt h]; rfl
theorem mask32 {x : Nat} (h : x < 4294967296) : (BitVec.ofInt 64 (x : Int) &&& (4294967295#64)).toNat = x := by
  rw [BitVec.toNat_and, BitVec.toNat_ofInt, show (4294967295#64).toNat = 2 ^ 32 - 1 from rfl, Nat.and_two_pow_sub_one_eq_mod]
  have : ((x : Int) % ((2 ^ 64 : Nat) : Int)).toNat = x := by
    rw [show ((2 ^ 64 : Nat) : Int) = 18446744073709551616 by decide]
    omega
  rw [this, show (2 : Nat) ^ 32 = 4294967296 from rfl]
  omega
theorem mul64_small {x y : Nat} (hx : x < 65536) (hy : y < 65536) : bits_Mul64 (x : Int) (y : Int) = some (0, ((x * y : Nat) : Int)) := by
  have hxy : x * y < 4294967296 := Nat.lt_of_le_of_lt (Nat.mul_le_mul (show x ≤ 65535 by omega) (show y ≤ 65535 by omega)) (by omega)
  have h1 := fdiv32 (show x < 4294967296 by omega)
  have h2 := fdiv32 (show y < 4294967296 by omega)
  have m1 := mask32 (show x < 4294967296 by omega)
  have m2 := mask32 (show y < 4294967296 by omega)
  have w1 : IntKind.u64.wrap (x : Int) = (x : Int) := wrap_u64 (by omega) (by omega)
  have w2 : IntKind.u64.wrap (y : Int) = (y : Int) := wrap_u64 (by omega) (by omega)
  have e : (x : Int) * (y : Int) = ((x * y : Nat) : Int) := by simp
  generalize hq : x * y = q at *
  have w3 : IntKind.u64.wrap ((q : Nat) : Int) = (q : Int) := wrap_u64 (by omega) (by omega)
  have w0 : IntKind.u64.wrap 0 = 0 := by decide
  have h3 := fdiv32 hxy
  have h0 : Int.fdiv 0 (2 ^ (min 32 64)) = 0 := by rw [Int.zero_fdiv]
  have m0 : (BitVec.ofInt 64 0 &&& (4294967295#64)).toNat = 0 := by decide
  simp only [bits_Mul64, h1, h2, m1, m2, w1, w2, e, w3, h3, Int.zero_mul, Int.mul_zero, Int.add_zero, w0, h0, m0, Int.natCast_zero]
theorem size_nat {m : Nat} (h : m < 4611686018427387904) : drossref04_size (m : Int) = some ⟨0, (m : Int)⟩ := by
  simp only [drossref04_size]
  rw [if_neg (by omega), wrap_u64 (by omega) (by omega)]
/-- the denominator -/
def eD (t : Table) (m : Nat) : Nat := if t.Rows.length = 0 then 1 else if m = 1 then t.Rows.length * t.Rows.length else t.Rows.length
theorem eD_pos (t : Table) (m : Nat) : 0 < eD t m := by
  unfold eD
  split
  · omega
  · split
    · exact Nat.mul_pos (by omega) (by omega)
    · omega
theorem eD_le {t : Table} (hn : t.Rows.length ≤ 8) (m : Nat) : eD t m < 65536 := by
  have : t.Rows.length * t.Rows.length ≤ 8 * 8 := Nat.mul_le_mul hn hn
  unfold eD
  split
  · omega
  · split <;> omega
theorem errN_le {t : Table} (hn : t.Rows.length ≤ 8) (s p m : Nat) : errN t s p m < 65536 := by
  have h1 := err_le t s p m
  have : t.Rows.length * t.Rows.length ≤ 8 * 8 := Nat.mul_le_mul hn hn
  omega
theorem errR_ratio (t : Table) (s p m : Nat) : errR t s p m = ratioN (errN t s p m) (eD t m) := by
  unfold errR eD
  by_cases h : t.Rows.length = 0
  · rw [if_pos h, if_pos h]
    have : errN t s p m = 0 := by have := err_le t s p m; rw [h] at this; omega
    rw [this]; decide +kernel
  · rw [if_neg h, if_neg h]
theorem errA_ok {t : Table} (G : GT t) {s r : Nat} (hs : s < 2 ^ t.Attrs.length) (hr : r < 2 ^ t.Attrs.length) {m : Nat} (hm : m = 1 ∨ m = 2 ∨ m = 3) : errA t ⟨(s : Int), (r : Int)⟩ (m : Int) = (ratioN (errN t s (s ||| r) m) (eD t m), 0) := by
  unfold errA
  rw [if_pos (fdErr_ok G hs hr), if_pos (by omega)]
  simp only [Int.toNat_natCast, errR_ratio]
end Go.Proofs.YtjcdclpfeflfkaaGreatDoor
/- Comparison of fractions: both layers alike; sorting by insertion, stably. -/
set_option linter.unusedVariables false
set_option linter.unusedSimpArgs false
namespace Go.Ab
open Go
/-- insertion into a list that is kept in reverse -/
def insV {α : Type} (lt : α → α → Bool) (x : α) : List α → List α
  | [] => [x]
  | y :: p => if lt x y then y :: insV lt x p else x :: y :: p
def bubV {α : Type} (lt : α → α → Bool) (x : α) : List α → List α
  | [] => [x]
  | y :: p => if lt x y then y :: bubV lt x p else x :: bubV lt y p
theorem bub_ins {α : Type} (lt : α → α → Bool) : ∀ (p : List α) (x : α), p.Pairwise (fun a b => lt a b = false) → bubV lt x p = insV lt x p
  | [], x, _ => rfl
  | y :: p, x, h => by
    obtain ⟨h1, h2⟩ := List.pairwise_cons.1 h
    simp only [bubV, insV]
    by_cases hc : lt x y = true
    · rw [if_pos hc, if_pos hc, bub_ins lt p x h2]
    · rw [if_neg hc, if_neg hc, bub_ins lt p y h2]
      congr 1
      cases p with
      | nil => rfl
      | cons z p => simp only [insV, h1 z (by simp), Bool.false_eq_true, if_false]
theorem insV_mem {α : Type} (lt : α → α → Bool) (x : α) : ∀ (p : List α) (z : α), z ∈ insV lt x p ↔ z = x ∨ z ∈ p
  | [], z => by simp [insV]
  | y :: p, z => by
    simp only [insV]
    split
    · rw [List.mem_cons, insV_mem lt x p z, List.mem_cons]
      constructor
      · rintro (h | h | h)
        · exact .inr (.inl h)
        · exact .inl h
        · exact .inr (.inr h)
      · rintro (h | h | h)
        · exact .inr (.inl h)
        · exact .inl h
        · exact .inr (.inr h)
    · rw [List.mem_cons]
theorem insV_len {α : Type} (lt : α → α → Bool) (x : α) : ∀ p : List α, (insV lt x p).length = p.length + 1
  | [] => rfl
  | y :: p => by
    simp only [insV]
    split
    · simp [insV_len lt x p]
    · simp
theorem insV_sorted {α : Type} (lt : α → α → Bool) (asym : ∀ x y, lt x y = true → lt y x = false) (ntr : ∀ x y z, lt x y = false → lt y z = false → lt x z = false) (x : α) : ∀ p : List α, p.Pairwise (fun a b => lt a b = false) → (insV lt x p).Pairwise (fun a b => lt a b = false)
  | [], _ => by simp [insV]
  | y :: p, h => by
    obtain ⟨h1, h2⟩ := List.pairwise_cons.1 h
    simp only [insV]
    by_cases hc : lt x y = true
    · rw [if_pos hc]
      refine List.pairwise_cons.2 ⟨fun z hz => ?_, insV_sorted lt asym ntr x p h2⟩
      rcases (insV_mem lt x p z).1 hz with rfl | hz
      · exact asym _ _ hc
      · exact h1 z hz
    · rw [if_neg hc]
      have hc' : lt x y = false := by simpa using hc
      refine List.pairwise_cons.2 ⟨fun z hz => ?_, h⟩
      rcases List.mem_cons.1 hz with rfl | hz
      · exact hc'
      · exact ntr _ _ _ hc' (h1 z hz)
/-- the loop that inserts and stops -/
theorem insV_loop {α : Type} (lt : α → α → Bool) (ok : α → Prop) (N : Nat) (B : List α × Int → Option (LS (List α × Int) (List α)))
    (hB : ∀ (p : List α) (y x : α) (suf : List α), p.length + suf.length + 2 ≤ N → (∀ z ∈ p, ok z) → ok y → ok x → B (p.reverse ++ y :: x :: suf, ((p.length + 1 : Nat) : Int)) = if lt x y = true then some (.next (p.reverse ++ x :: y :: suf, (p.length : Int))) else some (.done (p.reverse ++ y :: x :: suf)))
    (hB0 : ∀ data, B (data, 0) = some (.done data)) :
    ∀ (p : List α) (x : α) (suf : List α), p.length + suf.length + 1 ≤ N → (∀ z ∈ p, ok z) → ok x → LoopF B (p.reverse ++ x :: suf, (p.length : Int)) = some ((insV lt x p).reverse ++ suf)
  | [], x, suf, _, _, _ => by
    rw [show (([] : List α).length : Int) = 0 from rfl, Loop_done (hB0 _)]; rfl
  | y :: p, x, suf, hn, hp, hx => by
    have e : (y :: p).reverse ++ x :: suf = p.reverse ++ y :: x :: suf := by simp
    rw [e, show (((y :: p).length : Nat) : Int) = ((p.length + 1 : Nat) : Int) from rfl]
    have hb := hB p y x suf (by simp at hn; omega) (fun z hz => hp z (by simp [hz])) (hp y (by simp)) hx
    by_cases hc : lt x y = true
    · rw [if_pos hc] at hb
      rw [Loop_next hb, insV_loop lt ok N B hB hB0 p x (y :: suf) (by simp at hn ⊢; omega) (fun z hz => hp z (by simp [hz])) hx]
      simp [insV, hc]
    · rw [if_neg hc] at hb
      rw [Loop_done hb]
      simp [insV, hc]
/-- the loop that goes on to the start -/
theorem bubV_loop {α : Type} (lt : α → α → Bool) (ok : α → Prop) (N : Nat) (B : List α × Int → Option (LS (List α × Int) (List α)))
    (hB : ∀ (p : List α) (y x : α) (suf : List α), p.length + suf.length + 2 ≤ N → (∀ z ∈ p, ok z) → ok y → ok x → B (p.reverse ++ y :: x :: suf, ((p.length + 1 : Nat) : Int)) = if lt x y = true then some (.next (p.reverse ++ x :: y :: suf, (p.length : Int))) else some (.next (p.reverse ++ y :: x :: suf, (p.length : Int))))
    (hB0 : ∀ data, B (data, 0) = some (.done data)) :
    ∀ (p : List α) (x : α) (suf : List α), p.length + suf.length + 1 ≤ N → (∀ z ∈ p, ok z) → ok x → LoopF B (p.reverse ++ x :: suf, (p.length : Int)) = some ((bubV lt x p).reverse ++ suf)
  | [], x, suf, _, _, _ => by
    rw [show (([] : List α).length : Int) = 0 from rfl, Loop_done (hB0 _)]; rfl
  | y :: p, x, suf, hn, hp, hx => by
    have e : (y :: p).reverse ++ x :: suf = p.reverse ++ y :: x :: suf := by simp
    rw [e, show (((y :: p).length : Nat) : Int) = ((p.length + 1 : Nat) : Int) from rfl]
    have hb := hB p y x suf (by simp at hn; omega) (fun z hz => hp z (by simp [hz])) (hp y (by simp)) hx
    by_cases hc : lt x y = true
    · rw [if_pos hc] at hb
      rw [Loop_next hb, bubV_loop lt ok N B hB hB0 p x (y :: suf) (by simp at hn ⊢; omega) (fun z hz => hp z (by simp [hz])) hx]
      simp [bubV, hc]
    · rw [if_neg hc] at hb
      rw [Loop_next hb, bubV_loop lt ok N B hB hB0 p y (x :: suf) (by simp at hn ⊢; omega) (fun z hz => hp z (by simp [hz])) (hp y (by simp))]
      simp [bubV, hc]
end Go.Ab
namespace Go.Proofs.YtjcdclpfeflfkaaGreatDoor
open Go Go.Ab
def absU (n : Int) : Int := if n < 0 then IntKind.u64.wrap (0 - IntKind.u64.wrap n) else IntKind.u64.wrap n
theorem abs_U (n : Int) : ratio_abs n = some (absU n) := by unfold ratio_abs absU; split <;> rfl
theorem size_U (n : Int) : drossref04_size n = some ⟨0, absU n⟩ := by unfold drossref04_size absU; split <;> rfl
theorem Cmp_same (a b : Ratio) : ratio_Cmp a b = drossref04_Cmp a b := by
  have hm : ∀ x y, ∃ h l, bits_Mul64 x y = some (h, l) := fun x y => ⟨_, _, rfl⟩
  obtain ⟨h1, l1, m1⟩ := hm (absU a.Num) (absU b.Den)
  obtain ⟨h2, l2, m2⟩ := hm (absU b.Num) (absU a.Den)
  have t1 : ratio_times (absU a.Num) (absU b.Den) = some ⟨h1, l1⟩ := by simp only [ratio_times, m1, Option.bind_some]
  have t2 : ratio_times (absU b.Num) (absU a.Den) = some ⟨h2, l2⟩ := by simp only [ratio_times, m2, Option.bind_some]
  have t3 : drossref04_times ⟨0, absU a.Num⟩ ⟨0, absU b.Den⟩ = some ⟨h1, l1⟩ := by simp only [drossref04_times, m1, Option.bind_some]
  have t4 : drossref04_times ⟨0, absU b.Num⟩ ⟨0, absU a.Den⟩ = some ⟨h2, l2⟩ := by simp only [drossref04_times, m2, Option.bind_some]
  have w0 : IntKind.i64.wrap (0 - 0) = 0 := by decide
  have w1 : IntKind.i64.wrap (0 - -1) = 1 := by decide
  have w2 : IntKind.i64.wrap (0 - 1) = -1 := by decide
  simp only [ratio_Cmp, drossref04_Cmp, abs_U, size_U, Option.bind_some, t1, t2, t3, t4, ratio_wide_cmp, drossref04_less]
  by_cases hs : (decide (a.Num < 0) == decide (b.Num < 0)) = true
  · rw [if_pos hs, if_pos hs]
    rcases Int.lt_trichotomy h1 h2 with q | q | q
    · have e1 : (h1 == h2) = false := by simp; omega
      have e2 : (h2 == h1) = false := by simp; omega
      simp only [e1, e2, Bool.false_and, Bool.false_eq_true, if_false, if_pos q, if_neg (show ¬ h2 < h1 by omega), Option.bind_some, if_true, w1]
    · subst q
      have e1 : (h1 == h1) = true := by simp
      simp only [e1, Bool.true_and, if_neg (show ¬ h1 < h1 by omega), if_true, Option.bind_some]
      rcases Int.lt_trichotomy l1 l2 with q | q | q
      · have f1 : (l1 == l2) = false := by simp; omega
        simp only [f1, Bool.false_eq_true, if_false, if_pos q, if_neg (show ¬ l2 < l1 by omega), Option.bind_some, decide_true, decide_false, if_true, w1, q, show (l2 < l1) = False from eq_false (by omega)]
      · subst q
        simp only [beq_self_eq_true, if_true, Option.bind_some, show (l1 < l1) = False from eq_false (by omega), decide_false, Bool.false_eq_true, if_false, w0]
      · have f1 : (l1 == l2) = false := by simp; omega
        simp only [f1, Bool.false_eq_true, if_false, if_neg (show ¬ l1 < l2 by omega), Option.bind_some, decide_true, decide_false, if_true, w2, q, show (l1 < l2) = False from eq_false (by omega)]
    · have e1 : (h1 == h2) = false := by simp; omega
      have e2 : (h2 == h1) = false := by simp; omega
      simp only [e1, e2, Bool.false_and, Bool.false_eq_true, if_false, if_pos q, if_neg (show ¬ h1 < h2 by omega), Option.bind_some, if_true, w2]
  · rw [if_neg hs, if_neg hs]
theorem cmp_natF {a b c d : Nat} (ha : a < 65536) (hb : b < 65536) (hc : c < 65536) (hd : d < 65536) : drossref04_Cmp ⟨(a : Int), (b : Int)⟩ ⟨(c : Int), (d : Int)⟩ = some (if a * d < c * b then -1 else if c * b < a * d then 1 else 0) := by
  have e1 : decide ((a : Int) < 0) = false := by simp
  have e2 : decide ((c : Int) < 0) = false := by simp
  have l1 := wide_less (a * d) (c * b)
  have l2 := wide_less (c * b) (a * d)
  have t1 : drossref04_times ⟨0, (a : Int)⟩ ⟨0, (d : Int)⟩ = some ⟨0, ((a * d : Nat) : Int)⟩ := by
    simp only [drossref04_times, mul64_small ha hd, Option.bind_some]
  have t2 : drossref04_times ⟨0, (c : Int)⟩ ⟨0, (b : Int)⟩ = some ⟨0, ((c * b : Nat) : Int)⟩ := by
    simp only [drossref04_times, mul64_small hc hb, Option.bind_some]
  simp only [drossref04_Cmp, e1, e2, beq_self_eq_true, if_true, size_nat (show a < 4611686018427387904 by omega), size_nat (show b < 4611686018427387904 by omega), size_nat (show c < 4611686018427387904 by omega), size_nat (show d < 4611686018427387904 by omega), Option.bind_some, t1, t2, if_neg (show ¬ ((a : Int) < 0) by omega), l1, l2, decide_eq_true_eq]
  by_cases h1 : a * d < c * b
  · simp only [h1, if_true]
  · by_cases h2 : c * b < a * d <;> simp only [h1, h2, if_true, if_false]
/-- fractions of one denominator -/
theorem cmp_same {n1 n2 d : Nat} (h1 : n1 < 65536) (h2 : n2 < 65536) (h3 : d < 65536) (p : 0 < d) : ∃ z, drossref04_Cmp (ratioN n1 d) (ratioN n2 d) = some z ∧ (z < 0 ↔ n1 < n2) := by
  have g1 : 0 < Nat.gcd n1 d := Nat.gcd_pos_of_pos_right _ p
  have g2 : 0 < Nat.gcd n2 d := Nat.gcd_pos_of_pos_right _ p
  obtain ⟨a, ha⟩ := Nat.gcd_dvd_left n1 d
  obtain ⟨b, hb⟩ := Nat.gcd_dvd_right n1 d
  obtain ⟨c, hc⟩ := Nat.gcd_dvd_left n2 d
  obtain ⟨e, he⟩ := Nat.gcd_dvd_right n2 d
  have ea : n1 / Nat.gcd n1 d = a := Nat.div_eq_of_eq_mul_right g1 ha
  have eb : d / Nat.gcd n1 d = b := Nat.div_eq_of_eq_mul_right g1 hb
  have ec : n2 / Nat.gcd n2 d = c := Nat.div_eq_of_eq_mul_right g2 hc
  have ee : d / Nat.gcd n2 d = e := Nat.div_eq_of_eq_mul_right g2 he
  have la : n1 / Nat.gcd n1 d ≤ n1 := Nat.div_le_self _ _
  have lb : d / Nat.gcd n1 d ≤ d := Nat.div_le_self _ _
  have lc : n2 / Nat.gcd n2 d ≤ n2 := Nat.div_le_self _ _
  have le : d / Nat.gcd n2 d ≤ d := Nat.div_le_self _ _
  unfold ratioN
  rw [ea, eb, ec, ee]
  rw [ea] at la
  rw [eb] at lb
  rw [ec] at lc
  rw [ee] at le
  refine ⟨_, cmp_natF (by omega) (by omega) (by omega) (by omega), ?_⟩
  generalize hg : Nat.gcd n1 d = g at *
  generalize hk : Nat.gcd n2 d = k at *
  have key : a * e < c * b ↔ n1 < n2 := by
    have e1 : (g * k) * (a * e) = n1 * d := by
      have : (g * k) * (a * e) = (g * a) * (k * e) := by simp only [Nat.mul_assoc, Nat.mul_left_comm, Nat.mul_comm]
      rw [this, ← ha, ← he]
    have e2 : (g * k) * (c * b) = n2 * d := by
      have : (g * k) * (c * b) = (k * c) * (g * b) := by simp only [Nat.mul_assoc, Nat.mul_left_comm, Nat.mul_comm]
      rw [this, ← hc, ← hb]
    have hpos : 0 < g * k := Nat.mul_pos g1 g2
    constructor
    · intro h
      have := Nat.mul_lt_mul_of_pos_left h hpos
      rw [e1, e2] at this
      exact Nat.lt_of_mul_lt_mul_right this
    · intro h
      have := Nat.mul_lt_mul_of_pos_right h p
      rw [← e1, ← e2] at this
      exact Nat.lt_of_mul_lt_mul_left this
  rw [← key]
  by_cases h : a * e < c * b
  · rw [if_pos h]; simp [h]
  · rw [if_neg h]
    split <;> simp [h]
end Go.Proofs.YtjcdclpfeflfkaaGreatDoor
/- Ranks: both layers sort stably by the error. -/
set_option linter.unusedVariables false
set_option linter.unusedSimpArgs false
namespace Go.Ab
open Go
theorem two_x {α : Type} (q : List α) (y x : α) (suf : List α) (n : Nat) (h : q.length = n) : (q ++ y :: x :: suf)[n + 1]? = some x := by
  subst h; rw [List.getElem?_append_right (by omega)]; simp
theorem two_y {α : Type} (q : List α) (y x : α) (suf : List α) (n : Nat) (h : q.length = n) : (q ++ y :: x :: suf)[n]? = some y := by
  subst h; rw [List.getElem?_append_right (by omega)]; simp
theorem two_set {α : Type} (q : List α) (y x : α) (suf : List α) (n : Nat) (h : q.length = n) : ((q ++ y :: x :: suf).set (n + 1) y).set n x = q ++ x :: y :: suf := by
  subst h
  rw [List.set_append_right _ _ (by omega), List.set_append_right _ _ (by omega)]
  simp
theorem two_set1 {α : Type} (q : List α) (y x : α) (suf : List α) (n : Nat) (h : q.length = n) : ((q ++ y :: x :: suf).set (n + 1) y)[n]? = some y := by
  subst h
  rw [List.set_append_right _ _ (by omega), List.getElem?_append_right (by omega)]
  simp
theorem grow2 {α β : Type} {B : List α × List β × Int → Option (LS (List α × List β × Int) (List α × List β))} (N : Nat) (f : Nat → α) (g : Nat → β)
    (hB : ∀ k, k < N → B ((List.range k).map f, (List.range k).map g, (k : Int)) = some (.next ((List.range k).map f ++ [f k], (List.range k).map g ++ [g k], ((k + 1 : Nat) : Int))))
    (hE : ∀ a b, B (a, b, (N : Int)) = some (.done (a, b))) : LoopF B ([], [], 0) = some ((List.range N).map f, (List.range N).map g) := by
  have key : ∀ (r k : Nat), k + r = N → LoopF B ((List.range k).map f, (List.range k).map g, (k : Int)) = some ((List.range N).map f, (List.range N).map g) := by
    intro r
    induction r with
    | zero =>
      intro k hk
      have : k = N := by omega
      subst this
      exact Loop_done (hE _ _)
    | succ r ih =>
      intro k hk
      rw [Loop_next (hB k (by omega))]
      have := ih (k + 1) (by omega)
      rw [List.range_succ, List.map_append, List.map_append] at this
      exact this
  exact key N 0 (by omega)
/-- the sorted prefix, in reverse -/
def preV (lt : Int → Int → Bool) (i : Nat) : List Int := (List.range i).foldl (fun p (x : Nat) => insV lt (x : Int) p) []
theorem preV_succ (lt : Int → Int → Bool) (i : Nat) : preV lt (i + 1) = insV lt (i : Int) (preV lt i) := by
  unfold preV; rw [List.range_succ, List.foldl_append]; rfl
theorem preV_len (lt : Int → Int → Bool) : ∀ i, (preV lt i).length = i
  | 0 => rfl
  | i + 1 => by rw [preV_succ, insV_len, preV_len lt i]
theorem preV_mem (lt : Int → Int → Bool) : ∀ (i : Nat) (z : Int), z ∈ preV lt i → ∃ k : Nat, z = (k : Int) ∧ k < i
  | 0, z, h => by simp [preV] at h
  | i + 1, z, h => by
    rw [preV_succ, insV_mem] at h
    rcases h with rfl | h
    · exact ⟨i, rfl, by omega⟩
    · obtain ⟨k, h1, h2⟩ := preV_mem lt i z h
      exact ⟨k, h1, by omega⟩
theorem preV_sorted (e : Int → Nat) : ∀ i, (preV (fun x y => decide (e x < e y)) i).Pairwise (fun a b => decide (e a < e b) = false)
  | 0 => List.Pairwise.nil
  | i + 1 => by
    rw [preV_succ]
    exact insV_sorted _ (by intro x y; simp; omega) (by intro x y z; simp; omega) _ _ (preV_sorted e i)
end Go.Ab
namespace Go.Proofs.YtjcdclpfeflfkaaGreatDoor
open Go Go.Ab
theorem Ints_eq (a b : List Int) (ha : a.length ≤ 1073741824) : drossref02_Ints a b = some (decide (a = b)) := IDs_eq a b ha
/-- the error of a dependency, as a number -/
def errK (t : Table) (m : Nat) (f : FD) : Nat := errN t f.Lhs.toNat (f.Lhs.toNat ||| f.Rhs.toNat) m
def fdAt (fds : List FD) (x : Int) : FD := fds.getD x.toNat ⟨0, 0⟩
def ltK (t : Table) (fds : List FD) (m : Nat) (x y : Int) : Bool := decide (errK t m (fdAt fds x) < errK t m (fdAt fds y))
def rankL (t : Table) (fds : List FD) (m : Nat) : List Int := (preV (ltK t fds m) fds.length).reverse
theorem fd_lt {t : Table} {f : FD} (hf : okFD f) (hi : inB t f = true) : ∃ s r : Nat, f = ⟨(s : Int), (r : Int)⟩ ∧ s < 2 ^ t.Attrs.length ∧ r < 2 ^ t.Attrs.length := by
  obtain ⟨s, r, rfl, hs, hr⟩ := fd_of hf
  obtain ⟨a, b⟩ := lt_in hi
  exact ⟨s, r, rfl, a, b⟩
theorem measured_K {t : Table} (G : GT t) {f : FD} (hf : okFD f) (hi : inB t f = true) {m : Nat} (hm : m = 1 ∨ m = 2 ∨ m = 3) : approx_measured t f (m : Int) = some (ratioN (errK t m f) (eD t m)) := by
  obtain ⟨s, r, rfl, hs, hr⟩ := fd_lt hf hi
  rw [measured_eq G hs hr m hm, errR_ratio]
  simp [errK]
theorem Error_K {t : Table} (ht : okTable t) (G : GT t) {f : FD} (hf : okFD f) (hi : inB t f = true) {m : Nat} (hm : m = 1 ∨ m = 2 ∨ m = 3) : drossref32_Error t f (m : Int) = some (ratioN (errK t m f) (eD t m), 0) := by
  rw [ref_Error_eq t ht f hf]
  obtain ⟨s, r, rfl, hs, hr⟩ := fd_lt hf hi
  rw [errA_ok G hs hr hm]
  simp [errK]
theorem fds_get {fds : List FD} {k : Nat} (h : k < fds.length) : fds[k]? = some (fdAt fds (k : Int)) := by
  simp [fdAt, List.getD, List.getElem?_eq_getElem h]
theorem fds_mem {fds : List FD} {k : Nat} (h : k < fds.length) : fdAt fds (k : Int) ∈ fds := List.mem_of_getElem? (fds_get h)
theorem errs_get (t : Table) (fds : List FD) (m : Nat) {k : Nat} (h : k < fds.length) : ((List.range fds.length).map fun k : Nat => ratioN (errK t m (fdAt fds (k : Int))) (eD t m))[k]? = some (ratioN (errK t m (fdAt fds (k : Int))) (eD t m)) := by
  rw [List.getElem?_map, List.getElem?_range h]; rfl
theorem rank_l1 {t : Table} (G : GT t) (hn : t.Rows.length ≤ 8) {fds : List FD} (hf : ∀ f ∈ fds, okFD f ∧ inB t f = true) (hl : fds.length ≤ 10) {m : Nat} (hm : m = 1 ∨ m = 2 ∨ m = 3) : LoopF (approx_Rank_l1 t fds (m : Int)) ([], [], 0) = some ((List.range fds.length).map (fun k : Nat => (k : Int)), (List.range fds.length).map fun k : Nat => ratioN (errK t m (fdAt fds (k : Int))) (eD t m)) := by
  refine grow2 fds.length _ _ (fun k hk => ?_) (fun a b => by simp [approx_Rank_l1])
  obtain ⟨q1, q2⟩ := hf _ (fds_mem hk)
  have r1 : roomB (((List.range k).map fun k : Nat => (k : Int)).length + 1) 8 = true := room_le (by simp; omega) (by omega)
  have r2 : roomB (((List.range k).map fun k : Nat => ratioN (errK t m (fdAt fds (k : Int))) (eD t m)).length + 1) 16 = true := room_le (by simp; omega) (by omega)
  simp only [approx_Rank_l1, if_pos (show (k : Int) < (fds.length : Int) by omega), idx_get (fds_get hk), Option.bind_some, r1, r2, if_true, measured_K G q1 q2 hm, wrap_nat (show k < 4611686018427387904 by omega)]
theorem rank_cmp {t : Table} (G : GT t) (hn : t.Rows.length ≤ 8) {fds : List FD} (hf : ∀ f ∈ fds, okFD f ∧ inB t f = true) (hl : fds.length ≤ 10) {m : Nat} (hm : m = 1 ∨ m = 2 ∨ m = 3) {i k : Nat} (hi : i < fds.length) (hk : k < fds.length) : ∃ z, approx_Rank_1 (i : Int) (k : Int) ((List.range fds.length).map fun k : Nat => ratioN (errK t m (fdAt fds (k : Int))) (eD t m)) = some z ∧ (z < 0 ↔ ltK t fds m (i : Int) (k : Int) = true) := by
  obtain ⟨z, hz, hz'⟩ := cmp_same (errN_le hn _ _ m) (errN_le hn _ _ m) (eD_le hn m) (eD_pos t m) (n1 := errK t m (fdAt fds (i : Int))) (n2 := errK t m (fdAt fds (k : Int)))
  refine ⟨z, ?_, by rw [hz']; simp [ltK]⟩
  simp only [approx_Rank_1, idx_get (errs_get t fds m hi), idx_get (errs_get t fds m hk), Option.bind_some, Cmp_same, hz]
theorem rank_l33 {t : Table} (G : GT t) (hn : t.Rows.length ≤ 8) {fds : List FD} (hf : ∀ f ∈ fds, okFD f ∧ inB t f = true) (hl : fds.length ≤ 10) {m : Nat} (hm : m = 1 ∨ m = 2 ∨ m = 3) (p : List Int) (x : Int) (suf : List Int) (hlen : p.length + suf.length + 1 ≤ 10) (hp : ∀ z ∈ p, ∃ k : Nat, z = (k : Int) ∧ k < fds.length) (hx : ∃ k : Nat, x = (k : Int) ∧ k < fds.length) :
    LoopF (approx_Rank_l33 ((List.range fds.length).map fun k : Nat => ratioN (errK t m (fdAt fds (k : Int))) (eD t m)) 0) (p.reverse ++ x :: suf, (p.length : Int)) = some ((insV (ltK t fds m) x p).reverse ++ suf) := by
  refine insV_loop (ltK t fds m) (fun z => ∃ k : Nat, z = (k : Int) ∧ k < fds.length) 10 _ (fun p y x suf hl' hp hy hx => ?_) (fun data => by simp [approx_Rank_l33]) p x suf hlen hp hx
  obtain ⟨i, rfl, hi⟩ := hx
  obtain ⟨k, rfl, hk⟩ := hy
  obtain ⟨z, hz, hz'⟩ := rank_cmp G hn hf hl hm hi hk
  have hpl : p.reverse.length = p.length := List.length_reverse
  have hw : IntKind.i64.wrap (((p.length + 1 : Nat) : Int) - 1) = (p.length : Int) := by rw [wrap_i64 (by omega) (by omega)]; omega
  have g1 := two_x p.reverse (k : Int) (i : Int) suf p.length hpl
  have g2 := two_y p.reverse (k : Int) (i : Int) suf p.length hpl
  have g3 := two_set p.reverse (k : Int) (i : Int) suf p.length hpl
  have g4 := two_set1 p.reverse (k : Int) (i : Int) suf p.length hpl
  simp only [approx_Rank_l33, if_pos (show ((p.length + 1 : Nat) : Int) > 0 by omega), idx_get g1, hw, idx_get g2, Option.bind_some, hz, Int.toNat_natCast, idx_get g4, g3]
  by_cases hc : ltK t fds m (i : Int) (k : Int) = true
  · rw [if_pos hc, if_pos (hz'.2 hc)]
  · rw [if_neg hc, if_neg (fun h => hc (hz'.1 h))]
theorem rank_l34 {t : Table} (G : GT t) (hn : t.Rows.length ≤ 8) {fds : List FD} (hf : ∀ f ∈ fds, okFD f ∧ inB t f = true) (hl : fds.length ≤ 10) {m : Nat} (hm : m = 1 ∨ m = 2 ∨ m = 3) : LoopF (approx_Rank_l34 ((List.range fds.length).map fun k : Nat => (k : Int)) ((List.range fds.length).map fun k : Nat => ratioN (errK t m (fdAt fds (k : Int))) (eD t m)) 0) ((List.range fds.length).map (fun k : Nat => (k : Int)), 1) = some (rankL t fds m) := by
  have hlenO : (((List.range fds.length).map fun k : Nat => (k : Int)).length : Nat) = fds.length := by simp
  by_cases h0 : fds.length = 0
  · have : fds = [] := List.eq_nil_of_length_eq_zero h0
    subst this
    refine Loop_done ?_
    simp [approx_Rank_l34, rankL, preV]
  · have key : ∀ (r i : Nat), i + r = fds.length → LoopF (approx_Rank_l34 ((List.range fds.length).map fun k : Nat => (k : Int)) ((List.range fds.length).map fun k : Nat => ratioN (errK t m (fdAt fds (k : Int))) (eD t m)) 0) ((preV (ltK t fds m) i).reverse ++ (((List.range fds.length).map fun k : Nat => (k : Int))).drop i, (i : Int)) = some (rankL t fds m) := by
      intro r
      induction r with
      | zero =>
        intro i hi
        have : i = fds.length := by omega
        subst this
        rw [List.drop_of_length_le (by rw [hlenO]; exact Nat.le_refl _), List.append_nil]
        refine Loop_done ?_
        simp only [approx_Rank_l34, hlenO, if_neg (show ¬ ((fds.length : Int) < (fds.length : Int)) by omega)]
        rfl
      | succ r ih =>
        intro i hi
        have hd : (((List.range fds.length).map fun k : Nat => (k : Int))).drop i = (i : Int) :: (((List.range fds.length).map fun k : Nat => (k : Int))).drop (i + 1) := by
          rw [List.drop_eq_getElem_cons (show i < ((List.range fds.length).map fun k : Nat => (k : Int)).length by rw [hlenO]; omega)]
          simp
        have hin := rank_l33 G hn hf hl hm (preV (ltK t fds m) i) (i : Int) ((((List.range fds.length).map fun k : Nat => (k : Int))).drop (i + 1)) (by rw [preV_len, List.length_drop, hlenO]; omega) (fun z hz => by
          obtain ⟨k, q1, q2⟩ := preV_mem _ _ _ hz
          exact ⟨k, q1, by omega⟩) ⟨i, rfl, by omega⟩
        rw [preV_len] at hin
        rw [hd]
        refine (Loop_next ?_).trans (ih (i + 1) (by omega))
        rw [preV_succ]
        simp only [approx_Rank_l34, hlenO, if_pos (show (i : Int) < (fds.length : Int) by omega), hin, Option.bind_some, wrap_nat (show i < 4611686018427387904 by omega)]
    have h1 := key (fds.length - 1) 1 (by omega)
    have hs : (preV (ltK t fds m) 1).reverse ++ (((List.range fds.length).map fun k : Nat => (k : Int))).drop 1 = (List.range fds.length).map fun k : Nat => (k : Int) := by
      have e : preV (ltK t fds m) 1 = [0] := rfl
      rw [e]
      obtain ⟨n, hn'⟩ : ∃ n, fds.length = n + 1 := ⟨fds.length - 1, by omega⟩
      rw [hn', List.range_succ_eq_map]
      simp
    rw [hs] at h1
    exact h1
theorem ref_r4 {t : Table} (G : GT t) (hn : t.Rows.length ≤ 8) {fds : List FD} (hf : ∀ f ∈ fds, okFD f ∧ inB t f = true) (hl : fds.length ≤ 10) {m : Nat} (hm : m = 1 ∨ m = 2 ∨ m = 3) (ht : okTable t) (p : List Int) (x : Int) (hlen : p.length + 1 ≤ 10) (hp : ∀ z ∈ p, ∃ k : Nat, z = (k : Int) ∧ k < fds.length) (hx : ∃ k : Nat, x = (k : Int) ∧ k < fds.length) :
    LoopF (drossref32_Rank_l4 t fds (m : Int)) (p.reverse ++ [x], (p.length : Int)) = some ((bubV (ltK t fds m) x p).reverse) := by
  have h := bubV_loop (ltK t fds m) (fun z => ∃ k : Nat, z = (k : Int) ∧ k < fds.length) 10 (drossref32_Rank_l4 t fds (m : Int)) (fun p y x suf hl' hp hy hx => by
    obtain ⟨i, rfl, hi⟩ := hx
    obtain ⟨k, rfl, hk⟩ := hy
    obtain ⟨q1, q2⟩ := hf _ (fds_mem hi)
    obtain ⟨q3, q4⟩ := hf _ (fds_mem hk)
    obtain ⟨z, hz, hz'⟩ := cmp_same (errN_le hn _ _ m) (errN_le hn _ _ m) (eD_le hn m) (eD_pos t m) (n1 := errK t m (fdAt fds (i : Int))) (n2 := errK t m (fdAt fds (k : Int)))
    have hpl : p.reverse.length = p.length := List.length_reverse
    have hw : IntKind.i64.wrap (((p.length + 1 : Nat) : Int) - 1) = (p.length : Int) := by rw [wrap_i64 (by omega) (by omega)]; omega
    have g1 := two_x p.reverse (k : Int) (i : Int) suf p.length hpl
    have g2 := two_y p.reverse (k : Int) (i : Int) suf p.length hpl
    have g3 := two_set p.reverse (k : Int) (i : Int) suf p.length hpl
    have g4 := two_set1 p.reverse (k : Int) (i : Int) suf p.length hpl
    have hlt : ltK t fds m (i : Int) (k : Int) = decide (errK t m (fdAt fds (i : Int)) < errK t m (fdAt fds (k : Int))) := rfl
    simp only [drossref32_Rank_l4, if_pos (show ((p.length + 1 : Nat) : Int) > 0 by omega), idx_get g1, hw, idx_get g2, Option.bind_some, idx_get (fds_get hi), idx_get (fds_get hk), Error_K ht G q1 q2 hm, Error_K ht G q3 q4 hm, hz, Int.toNat_natCast, idx_get g4, g3]
    by_cases hc : ltK t fds m (i : Int) (k : Int) = true
    · rw [if_pos hc, if_pos (hz'.2 (by rw [hlt, decide_eq_true_eq] at hc; exact hc))]
    · rw [if_neg hc, if_neg (fun h => hc (by rw [hlt, decide_eq_true_eq]; exact hz'.1 h))]) (fun data => by simp [drossref32_Rank_l4]) p x [] (by simpa using hlen) hp hx
  rw [List.append_nil] at h
  exact h
theorem ref_r5 {t : Table} (G : GT t) (hn : t.Rows.length ≤ 8) {fds : List FD} (hf : ∀ f ∈ fds, okFD f ∧ inB t f = true) (hl : fds.length ≤ 10) {m : Nat} (hm : m = 1 ∨ m = 2 ∨ m = 3) (ht : okTable t) : LoopF (drossref32_Rank_l5 t fds (m : Int)) ([], 0) = some (rankL t fds m) := by
  have key : ∀ (r i : Nat), i + r = fds.length → LoopF (drossref32_Rank_l5 t fds (m : Int)) ((preV (ltK t fds m) i).reverse, (i : Int)) = some (rankL t fds m) := by
    intro r
    induction r with
    | zero =>
      intro i hi
      have : i = fds.length := by omega
      subst this
      refine Loop_done ?_
      simp only [drossref32_Rank_l5, if_neg (show ¬ ((fds.length : Int) < (fds.length : Int)) by omega)]
      rfl
    | succ r ih =>
      intro i hi
      have hin := ref_r4 G hn hf hl hm ht (preV (ltK t fds m) i) (i : Int) (by rw [preV_len]; omega) (fun z hz => by
        obtain ⟨k, q1, q2⟩ := preV_mem _ _ _ hz
        exact ⟨k, q1, by omega⟩) ⟨i, rfl, by omega⟩
      rw [preV_len] at hin
      have hs := preV_sorted (fun x => errK t m (fdAt fds x)) i
      have hb := bub_ins (ltK t fds m) (preV (ltK t fds m) i) (i : Int) hs
      rw [hb] at hin
      have hrl : ((preV (ltK t fds m) i).reverse).length = i := by rw [List.length_reverse, preV_len]
      have hr : roomB (((preV (ltK t fds m) i).reverse).length + 1) 8 = true := room_le (by rw [hrl]; omega) (by omega)
      have hw : IntKind.i64.wrap (((((preV (ltK t fds m) i).reverse).length + 1 : Nat) : Int) - 1) = (i : Int) := by rw [hrl, wrap_i64 (by omega) (by omega)]; omega
      refine (Loop_next ?_).trans (ih (i + 1) (by omega))
      rw [preV_succ]
      simp only [drossref32_Rank_l5, if_pos (show (i : Int) < (fds.length : Int) by omega), hr, if_true, hw, hin, Option.bind_some, wrap_nat (show i < 4611686018427387904 by omega)]
  exact key fds.length 0 (by omega)
def rankErr (t : Table) (fds : List FD) (m : Int) : Int := if tableErr t = 0 then (if fds.all (inB t) then (if 1 ≤ m ∧ m ≤ 3 then 0 else 1) else 6) else tableErr t
def rankA (t : Table) (fds : List FD) (m : Int) : List Int × Int := if rankErr t fds m = 0 then (rankL t fds m.toNat, 0) else ([], rankErr t fds m)
theorem rank_eq (t : Table) (ht : okTable t) (hn : t.Rows.length ≤ 8) (fds : List FD) (hf : ∀ f ∈ fds, okFD f) (hl : fds.length ≤ 10) (m : Int) : approx_Rank t fds m = some (rankA t fds m) ∧ drossref32_Rank t fds m = some (rankA t fds m) := by
  have hk := known_list t (tabOk_of ht) fds (by omega) hf
  by_cases he : tableErr t = 0
  · have G := gt_of ht he
    have hrl : LoopF (drossref32_Rank_l1 t fds) 0 = some (if fds.all (inB t) then .inl () else .inr ([], 6)) := by
      have hb : ∀ (k : Nat) (f : FD), fds[k]? = some f → drossref32_check t f = some (if inB t f then 0 else 6) := fun k f hx => by
        rw [check_eq t (tabOk_of ht) f (hf f (List.mem_of_getElem? hx))]
        simp [fdErr, he]
      refine LoopF_all fds _ (inB t) _ (fun k f hx hk hp => ?_) (fun k f hx hp => ?_) (by simp [drossref32_Rank_l1])
      · simp only [drossref32_Rank_l1, if_pos (lt_true hx), idx_get hx, Option.bind_some, hb k f hx, hp, if_true, bne_self_eq_false, Bool.false_eq_true, if_false, wrap_nat (show k < 4611686018427387904 by omega)]
      · simp only [drossref32_Rank_l1, if_pos (lt_true hx), idx_get hx, Option.bind_some, hb k f hx, hp, Bool.false_eq_true, if_false, show ((6 : Int) != 0) = true by decide, if_true]
    rw [if_pos he] at hk
    by_cases ha : fds.all (inB t) = true
    · rw [if_pos ha] at hk hrl
      have hf' : ∀ f ∈ fds, okFD f ∧ inB t f = true := fun f h => ⟨hf f h, List.all_eq_true.1 ha f h⟩
      by_cases hm : 1 ≤ m ∧ m ≤ 3
      · obtain ⟨k, rfl⟩ : ∃ k : Nat, m = (k : Int) := ⟨m.toNat, by omega⟩
        have hm' : k = 1 ∨ k = 2 ∨ k = 3 := by omega
        have hE : rankErr t fds (k : Int) = 0 := by unfold rankErr; rw [if_pos he, if_pos ha, if_pos hm]
        have hA : rankA t fds (k : Int) = (rankL t fds k, 0) := by unfold rankA; rw [if_pos hE, Int.toNat_natCast]
        have hlen : (rankL t fds k).length = fds.length := by unfold rankL; rw [List.length_reverse, preV_len]
        have hlenO : (((List.range fds.length).map fun k : Nat => (k : Int)).length : Nat) = fds.length := by simp
        rw [hA]
        constructor
        · have h26 : LoopF (approx_Rank_l26 ((List.range fds.length).map fun k : Nat => (k : Int)) ((List.range fds.length).map fun j : Nat => ratioN (errK t k (fdAt fds (j : Int))) (eD t k))) ((List.range fds.length).map (fun k : Nat => (k : Int)), 0, 20) = some ((List.range fds.length).map (fun k : Nat => (k : Int)), 0) := by
            refine Loop_done ?_
            simp only [approx_Rank_l26, hlenO, if_neg (show ¬ ((20 : Int) ≤ (fds.length : Int)) by omega)]
          have h38 : LoopF (approx_Rank_l38 ((List.range fds.length).map fun k : Nat => (k : Int))) 20 = some () := by
            refine Loop_done ?_
            simp only [approx_Rank_l38, hlenO, if_neg (show ¬ ((20 : Int) < (fds.length : Int)) by omega)]
          have hw : IntKind.i64.wrap (0 + 1) = 1 := by decide
          have hlen2 : (rankL t fds k).length = ((List.range fds.length).map fun k : Nat => (k : Int)).length := by rw [hlen, hlenO]
          simp only [approx_Rank, hk, Option.bind_some, bne_self_eq_false, Bool.false_eq_true, if_false, approx_measures, if_pos hm.1, hm.2, decide_true, if_true, rank_l1 G hn hf' hl hm', h26, hw, rank_l34 G hn hf' hl hm', h38, hlen2]
        · simp only [drossref32_Rank, ref_Valid_table t (tabOk_of ht), he, Option.bind_some, bne_self_eq_false, Bool.false_eq_true, if_false, hrl, if_neg (show ¬ ((k : Int) < 1) by omega), if_neg (show ¬ ((k : Int) > 3) by omega), ref_r5 G hn hf' hl hm' ht]
      · have hE : rankErr t fds m = 1 := by unfold rankErr; rw [if_pos he, if_pos ha, if_neg hm]
        have hA : rankA t fds m = ([], 1) := by unfold rankA; rw [hE]; rfl
        rw [hA]
        constructor
        · simp only [approx_Rank, hk, Option.bind_some, bne_self_eq_false, Bool.false_eq_true, if_false, approx_measures]
          by_cases h1 : m ≥ 1
          · have h3 : ¬ m ≤ 3 := fun h => hm ⟨h1, h⟩
            simp only [if_pos h1, h3, decide_false, Option.bind_some, Bool.false_eq_true, if_false]
          · simp only [if_neg h1, Option.bind_some, Bool.false_eq_true, if_false]
        · simp only [drossref32_Rank, ref_Valid_table t (tabOk_of ht), he, Option.bind_some, bne_self_eq_false, Bool.false_eq_true, if_false, hrl]
          by_cases h1 : m < 1
          · rw [if_pos h1]
          · rw [if_neg h1, if_pos (show m > 3 by omega)]
    · rw [if_neg ha] at hk hrl
      have hE : rankErr t fds m = 6 := by unfold rankErr; rw [if_pos he, if_neg ha]
      have hA : rankA t fds m = ([], 6) := by unfold rankA; rw [hE]; rfl
      rw [hA]
      constructor
      · simp only [approx_Rank, hk, Option.bind_some, show ((6 : Int) != 0) = true by decide, if_true]
      · simp only [drossref32_Rank, ref_Valid_table t (tabOk_of ht), he, Option.bind_some, bne_self_eq_false, Bool.false_eq_true, if_false, hrl]
  · rw [if_neg he] at hk
    have hne : (tableErr t != 0) = true := by simp [he]
    have hE : rankErr t fds m = tableErr t := by unfold rankErr; rw [if_neg he]
    have hA : rankA t fds m = ([], tableErr t) := by unfold rankA; rw [hE, if_neg he]
    rw [hA]
    constructor
    · simp only [approx_Rank, hk, Option.bind_some, hne, if_true]
    · simp only [drossref32_Rank, ref_Valid_table t (tabOk_of ht), Option.bind_some, hne, if_true]
end Go.Proofs.YtjcdclpfeflfkaaGreatDoor
/- ApproxRank. -/
set_option linter.unusedVariables false
set_option linter.unusedSimpArgs false
namespace Go.Proofs.YtjcdclpfeflfkaaGreatDoor
open Go Go.Ab

theorem ApproxRank_holds (t : Table) (fds : List FD) (m : Int) (h1 : okTable t) (h2 : okL okFD fds) (h3 : okI .i64 m) : drosslaw32_ApproxRank t fds m = some true := by
  by_cases hn : (t.Rows.length : Int) > 8
  · simp only [drosslaw32_ApproxRank, awake32, Option.bind_some, if_true, if_pos hn]
  · by_cases hl : (fds.length : Int) > 10
    · simp only [drosslaw32_ApproxRank, awake32, Option.bind_some, if_true, if_neg hn, hl, decide_true]
    · obtain ⟨e1, e2⟩ := rank_eq t h1 (by omega) fds h2.2 (by omega) m
      have hlen : (rankA t fds m).1.length ≤ 1073741824 := by
        unfold rankA
        split
        · simp only [rankL, List.length_reverse, preV_len]; omega
        · simp
      have i1 := Ints_eq _ (rankA t fds m).1 hlen
      simp only [drosslaw32_ApproxRank, awake32, Option.bind_some, if_true, if_neg hn, hl, decide_false, Bool.false_eq_true, if_false, e1, e2, beq_self_eq_true, i1, decide_true]
end Go.Proofs.YtjcdclpfeflfkaaGreatDoor
