/- The Lean functions that the program's functions are lifted to, and the plain laws about them. -/
import Derived.Test.YtjcdclpfeflfkaaGreatDoorL1
/- Fractions: both layers make the reduced fraction (of numbers that are not negative). -/
set_option linter.unusedVariables false
set_option linter.unusedSimpArgs false
namespace Go.Proofs.YtjcdclpfeflfkaaGreatDoor
open Go Go.Ab

/-- the reduced fraction -/
def ratioN (n d : Nat) : Ratio := ⟨((n / Nat.gcd n d : Nat) : Int), ((d / Nat.gcd n d : Nat) : Int)⟩
theorem dmod {b y d c : Nat} (h : c + b * d = y) (hc : c < b) : y / b = d ∧ y % b = c := (Nat.div_mod_unique (by omega)).2 ⟨h, hc⟩
theorem ratio_abs_nat (n : Nat) (h : n < 4611686018427387904) : ratio_abs (n : Int) = some (n : Int) := by
  simp only [ratio_abs]
  rw [if_neg (by omega), wrap_u64 (by omega) (by omega)]
theorem ratio_gcd_loop : ∀ (b a : Nat), LoopF ratio_gcd_l1 ((a : Int), (b : Int)) = some ((Nat.gcd a b : Nat) : Int) := by
  intro b
  induction b using Nat.strongRecOn with
  | ind b ih =>
    intro a
    by_cases hb : b = 0
    · subst hb
      rw [Loop_done (t := (a : Int)) (by simp [ratio_gcd_l1]), Nat.gcd_zero_right]
    · have h1 : ((b : Int) > 0) := by omega
      have h2 : ¬ ((b : Int) = 0) := by omega
      have e : Int.tmod (a : Int) (b : Int) = ((a % b : Nat) : Int) := by rw [Int.ofNat_tmod]
      rw [Loop_next (s' := ((b : Int), ((a % b : Nat) : Int))) (by simp only [ratio_gcd_l1, if_pos h1, if_neg h2, e]), ih (a % b) (Nat.mod_lt _ (by omega)) b]
      rw [Nat.gcd_comm a b, Nat.gcd_rec b a, Nat.gcd_comm]
theorem ratio_gcd_nat (a b : Nat) : ratio_gcd (a : Int) (b : Int) = some ((Nat.gcd a b : Nat) : Int) := by
  simp only [ratio_gcd, ratio_gcd_loop, Option.bind_some]
theorem tdiv_nat (a b : Nat) : Int.tdiv (a : Int) (b : Int) = ((a / b : Nat) : Int) := Int.ofNat_tdiv a b
theorem ratio_Make_nat (n d : Nat) (hn : n < 4611686018427387904) (hd : 0 < d) (hd' : d < 4611686018427387904) : ratio_Make (n : Int) (d : Int) = some (ratioN n d, 0) := by
  have hg : 0 < Nat.gcd n d := Nat.gcd_pos_of_pos_right _ hd
  have h0 : ((d : Int) == 0) = false := by simp; omega
  have hdn : n / Nat.gcd n d ≤ n := Nat.div_le_self _ _
  have hdd : d / Nat.gcd n d ≤ d := Nat.div_le_self _ _
  have hg0 : ¬ ((Nat.gcd n d : Nat) : Int) = 0 := by omega
  have e1 : (decide ((n : Int) < 0)) = false := by simp
  have e2 : (decide ((d : Int) < 0)) = false := by simp
  simp only [ratio_Make, h0, Bool.false_eq_true, if_false, ratio_abs_nat n hn, ratio_abs_nat d hd', Option.bind_some, ratio_gcd_nat, if_neg hg0, tdiv_nat, e1, e2, ratioN]
  generalize n / Nat.gcd n d = p at *
  generalize d / Nat.gcd n d = q at *
  rw [wrap_u64 (n := (p : Int)) (by omega) (by omega), wrap_u64 (n := (q : Int)) (by omega) (by omega)]
  have c1 : ¬ ((p : Int) > 9223372036854775807) := by omega
  have c2 : ¬ ((q : Int) > 9223372036854775807) := by omega
  simp only [ratio_of, if_neg c1, if_neg c2, beq_self_eq_true, Bool.not_true, Bool.false_eq_true, if_false, Option.bind_some]
  rw [wrap_i64 (n := (p : Int)) (by omega) (by omega), wrap_i64 (n := (q : Int)) (by omega) (by omega)]

/-! ### the reference: division bit by bit -/
theorem wide_plus (a : Nat) (h : a < 4611686018427387904) : drossref04_plus ⟨0, (a : Int)⟩ ⟨0, (a : Int)⟩ = some ⟨0, ((2 * a : Nat) : Int)⟩ := by
  have e1 : addF (a : Int) (a : Int) 0 = some (((2 * a : Nat) : Int), 0) := by
    unfold addF
    rw [if_pos (by omega)]
    congr 2 <;> omega
  have e2 : addF 0 0 0 = some (0, 0) := by decide
  simp only [drossref04_plus, e1, e2, Option.bind_some]
theorem wide_minus (a b : Nat) (h : a < 9223372036854775808) (hb : b ≤ a) : drossref04_minus ⟨0, (a : Int)⟩ ⟨0, (b : Int)⟩ = some ⟨0, ((a - b : Nat) : Int)⟩ := by
  have e1 : subF (a : Int) (b : Int) 0 = some (((a - b : Nat) : Int), 0) := by
    unfold subF
    rw [if_pos (by omega), if_neg (by omega)]
    congr 2; omega
  have e2 : subF 0 0 0 = some (0, 0) := by decide
  simp only [drossref04_minus, e1, e2, Option.bind_some]
theorem wide_less (a b : Nat) : drossref04_less ⟨0, (a : Int)⟩ ⟨0, (b : Int)⟩ = some (decide (a < b)) := by
  simp only [drossref04_less]
  rw [if_neg (by omega), if_pos (by rfl)]
  simp
theorem parts_step0 (a b k : Nat) (hb : 0 < b) (hk : 64 ≤ k) (hk' : k < 128) : drossref04_parts_l1 ⟨0, (a : Int)⟩ ⟨0, (b : Int)⟩ (⟨0, 0⟩, ⟨0, 0⟩, (k : Int)) = some (.next (⟨0, 0⟩, ⟨0, 0⟩, (k : Int) - 1)) := by
  have h1 : (k : Int) ≥ 0 := by omega
  have h2 : (k : Int) ≥ 64 := by omega
  have h3 : Int.tmod (k : Int) 64 = ((k % 64 : Nat) : Int) := Int.ofNat_tmod k 64
  have h4 : ¬ ((k % 64 : Nat) : Int) < 0 := by omega
  have h5 : drossref04_plus ⟨0, 0⟩ ⟨0, 0⟩ = some ⟨0, 0⟩ := wide_plus 0 (by omega)
  have h6 : IntKind.u64.wrap ((0 : Int) + (Int.tmod (Int.fdiv 0 (2 ^ (min (((k % 64 : Nat) : Int)).toNat 64))) 2)) = 0 := by rw [Int.zero_fdiv]; rfl
  have h7 : drossref04_less ⟨0, 0⟩ ⟨0, (b : Int)⟩ = some true := by
    have := wide_less 0 b
    rw [show decide (0 < b) = true by simp [hb]] at this
    exact this
  have h8 : IntKind.i64.wrap ((k : Int) - 1) = (k : Int) - 1 := wrap_i64 (by omega) (by omega)
  simp only [drossref04_parts_l1, if_pos h1, if_pos h2, h3, if_neg h4, h5, Option.bind_some, h6, h7, if_true, h8]
theorem fdiv_pow (a k : Nat) : Int.fdiv (a : Int) (2 ^ k) = ((a / 2 ^ k : Nat) : Int) := by
  have e : (2 : Int) ^ k = ((2 ^ k : Nat) : Int) := by simp
  rw [e]; exact (Int.ofNat_fdiv a (2 ^ k)).symm
theorem parts_step1 (a b k : Nat) (ha : a < 4611686018427387904) (hb : 0 < b) (hb' : b < 2305843009213693952) (hk : k < 64) :
    drossref04_parts_l1 ⟨0, (a : Int)⟩ ⟨0, (b : Int)⟩ (⟨0, ((a / 2 ^ (k + 1) / b : Nat) : Int)⟩, ⟨0, ((a / 2 ^ (k + 1) % b : Nat) : Int)⟩, (k : Int)) =
      some (.next (⟨0, ((a / 2 ^ k / b : Nat) : Int)⟩, ⟨0, ((a / 2 ^ k % b : Nat) : Int)⟩, (k : Int) - 1)) := by
  have h1 : (k : Int) ≥ 0 := by omega
  have h2 : ¬ (k : Int) ≥ 64 := by omega
  have h3 : Int.tmod (k : Int) 64 = (k : Int) := by
    have : Int.tmod (k : Int) 64 = ((k % 64 : Nat) : Int) := Int.ofNat_tmod k 64
    rw [this]; omega
  have h4 : ¬ (k : Int) < 0 := by omega
  have hx : a / 2 ^ k = 2 * (a / 2 ^ (k + 1)) + a / 2 ^ k % 2 := by
    rw [Nat.pow_succ, ← Nat.div_div_eq_div_mul]; omega
  have hy : a / 2 ^ k ≤ a := Nat.div_le_self _ _
  have hbit : Int.tmod (Int.fdiv (a : Int) (2 ^ (min ((k : Int)).toNat 64))) 2 = ((a / 2 ^ k % 2 : Nat) : Int) := by
    rw [Int.toNat_natCast, Nat.min_eq_left (by omega), fdiv_pow]
    exact Int.ofNat_tmod _ 2
  have hbit2 : a / 2 ^ k % 2 < 2 := Nat.mod_lt _ (by omega)
  generalize a / 2 ^ k % 2 = bit at *
  generalize a / 2 ^ k = y at *
  generalize a / 2 ^ (k + 1) = x at *
  have hr : x % b < b := Nat.mod_lt _ hb
  have hq : x / b ≤ x := Nat.div_le_self _ _
  have hm := Nat.mod_add_div x b
  have p1 := wide_plus (x % b) (by omega)
  have p2 := wide_plus (x / b) (by omega)
  have h6 : IntKind.u64.wrap (((2 * (x % b) : Nat) : Int) + (bit : Int)) = ((2 * (x % b) + bit : Nat) : Int) := by
    rw [← Int.natCast_add]; exact wrap_u64 (by omega) (by omega)
  have h7 : IntKind.u64.wrap (((2 * (x / b) : Nat) : Int) + 1) = ((2 * (x / b) + 1 : Nat) : Int) := by
    rw [wrap_u64 (by omega) (by omega)]; omega
  have h8 : IntKind.i64.wrap ((k : Int) - 1) = (k : Int) - 1 := wrap_i64 (by omega) (by omega)
  simp only [drossref04_parts_l1, if_pos h1, if_neg h2, h3, if_neg h4, p1, p2, Option.bind_some, hbit, h6, h7, h8, wide_less]
  have hmul : b * (2 * (x / b)) = 2 * (b * (x / b)) := by rw [Nat.mul_left_comm]
  by_cases hl : 2 * (x % b) + bit < b
  · obtain ⟨e1, e2⟩ := dmod (b := b) (y := y) (d := 2 * (x / b)) (c := 2 * (x % b) + bit) (by rw [hmul]; omega) hl
    simp only [hl, decide_true, if_true, e1, e2]
  · obtain ⟨e1, e2⟩ := dmod (b := b) (y := y) (d := 2 * (x / b) + 1) (c := 2 * (x % b) + bit - b) (by rw [Nat.mul_add, hmul, Nat.mul_one]; omega) (by omega)
    have m1 := wide_minus (2 * (x % b) + bit) b (by omega) (by omega)
    simp only [hl, decide_false, Bool.false_eq_true, if_false, m1, Option.bind_some, e1, e2]
theorem parts_eq (a b : Nat) (ha : a < 4611686018427387904) (hb : 0 < b) (hb' : b < 2305843009213693952) : drossref04_parts ⟨0, (a : Int)⟩ ⟨0, (b : Int)⟩ = some (⟨0, ((a / b : Nat) : Int)⟩, ⟨0, ((a % b : Nat) : Int)⟩) := by
  have low : ∀ k : Nat, k ≤ 64 → LoopF (drossref04_parts_l1 ⟨0, (a : Int)⟩ ⟨0, (b : Int)⟩) (⟨0, ((a / 2 ^ k / b : Nat) : Int)⟩, ⟨0, ((a / 2 ^ k % b : Nat) : Int)⟩, (k : Int) - 1) = some (⟨0, ((a / b : Nat) : Int)⟩, ⟨0, ((a % b : Nat) : Int)⟩) := by
    intro k
    induction k with
    | zero =>
      intro _
      rw [Nat.pow_zero, Nat.div_one]
      exact Loop_done (by simp [drossref04_parts_l1])
    | succ k ih =>
      intro hk
      have e : ((k + 1 : Nat) : Int) - 1 = (k : Int) := by omega
      rw [e, Loop_next (parts_step1 a b k ha hb hb' (by omega))]
      exact ih (by omega)
  have hz : a / 2 ^ 64 = 0 := Nat.div_eq_of_lt (by omega)
  have high : ∀ k : Nat, k ≤ 64 → LoopF (drossref04_parts_l1 ⟨0, (a : Int)⟩ ⟨0, (b : Int)⟩) (⟨0, 0⟩, ⟨0, 0⟩, ((64 + k : Nat) : Int) - 1) = some (⟨0, ((a / b : Nat) : Int)⟩, ⟨0, ((a % b : Nat) : Int)⟩) := by
    intro k
    induction k with
    | zero =>
      intro _
      have := low 64 (Nat.le_refl _)
      rw [hz, Nat.zero_div, Nat.zero_mod] at this
      exact this
    | succ k ih =>
      intro hk
      have e : ((64 + (k + 1) : Nat) : Int) - 1 = ((64 + k : Nat) : Int) := by omega
      rw [e, Loop_next (parts_step0 a b (64 + k) hb (by omega) (by omega))]
      exact ih (by omega)
  have := high 64 (Nat.le_refl _)
  simp only [drossref04_parts]
  rw [show (127 : Int) = ((64 + 64 : Nat) : Int) - 1 by omega, this]
  rfl
theorem build_loop : ∀ (b a : Nat), a < 2305843009213693952 → b < 2305843009213693952 → LoopF drossref04_build_l1 (⟨0, (a : Int)⟩, ⟨0, (b : Int)⟩) = some ⟨0, ((Nat.gcd a b : Nat) : Int)⟩ := by
  intro b
  induction b using Nat.strongRecOn with
  | ind b ih =>
    intro a ha hb
    by_cases hz : b = 0
    · subst hz
      rw [Loop_done (t := ⟨0, (a : Int)⟩) (by simp [drossref04_build_l1, drossref04_zero]), Nat.gcd_zero_right]
    · have h1 : drossref04_zero ⟨0, (b : Int)⟩ = some false := by
        simp only [drossref04_zero]
        rw [if_pos (by rfl)]
        congr 1; simp; omega
      rw [Loop_next (s' := (⟨0, (b : Int)⟩, ⟨0, ((a % b : Nat) : Int)⟩)) (by simp only [drossref04_build_l1, h1, Option.bind_some, Bool.false_eq_true, if_false, parts_eq a b (by omega) (by omega) hb]), ih (a % b) (Nat.mod_lt _ (by omega)) b hb (Nat.lt_trans (Nat.mod_lt _ (by omega)) hb)]
      rw [Nat.gcd_comm a b, Nat.gcd_rec b a, Nat.gcd_comm]
theorem ref_Make_nat (n d : Nat) (hn : n < 2305843009213693952) (hd : 0 < d) (hd' : d < 2305843009213693952) : drossref04_Make (n : Int) (d : Int) = some (ratioN n d, 0) := by
  have hg : 0 < Nat.gcd n d := Nat.gcd_pos_of_pos_right _ hd
  have hgd : Nat.gcd n d ≤ d := Nat.gcd_le_right _ hd
  have h0 : ((d : Int) == 0) = false := by simp; omega
  have hdn : n / Nat.gcd n d ≤ n := Nat.div_le_self _ _
  have hdd : d / Nat.gcd n d ≤ d := Nat.div_le_self _ _
  have e1 : (decide ((n : Int) < 0)) = false := by simp
  have e2 : (decide ((d : Int) < 0)) = false := by simp
  have s1 : ∀ m : Nat, m < 2305843009213693952 → drossref04_size (m : Int) = some ⟨0, (m : Int)⟩ := by
    intro m hm
    simp only [drossref04_size]
    rw [if_neg (by omega), wrap_u64 (by omega) (by omega)]
  have l1 : ∀ m : Nat, m < 2305843009213693952 → drossref04_less ⟨0, 9223372036854775807⟩ ⟨0, (m : Int)⟩ = some false := by
    intro m hm
    have := wide_less 9223372036854775807 m
    rw [show decide (9223372036854775807 < m) = false by simp; omega] at this
    exact this
  simp only [drossref04_Make, h0, Bool.false_eq_true, if_false, s1 n hn, s1 d hd', Option.bind_some, drossref04_build, build_loop d n hn hd', parts_eq n _ (by omega) hg (by omega), parts_eq d _ (by omega) hg (by omega), l1 _ (show n / Nat.gcd n d < 2305843009213693952 by omega), l1 _ (show d / Nat.gcd n d < 2305843009213693952 by omega), e1, e2, beq_self_eq_true, Bool.not_true]
  simp only [ratioN]
  generalize n / Nat.gcd n d = p at *
  generalize d / Nat.gcd n d = q at *
  rw [wrap_i64 (n := (p : Int)) (by omega) (by omega), wrap_i64 (n := (q : Int)) (by omega) (by omega)]
theorem ref_Of_nat (n d : Nat) (hn : n < 2305843009213693952) (hd : 0 < d) (hd' : d < 2305843009213693952) : drossref04_Of (n : Int) (d : Int) = some (ratioN n d) := by
  simp only [drossref04_Of, ref_Make_nat n d hn hd hd', Option.bind_some]
  rfl
end Go.Proofs.YtjcdclpfeflfkaaGreatDoor
/- The errors that the program computes. -/
set_option linter.unusedVariables false
set_option linter.unusedSimpArgs false
namespace Go.Proofs.YtjcdclpfeflfkaaGreatDoor
open Go Go.Ab

theorem best_eq (g : List (List Nat)) (hl : g.length ≤ 1000000) (hb : ∀ d ∈ g, d.length ≤ 1000000) : approx_group_best (intLL g) = some ((bestN g : Nat) : Int) := by
  by_cases h0 : g = []
  · subst h0
    simp only [approx_group_best]
    rw [Loop_done (t := 0) (by simp [approx_group_best_l1, intLL])]
    rfl
  have hpos : 0 < g.length := List.length_pos_iff.2 h0
  have h := LoopF_foldl (List.range g.length) (fun (b : Nat) i => ((b : Int), i)) (approx_group_best_l1 (intLL g)) (fun k i => if (g.getD k []).length < (g.getD i []).length then i else k) (fun b => (b : Int)) (fun k b => b < g.length) (b0 := 0) (s0 := (0, 0)) rfl hpos
    (fun k b x hx hk hI => by
      have hxk : x = k ∧ k < g.length := by
        rw [List.length_range] at hk
        rw [List.getElem?_range hk] at hx
        exact ⟨(Option.some.inj hx).symm, hk⟩
      obtain ⟨rfl, hkl⟩ := hxk
      have hki : ((x : Int) < ((intLL g).length : Int)) := by rw [intLL_len]; omega
      have e1 : idx (intLL g) (x : Int) = some (intL (g.getD x [])) := by
        rw [idx_nat, intLL_get, List.getElem?_eq_getElem hkl]; simp [List.getD, List.getElem?_eq_getElem hkl]
      have e2 : idx (intLL g) (b : Int) = some (intL (g.getD b [])) := by
        rw [idx_nat, intLL_get, List.getElem?_eq_getElem hI]; simp [List.getD, List.getElem?_eq_getElem hI]
      have hw := wrap_nat (show x < 4611686018427387904 by omega)
      simp only [approx_group_best_l1, if_pos hki, e1, e2, Option.bind_some, intL_len, hw]
      by_cases hc : (g.getD b []).length < (g.getD x []).length
      · have hc' : ((g.getD x []).length : Int) > ((g.getD b []).length : Int) := by omega
        rw [if_pos hc', if_pos hc]
        exact ⟨rfl, hkl⟩
      · have hc' : ¬ ((g.getD x []).length : Int) > ((g.getD b []).length : Int) := by omega
        rw [if_neg hc', if_neg hc]
        exact ⟨rfl, hI⟩)
    (fun b _ => by simp [approx_group_best_l1, intLL_len])
  simp only [approx_group_best]
  rw [h]; rfl
theorem foldl_sum {α : Type} (f : α → Nat) : ∀ (l : List α) (a : Nat), l.foldl (fun n x => n + f x) a = a + (l.map f).sum
  | [], a => by simp
  | x :: l, a => by rw [List.foldl_cons, foldl_sum f l]; simp; omega
theorem le_sum {l : List Nat} {x : Nat} (h : x ∈ l) : x ≤ l.sum := by
  induction l with
  | nil => cases h
  | cons y l ih =>
    rcases List.mem_cons.1 h with rfl | h
    · simp
    · have := ih h; simp; omega
theorem take_sum (l : List Nat) (k : Nat) : (l.take k).sum ≤ l.sum := by
  conv => rhs; rw [← List.take_append_drop k l]
  rw [List.sum_append]; omega
/-- a loop over a list that adds numbers -/
theorem sum_loop {α : Type} (l : List α) (B : Int × Int → Option (LS (Int × Int) Int)) (f : α → Nat) (a : Nat)
    (hB : ∀ (k : Nat) (x : α) (s : Nat), l[k]? = some x → k < l.length → s ≤ a + (l.map f).sum → B ((s : Int), (k : Int)) = some (.next (((s + f x : Nat) : Int), ((k + 1 : Nat) : Int))))
    (hE : ∀ s : Int, B (s, (l.length : Int)) = some (.done s)) : LoopF B ((a : Int), 0) = some (((a + (l.map f).sum : Nat) : Int)) := by
  have h := LoopF_foldl l (fun (s : Nat) i => ((s : Int), i)) B (fun s x => s + f x) (fun s => (s : Int)) (fun k s => s = a + ((l.take k).map f).sum) (b0 := a) (s0 := ((a : Int), 0)) rfl (by simp)
    (fun k s x hx hk hI => by
      have hs : s ≤ a + (l.map f).sum := by
        rw [hI, List.map_take]
        have := take_sum (l.map f) k
        omega
      refine ⟨hB k x s hx hk hs, ?_⟩
      rw [hI, List.take_add_one, hx]
      simp; omega)
    (fun s _ => hE s)
  rw [h, foldl_sum]
theorem size_eq (g : List (List Nat)) (hl : g.length ≤ 1000000) (hs : (g.map fun d => d.length).sum ≤ 1000000) : approx_group_size (intLL g) = some (((g.map fun d => d.length).sum : Nat) : Int) := by
  have h := sum_loop g (approx_group_size_l1 (intLL g)) (fun d => d.length) 0
    (fun k d s hd hk hsl => by
      have hki : ((k : Int) < ((intLL g).length : Int)) := by rw [intLL_len]; omega
      have e1 : idx (intLL g) (k : Int) = some (intL d) := by rw [idx_nat, intLL_get, hd]; rfl
      have hdl : d.length ≤ (g.map fun d => d.length).sum := le_sum (List.mem_map.2 ⟨d, List.mem_of_getElem? hd, rfl⟩)
      have hw : IntKind.i64.wrap ((s : Int) + (d.length : Int)) = ((s + d.length : Nat) : Int) := by rw [wrap_i64 (by omega) (by omega)]; omega
      simp only [approx_group_size_l1, if_pos hki, e1, Option.bind_some, intL_len, hw, wrap_nat (show k < 4611686018427387904 by omega)])
    (fun s => by simp [approx_group_size_l1, intLL_len])
  simp only [approx_group_size]
  rw [show ((0 : Int), (0 : Int)) = (((0 : Nat) : Int), 0) from rfl, h]
  simp
theorem squares_loop (g : List (List Nat)) (hl : g.length ≤ 1000000) (A : Nat) (hA : (g.map fun d => d.length * d.length).sum ≤ A) (hA2 : A ≤ 1000000000000) (hd : ∀ d ∈ g, d.length ≤ 1000000) :
    LoopF (approx_measured_l3 (intLL g)) ((A : Int), 0) = some (((A - (g.map fun d => d.length * d.length).sum : Nat) : Int)) := by
  have h := LoopF_foldl g (fun (s : Nat) i => ((s : Int), i)) (approx_measured_l3 (intLL g)) (fun s d => s - d.length * d.length) (fun s => (s : Int)) (fun k s => s = A - ((g.take k).map fun d => d.length * d.length).sum) (b0 := A) (s0 := ((A : Int), 0)) rfl (by simp)
    (fun k s d hd' hk hI => by
      have hki : ((k : Int) < ((intLL g).length : Int)) := by rw [intLL_len]; omega
      have e1 : idx (intLL g) (k : Int) = some (intL d) := by rw [idx_nat, intLL_get, hd']; rfl
      have hdl := hd d (List.mem_of_getElem? hd')
      have hsq : d.length * d.length ≤ 1000000 * 1000000 := Nat.mul_le_mul hdl hdl
      have hts : ((g.take (k + 1)).map fun d => d.length * d.length).sum ≤ A := by
        rw [List.map_take]
        exact Nat.le_trans (take_sum _ _) hA
      have hts' : ((g.take (k + 1)).map fun d => d.length * d.length).sum = ((g.take k).map fun d => d.length * d.length).sum + d.length * d.length := by
        rw [List.take_add_one, hd']; simp
      generalize hsqe : d.length * d.length = q at *
      have hw1 : IntKind.i64.wrap ((d.length : Int) * (d.length : Int)) = (q : Int) := by
        have : (d.length : Int) * (d.length : Int) = (q : Int) := by rw [← hsqe]; simp
        rw [this, wrap_i64 (by omega) (by omega)]
      have hw2 : IntKind.i64.wrap ((s : Int) - (q : Int)) = ((s - q : Nat) : Int) := by rw [wrap_i64 (by omega) (by omega)]; omega
      refine ⟨?_, by rw [hts']; omega⟩
      simp only [approx_measured_l3, if_pos hki, e1, Option.bind_some, intL_len, hw1, hw2, wrap_nat (show k < 4611686018427387904 by omega)])
    (fun s _ => by simp [approx_measured_l3, intLL_len])
  rw [h]
  have : ∀ (l : List (List Nat)) (a : Nat), l.foldl (fun s d => s - d.length * d.length) a = a - (l.map fun d => d.length * d.length).sum := by
    intro l
    induction l with
    | nil => intro a; simp
    | cons d l ih => intro a; rw [List.foldl_cons, ih]; simp; omega
  rw [this]

/-- what a row adds to the error -/
def phiN (t : Table) (s p m i : Nat) : Nat := if m = 1 then nviol t s p i else if m = 2 then min (nviol t s p i) 1 else if remB t s p i then 1 else 0
def errN (t : Table) (s p m : Nat) : Nat := ((List.range t.Rows.length).map (phiN t s p m)).sum
theorem nviol_le (t : Table) (s p i : Nat) : nviol t s p i ≤ t.Rows.length := by
  unfold nviol
  exact Nat.le_trans List.countP_le_length (by rw [List.length_range]; exact Nat.le_refl _)
theorem phi_single {t : Table} {s p m i : Nat} (F : FinerR t s p) (hi : i < t.Rows.length) (h : cntP t s i = 1) : phiN t s p m i = 0 := by
  have h1 := cnt_split F hi
  have h2 := cntP_pos (p := p) hi
  have h3 : nviol t s p i = 0 := by omega
  have h4 : remB t s p i = false := by
    obtain ⟨b1, b2, _, _⟩ := bestRow_spec (s := s) (p := p) hi
    unfold remB
    by_cases e : bestRow t s p i = i
    · rw [e, agN_refl]; rfl
    · exfalso
      unfold cntP at h
      rw [List.countP_eq_length_filter] at h
      have hm1 : i ∈ (List.range t.Rows.length).filter fun k => agN t s k i := List.mem_filter.2 ⟨List.mem_range.2 hi, agN_refl t s i⟩
      have hm2 : bestRow t s p i ∈ (List.range t.Rows.length).filter fun k => agN t s k i := List.mem_filter.2 ⟨List.mem_range.2 b1, agN_symm b2⟩
      have := two_of (List.Nodup.sublist List.filter_sublist List.nodup_range) hm1 hm2 (fun e' => e e'.symm)
      omega
  unfold phiN
  rw [h3, h4]
  simp
theorem err_le (t : Table) (s p m : Nat) : errN t s p m ≤ t.Rows.length * t.Rows.length := by
  unfold errN
  have : ∀ i ∈ List.range t.Rows.length, phiN t s p m i ≤ t.Rows.length := by
    intro i hi
    have h := nviol_le t s p i
    have := List.mem_range.1 hi
    unfold phiN
    split
    · exact h
    · split
      · omega
      · split <;> omega
  have h2 := sum_le this
  rw [sum_const, List.length_range] at h2
  exact h2
/-- what a class adds -/
theorem group_val {t : Table} {s p : Nat} (F : FinerR t s p) {c : List Nat} (hc : c ∈ clsN t s) (h2 : 2 ≤ c.length) :
    (c.map (phiN t s p 1)).sum = c.length * c.length - ((parts t p c).map fun d => d.length * d.length).sum ∧
    (c.map (phiN t s p 2)).sum = (if 1 < (parts t p c).length then c.length else 0) ∧
    (c.map (phiN t s p 3)).sum = c.length - ((parts t p c).getD (bestN (parts t p c)) []).length := by
  have e1 : phiN t s p 1 = nviol t s p := by funext i; simp [phiN]
  have e2 : phiN t s p 2 = fun i => min (nviol t s p i) 1 := by funext i; simp [phiN]
  have e3 : phiN t s p 3 = fun i => if remB t s p i then 1 else 0 := by funext i; simp [phiN]
  have g1 := g1_class F hc
  have g2 := g2_class F hc
  have g3 := g3_class F hc (by intro e; subst e; simp at h2)
  rw [e1, e2, e3]
  refine ⟨by omega, g2.symm, by omega⟩
theorem measured_loop {t : Table} (hn : t.Rows.length ≤ 1000) {s p : Nat} (F : FinerR t s p) (m : Nat) (hm : m = 1 ∨ m = 2 ∨ m = 3) :
    LoopF (approx_measured_l4 (m : Int) (intG (grpN t s p))) (0, 0) = some ((errN t s p m : Nat) : Int) := by
  have hsum := big_sum (s := s) (phiN t s p m) (fun i hi h => phi_single F hi h)
  have hE := err_le t s p m
  have hnn : t.Rows.length * t.Rows.length ≤ 1000 * 1000 := Nat.mul_le_mul hn hn
  have hbl : (big (clsN t s)).length ≤ 1000000 := by
    have h2 := List.length_filter_le (fun c : List Nat => decide (2 ≤ c.length)) (clsN t s)
    have h3 := classes_len (List UInt8) (fun i => rkey s (rowN t i)) (List.range t.Rows.length)
    rw [List.length_range] at h3
    unfold big
    unfold clsN at h2 ⊢
    omega
  have h := sum_loop (big (clsN t s)) (approx_measured_l4 (m : Int) (intG (grpN t s p))) (fun c => (c.map (phiN t s p m)).sum) 0
    (fun k c a hc hk ha => by
      obtain ⟨hcm, hc2⟩ := big_mem.1 (List.mem_of_getElem? hc)
      obtain ⟨v1, v2, v3⟩ := group_val F hcm hc2
      have hcl : c.length ≤ 1000 := by
        have := class_len hcm
        rw [List.length_range] at this; omega
      have hg : (intG (grpN t s p))[k]? = some (intLL (parts t p c)) := by
        rw [intG_get]; unfold grpN; rw [List.getElem?_map, hc]; rfl
      have hki : ((k : Int) < ((intG (grpN t s p)).length : Int)) := by
        rw [intG_len]; unfold grpN; rw [List.length_map]; omega
      have hpl : (parts t p c).length ≤ 1000 := by
        have := classes_len (List UInt8) (fun i => rkey p (rowN t i)) c
        unfold parts; omega
      have hpd : ∀ d ∈ parts t p c, d.length ≤ 1000 := fun d hd => by
        have := class_len hd; omega
      have hsz := parts_size t p c
      have e1 := size_eq (parts t p c) (by omega) (by rw [hsz]; omega)
      rw [hsz] at e1
      have hmem : (c.map (phiN t s p m)).sum ≤ ((big (clsN t s)).map fun c => (c.map (phiN t s p m)).sum).sum := le_sum (List.mem_map.2 ⟨c, List.mem_of_getElem? hc, rfl⟩)
      rw [hsum] at ha hmem
      have hE' : ((List.range t.Rows.length).map (phiN t s p m)).sum ≤ 1000000 := by
        have : ((List.range t.Rows.length).map (phiN t s p m)).sum = errN t s p m := rfl
        omega
      have hw := wrap_nat (show k < 4611686018427387904 by omega)
      have hccl : c.length * c.length ≤ 1000 * 1000 := Nat.mul_le_mul hcl hcl
      have hsq := g1_class F hcm
      have hgb : ((parts t p c).getD (bestN (parts t p c)) []).length ≤ c.length := by
        have := g3_class F hcm (by intro e; subst e; simp at hc2); omega
      have hbest := best_eq (parts t p c) (by omega) (fun d hd => by have := hpd d hd; omega)
      have hne : parts t p c ≠ [] := by
        intro e; rw [e] at hsz; simp at hsz; omega
      have hgi : idx (intLL (parts t p c)) ((bestN (parts t p c) : Nat) : Int) = some (intL ((parts t p c).getD (bestN (parts t p c)) [])) := by
        have := (bestN_spec (parts t p c) hne).1
        rw [idx_nat, intLL_get, List.getElem?_eq_getElem this]; simp [List.getD, List.getElem?_eq_getElem this]
      simp only [approx_measured_l4, if_pos hki, idx_get hg, Option.bind_some, e1]
      rcases hm with rfl | rfl | rfl
      · generalize hq : c.length * c.length = q at *
        have w1 : IntKind.i64.wrap ((c.length : Int) * (c.length : Int)) = (q : Int) := by
          have : (c.length : Int) * (c.length : Int) = (q : Int) := by rw [← hq]; simp
          rw [this, wrap_i64 (by omega) (by omega)]
        have w2 : IntKind.i64.wrap ((a : Int) + (q : Int)) = ((a + q : Nat) : Int) := by rw [wrap_i64 (by omega) (by omega)]; omega
        have hl3 := squares_loop (parts t p c) (by omega) (a + q) (by omega) (by omega) (fun d hd => by have := hpd d hd; omega)
        have c1 : (((1 : Nat) : Int) == 1) = true := by decide
        simp only [c1, if_true, w1, w2, hl3, Option.bind_some, hw]
        congr 4
        omega
      · have c1 : (((2 : Nat) : Int) == 1) = false := by decide
        have c2 : (((2 : Nat) : Int) == 2) = true := by decide
        simp only [c1, Bool.false_eq_true, if_false, c2, if_true, intLL_len]
        by_cases hc1 : 1 < (parts t p c).length
        · have hc1' : ((parts t p c).length : Int) > 1 := by omega
          rw [if_pos hc1] at v2
          rw [if_pos hc1', v2]
          have w2 : IntKind.i64.wrap ((a : Int) + (c.length : Int)) = ((a + c.length : Nat) : Int) := by rw [wrap_i64 (by omega) (by omega)]; omega
          rw [w2, hw]
        · have hc1' : ¬ ((parts t p c).length : Int) > 1 := by omega
          rw [if_neg hc1] at v2
          rw [if_neg hc1', v2, hw]; rfl
      · have c1 : (((3 : Nat) : Int) == 1) = false := by decide
        have c2 : (((3 : Nat) : Int) == 2) = false := by decide
        simp only [c1, Bool.false_eq_true, if_false, c2, hbest, Option.bind_some, hgi, intL_len]
        have w1 : IntKind.i64.wrap ((c.length : Int) - (((parts t p c).getD (bestN (parts t p c)) []).length : Int)) = ((c.length - ((parts t p c).getD (bestN (parts t p c)) []).length : Nat) : Int) := by rw [wrap_i64 (by omega) (by omega)]; omega
        rw [w1, ← v3]
        have w2 : IntKind.i64.wrap ((a : Int) + (((c.map (phiN t s p 3)).sum : Nat) : Int)) = ((a + (c.map (phiN t s p 3)).sum : Nat) : Int) := by rw [wrap_i64 (by omega) (by omega)]; omega
        rw [w2, hw])
    (fun a => by
      have : (intG (grpN t s p)).length = (big (clsN t s)).length := by rw [intG_len]; simp [grpN]
      simp [approx_measured_l4, this])
  rw [show ((0 : Int), (0 : Int)) = (((0 : Nat) : Int), 0) from rfl, h, Nat.zero_add, hsum]
  rfl
theorem bits_or {s r : Nat} (k : Nat) (h : s.testBit k = true) : (s ||| r).testBit k = true := by rw [Nat.testBit_or, h]; rfl
theorem finerR_or {t : Table} (G : GT t) {s r : Nat} (hs : s < 2 ^ t.Attrs.length) (hr : r < 2 ^ t.Attrs.length) : FinerR t s (s ||| r) := fun i k hi hk ha => finer_of (fun k h => bits_or k h) G hs (Nat.or_lt_two_pow hs hr) hi hk ha
/-- the error -/
def errR (t : Table) (s p m : Nat) : Ratio := if t.Rows.length = 0 then ⟨0, 1⟩ else ratioN (errN t s p m) (if m = 1 then t.Rows.length * t.Rows.length else t.Rows.length)
theorem measured_eq {t : Table} (G : GT t) {s r : Nat} (hs : s < 2 ^ t.Attrs.length) (hr : r < 2 ^ t.Attrs.length) (m : Nat) (hm : m = 1 ∨ m = 2 ∨ m = 3) : approx_measured t ⟨(s : Int), (r : Int)⟩ (m : Int) = some (errR t s (s ||| r) m) := by
  have hn := G.rows
  unfold errR
  by_cases h0 : t.Rows.length = 0
  · have : ((t.Rows.length : Int) == 0) = true := by simp [h0]
    simp only [approx_measured, this, if_true, if_pos h0]
  · have hne : ((t.Rows.length : Int) == 0) = false := by simp; exact fun e => h0 (by rw [e]; rfl)
    have hE := err_le t s (s ||| r) m
    have hnn : t.Rows.length * t.Rows.length ≤ 1000 * 1000 := Nat.mul_le_mul hn hn
    have hpos : 0 < t.Rows.length * t.Rows.length := Nat.mul_pos (by omega) (by omega)
    simp only [approx_measured, hne, Bool.false_eq_true, if_false, groups_fd G hs hr, Option.bind_some, measured_loop hn (finerR_or G hs hr) m hm, if_neg h0]
    have hw : IntKind.i64.wrap ((t.Rows.length : Int) * (t.Rows.length : Int)) = ((t.Rows.length * t.Rows.length : Nat) : Int) := by
      have : (t.Rows.length : Int) * (t.Rows.length : Int) = ((t.Rows.length * t.Rows.length : Nat) : Int) := by simp
      rw [this, wrap_i64 (by omega) (by omega)]
    rcases hm with rfl | rfl | rfl
    · have c1 : (((1 : Nat) : Int) == 1) = true := by decide
      simp only [c1, if_true, hw, ratio_Make_nat _ _ (show errN t s (s ||| r) 1 < 4611686018427387904 by omega) hpos (by omega), Option.bind_some]
    · have c1 : (((2 : Nat) : Int) == 1) = false := by decide
      simp only [c1, Bool.false_eq_true, if_false, ratio_Make_nat _ _ (show errN t s (s ||| r) 2 < 4611686018427387904 by omega) (show 0 < t.Rows.length by omega) (by omega), Option.bind_some]
      simp
    · have c1 : (((3 : Nat) : Int) == 1) = false := by decide
      simp only [c1, Bool.false_eq_true, if_false, ratio_Make_nat _ _ (show errN t s (s ||| r) 3 < 4611686018427387904 by omega) (show 0 < t.Rows.length by omega) (by omega), Option.bind_some]
      simp
end Go.Proofs.YtjcdclpfeflfkaaGreatDoor
/- The reference of the errors, and the removal. -/
set_option linter.unusedVariables false
set_option linter.unusedSimpArgs false
namespace Go.Proofs.YtjcdclpfeflfkaaGreatDoor
open Go Go.Ab

theorem attrs_of {t : Table} (h : tableErr t = 0) : t.Attrs.length ≤ 16 := by
  unfold tableErr at h
  split at h
  · cases h
  · split at h
    · cases h
    · omega
/-- a dependency within the table -/
def inB (t : Table) (f : FD) : Bool := decide ((f.Lhs.toNat ||| f.Rhs.toNat) < 2 ^ t.Attrs.length)
theorem okI_u32 {n : Int} (h : okI .u32 n) : 0 ≤ n ∧ n ≤ 4294967295 := by
  have h' : (decide (IntKind.min .u32 ≤ n) && decide (n ≤ IntKind.max .u32)) = true := h
  simp only [Bool.and_eq_true, decide_eq_true_eq] at h'
  have e1 : IntKind.min .u32 = 0 := by decide
  have e2 : IntKind.max .u32 = 4294967295 := by decide
  rw [e1, e2] at h'
  exact h'
theorem okI_i64 {n : Int} (h : okI .i64 n) : -9223372036854775808 ≤ n ∧ n ≤ 9223372036854775807 := by
  have h' : (decide (IntKind.min .i64 ≤ n) && decide (n ≤ IntKind.max .i64)) = true := h
  simp only [Bool.and_eq_true, decide_eq_true_eq] at h'
  have e1 : IntKind.min .i64 = -9223372036854775808 := by decide
  have e2 : IntKind.max .i64 = 9223372036854775807 := by decide
  rw [e1, e2] at h'
  exact h'
theorem fd_of {f : FD} (h : okFD f) : ∃ s r : Nat, f = ⟨(s : Int), (r : Int)⟩ ∧ s < 4294967296 ∧ r < 4294967296 := by
  obtain ⟨h1, h2⟩ := h
  obtain ⟨L, R⟩ := f
  have q1 := okI_u32 h1
  have q2 := okI_u32 h2
  simp only at q1 q2
  refine ⟨L.toNat, R.toNat, ?_, by omega, by omega⟩
  congr 1 <;> omega
theorem shift_zero {n s : Nat} (hn : n ≤ 16) (hs : s < 4294967296) : ((Int.fdiv (IntKind.u64.wrap (s : Int)) (2 ^ (min ((n : Int)).toNat 64))) != 0) = !decide (s < 2 ^ n) := by
  rw [Int.toNat_natCast, Nat.min_eq_left (show n ≤ 64 by omega), wrap_u64 (n := (s : Int)) (by omega) (by omega), fdiv_pow]
  have hp : 0 < 2 ^ n := Nat.pow_pos (by omega)
  by_cases h : s < 2 ^ n
  · rw [Nat.div_eq_of_lt h]; simp [h]
  · have h2 := Nat.div_pos (show 2 ^ n ≤ s by omega) hp
    have : ¬ ((s / 2 ^ n : Nat) : Int) = 0 := by omega
    simp only [h, decide_false, Bool.not_false, bne_iff_ne, ne_eq]
    exact this
theorem known_list (t : Table) (T : TableOk t) (fds : List FD) (hl : fds.length ≤ 1000000) (h : ∀ f ∈ fds, okFD f) : approx_known t fds = some (if tableErr t = 0 then (if fds.all (inB t) then 0 else 6) else tableErr t) := by
  by_cases he : tableErr t = 0
  · have hn := attrs_of he
    have hb : ∀ (k : Nat) (f : FD), fds[k]? = some f → k < fds.length → approx_known_l1 t fds (k : Int) = some (if inB t f then .next ((k : Int) + 1) else .done (.inr 6)) := by
      intro k f hf hk
      obtain ⟨s, r, rfl, hs, hr⟩ := fd_of (h f (List.mem_of_getElem? hf))
      have h1 : ¬ ((t.Attrs.length : Int) < 0) := by omega
      have h2 := shift_zero hn (or_lt hs hr)
      have hw : IntKind.i64.wrap ((k : Int) + 1) = (k : Int) + 1 := by rw [wrap_i64 (by omega) (by omega)]
      have h3 : inB t ⟨(s : Int), (r : Int)⟩ = decide ((s ||| r) < 2 ^ t.Attrs.length) := by simp [inB]
      simp only [approx_known_l1, if_pos (lt_true hf), idx_get hf, Option.bind_some, if_neg h1, w32_or hs hr, h2, h3, hw]
      by_cases hc : (s ||| r) < 2 ^ t.Attrs.length <;> simp [hc]
    have hall := LoopF_all fds (approx_known_l1 t fds) (inB t) 6
      (fun k f hf hk hp => by rw [hb k f hf hk, if_pos hp]; rfl)
      (fun k f hf hp => by rw [hb k f hf (lt_of_get hf), if_neg (by simp [hp])])
      (by simp [approx_known_l1])
    simp only [approx_known, table_Valid_table t T, Option.bind_some, he, bne_self_eq_false, Bool.false_eq_true, if_false, hall, if_true]
    by_cases hc : fds.all (inB t) = true <;> simp [hc]
  · have hne : (tableErr t != 0) = true := by simp [he]
    simp only [approx_known, table_Valid_table t T, Option.bind_some, hne, if_true, if_neg he]
def fdErr (t : Table) (f : FD) : Int := if tableErr t = 0 then (if inB t f then 0 else 6) else tableErr t
theorem known_eq (t : Table) (T : TableOk t) (f : FD) (h : okFD f) : approx_known t [f] = some (fdErr t f) := by
  rw [known_list t T [f] (by simp) (fun g hg => by rw [List.mem_singleton.1 hg]; exact h)]
  simp [fdErr]
theorem check_eq (t : Table) (T : TableOk t) (f : FD) (h : okFD f) : drossref32_check t f = some (fdErr t f) := by
  unfold fdErr
  by_cases he : tableErr t = 0
  · have hn := attrs_of he
    obtain ⟨s, r, rfl, hs, hr⟩ := fd_of h
    have hp : 0 < 2 ^ t.Attrs.length := Nat.pow_pos (by omega)
    have hp2 : 2 ^ t.Attrs.length < 4294967296 := pow_lt (by omega)
    have h3 : inB t ⟨(s : Int), (r : Int)⟩ = decide ((s ||| r) < 2 ^ t.Attrs.length) := by simp [inB]
    simp only [drossref32_check, ref_Valid_table t T, Option.bind_some, he, bne_self_eq_false, Bool.false_eq_true, if_false, Full_eq hn, drossref02_Sub, w32_or hs hr, w32_and (or_lt hs hr) (show 2 ^ t.Attrs.length - 1 < 4294967296 by omega), Nat.and_two_pow_sub_one_eq_mod, if_true, h3]
    by_cases hc : (s ||| r) < 2 ^ t.Attrs.length
    · rw [Nat.mod_eq_of_lt hc]; simp [hc]
    · have hm := Nat.mod_lt (s ||| r) hp
      have : ¬ (((s ||| r) % 2 ^ t.Attrs.length : Nat) : Int) = ((s ||| r : Nat) : Int) := by omega
      have hb : ((((s ||| r) % 2 ^ t.Attrs.length : Nat) : Int) == ((s ||| r : Nat) : Int)) = false := by simpa using this
      rw [hb]; simp [hc]
  · have hne : (tableErr t != 0) = true := by simp [he]
    simp only [drossref32_check, ref_Valid_table t T, Option.bind_some, hne, if_true, if_neg he]

theorem agN_comm (t : Table) (p i k : Nat) : agN t p i k = agN t p k i := by
  unfold agN; rw [decide_eq_decide]; exact eq_comm
theorem agN_or {t : Table} (G : GT t) {s r : Nat} (hs : s < 2 ^ t.Attrs.length) (hr : r < 2 ^ t.Attrs.length) {i k : Nat} (hi : i < t.Rows.length) (hk : k < t.Rows.length) : agN t (s ||| r) i k = (agN t s i k && agN t r i k) := by
  rw [Bool.eq_iff_iff, Bool.and_eq_true, agN_iff G hs hi hk, agN_iff G hr hi hk, agN_iff G (Nat.or_lt_two_pow hs hr) hi hk]
  unfold AgreeN
  constructor
  · intro h
    exact ⟨fun a ha hb => h a ha (by rw [Nat.testBit_or, hb]; rfl), fun a ha hb => h a ha (by rw [Nat.testBit_or, hb, Bool.or_true])⟩
  · rintro ⟨h1, h2⟩ a ha hb
    rw [Nat.testBit_or, Bool.or_eq_true] at hb
    rcases hb with hb | hb
    · exact h1 a ha hb
    · exact h2 a ha hb
theorem sum_ite {α : Type} (p : α → Bool) : ∀ l : List α, (l.map fun x => if p x = true then 1 else 0).sum = l.countP p
  | [] => rfl
  | x :: l => by
    rw [List.map_cons, List.sum_cons, sum_ite p l, List.countP_cons]
    by_cases h : p x = true <;> simp [h] <;> omega
theorem range_at {n k z : Nat} (h : (List.range n)[k]? = some z) : z = k ∧ k < n := by
  have hk : k < n := by have := lt_of_get h; simpa using this
  rw [List.getElem?_range hk] at h
  exact ⟨(Option.some.inj h).symm, hk⟩
theorem count_loop (n : Nat) (hn : n ≤ 1000000) (B : Int × Int → Option (LS (Int × Int) Int)) (p : Nat → Bool)
    (hB : ∀ (k : Nat) (s : Nat), k < n → s ≤ n → B ((s : Int), (k : Int)) = some (.next (((if p k = true then s + 1 else s : Nat) : Int), ((k + 1 : Nat) : Int))))
    (hE : ∀ s : Int, B (s, (n : Int)) = some (.done s)) : LoopF B (0, 0) = some ((((List.range n).countP p : Nat) : Int)) := by
  have hc : (List.range n).countP p ≤ n := by
    have := List.countP_le_length (p := p) (l := List.range n)
    simpa using this
  have h := sum_loop (List.range n) B (fun k => if p k = true then 1 else 0) 0
    (fun k x s hx hk hs => by
      obtain ⟨rfl, hk'⟩ := range_at hx
      rw [sum_ite, Nat.zero_add] at hs
      rw [hB x s hk' (by omega)]
      by_cases hp : p x = true <;> simp [hp])
    (fun s => by rw [List.length_range]; exact hE s)
  rw [show ((0 : Int), (0 : Int)) = (((0 : Nat) : Int), 0) from rfl, h, sum_ite, Nat.zero_add]
theorem lt_u32 {t : Table} (G : GT t) {s : Nat} (hs : s < 2 ^ t.Attrs.length) : s < 4294967296 := pow_u32 G.attrs hs
/-! ### the reference's removal -/
theorem ref_l12 {t : Table} (G : GT t) {s r : Nat} (hs : s < 2 ^ t.Attrs.length) (hr : r < 2 ^ t.Attrs.length) {k : Nat} (hk : k < t.Rows.length) :
    LoopF (drossref32_Removal_l12 t ⟨(s : Int), (r : Int)⟩ (k : Int)) (0, 0) = some ((cntP t (s ||| r) k : Nat) : Int) := by
  have hn := G.rows
  refine count_loop t.Rows.length (by omega) _ (fun j => agN t (s ||| r) j k) (fun j c hj hc => ?_) (fun c => by simp [drossref32_Removal_l12])
  have hag := Agree_agN G (Nat.or_lt_two_pow hs hr) hk hj
  have hw := wrap_nat (show c < 4611686018427387904 by omega)
  have hw2 := wrap_nat (show j < 4611686018427387904 by omega)
  simp only [drossref32_Removal_l12, if_pos (show (j : Int) < (t.Rows.length : Int) by omega), idx_get (rowN_get hk), idx_get (rowN_get hj), Option.bind_some, w32_or (lt_u32 G hs) (lt_u32 G hr), hag, hw, hw2]
  rw [agN_comm]
  by_cases h : agN t (s ||| r) j k = true <;> simp [h]
theorem ref_l13 {t : Table} (G : GT t) {s r : Nat} (hs : s < 2 ^ t.Attrs.length) (hr : r < 2 ^ t.Attrs.length) {i : Nat} (hi : i < t.Rows.length) :
    LoopF (drossref32_Removal_l13 t ⟨(s : Int), (r : Int)⟩ (i : Int)) ((i : Int), 0, 0) = some ((bestRow t s (s ||| r) i : Nat) : Int) := by
  have hn := G.rows
  have h := LoopF_foldl (List.range t.Rows.length) (fun (b : Nat × Nat) k => ((b.1 : Int), (b.2 : Int), k)) (drossref32_Removal_l13 t ⟨(s : Int), (r : Int)⟩ (i : Int)) (stepB t s (s ||| r) i) (fun b => (b.1 : Int)) (fun _ _ => True) (b0 := (i, 0)) (s0 := ((i : Int), 0, 0)) rfl trivial
    (fun k b x hx hk _ => by
      obtain ⟨rfl, hk'⟩ := range_at hx
      refine ⟨?_, trivial⟩
      have hag := Agree_agN G hs hi hk'
      have hw2 := wrap_nat (show x < 4611686018427387904 by omega)
      simp only [drossref32_Removal_l13, if_pos (show (x : Int) < (t.Rows.length : Int) by omega), idx_get (rowN_get hi), idx_get (rowN_get hk'), Option.bind_some, hag, hw2, ref_l12 G hs hr hk']
      unfold stepB
      by_cases h1 : agN t s i x = true
      · by_cases h2 : b.2 < cntP t (s ||| r) x
        · simp only [h1, if_true, if_pos h2, if_pos (show ((cntP t (s ||| r) x : Nat) : Int) > (b.2 : Int) by omega)]
        · simp only [h1, if_true, if_neg h2, if_neg (show ¬ ((cntP t (s ||| r) x : Nat) : Int) > (b.2 : Int) by omega)]
      · simp only [h1, if_false, Bool.false_eq_true])
    (fun b _ => by simp [drossref32_Removal_l13])
  rw [h]; rfl
/-- the rows that are removed -/
def remL (t : Table) (s p : Nat) : List Nat := (List.range t.Rows.length).filter fun i => remB t s p i
def remIDs (t : Table) (s p : Nat) : List Int := (remL t s p).map fun i => (rowN t i).ID
theorem remB_ref {t : Table} (G : GT t) {s r : Nat} (hs : s < 2 ^ t.Attrs.length) (hr : r < 2 ^ t.Attrs.length) {i : Nat} (hi : i < t.Rows.length) : remB t s (s ||| r) i = !agN t r i (bestRow t s (s ||| r) i) := by
  obtain ⟨b1, b2, _, _⟩ := bestRow_spec (t := t) (s := s) (p := s ||| r) hi
  unfold remB
  rw [agN_comm, agN_or G hs hr hi b1, b2, Bool.true_and]
theorem foldl_keepM {α β : Type} (p : α → Bool) (f : α → β) : ∀ (l : List α) (o : List β), l.foldl (fun o x => if p x = true then o ++ [f x] else o) o = o ++ (l.filter p).map f
  | [], o => by simp
  | x :: l, o => by
    rw [List.foldl_cons, foldl_keepM p f l]
    by_cases h : p x = true <;> simp [h]
theorem ref_l14 {t : Table} (G : GT t) {s r : Nat} (hs : s < 2 ^ t.Attrs.length) (hr : r < 2 ^ t.Attrs.length) :
    LoopF (drossref32_Removal_l14 t ⟨(s : Int), (r : Int)⟩) ([], 0) = some (remIDs t s (s ||| r)) := by
  have hn := G.rows
  have h := LoopF_foldl (List.range t.Rows.length) (fun (o : List Int) k => (o, k)) (drossref32_Removal_l14 t ⟨(s : Int), (r : Int)⟩) (fun o i => if remB t s (s ||| r) i = true then o ++ [(rowN t i).ID] else o) id (fun k o => o.length ≤ k) (b0 := []) (s0 := ([], 0)) rfl (by simp)
    (fun k o x hx hk hI => by
      obtain ⟨rfl, hk'⟩ := range_at hx
      obtain ⟨b1, b2, _, _⟩ := bestRow_spec (t := t) (s := s) (p := s ||| r) hk'
      have hag := Agree_agN G hr hk' b1
      have hw2 := wrap_nat (show x < 4611686018427387904 by omega)
      have hroom : roomB (o.length + 1) 8 = true := room_le (by omega) (by omega)
      simp only [drossref32_Removal_l14, if_pos (show (x : Int) < (t.Rows.length : Int) by omega), ref_l13 G hs hr hk', idx_get (rowN_get hk'), idx_get (rowN_get b1), Option.bind_some, hag, hw2, hroom, if_true, remB_ref G hs hr hk']
      by_cases h1 : agN t r x (bestRow t s (s ||| r) x) = true
      · simp only [h1, if_true, Bool.not_true, Bool.false_eq_true, if_false]
        exact ⟨trivial, by omega⟩
      · have h1' : agN t r x (bestRow t s (s ||| r) x) = false := by simpa using h1
        simp only [h1', if_true, Bool.not_false, Bool.false_eq_true, if_false]
        exact ⟨trivial, by simp; omega⟩)
    (fun o _ => by simp [drossref32_Removal_l14])
  rw [h, foldl_keepM]; rfl
theorem lt_in {t : Table} {s r : Nat} (h : inB t ⟨(s : Int), (r : Int)⟩ = true) : s < 2 ^ t.Attrs.length ∧ r < 2 ^ t.Attrs.length := by
  simp only [inB, Int.toNat_natCast, decide_eq_true_eq] at h
  exact ⟨Nat.lt_of_le_of_lt Nat.left_le_or h, Nat.lt_of_le_of_lt Nat.right_le_or h⟩
/-- the rows that the program and the reference remove -/
def remR (t : Table) (f : FD) : List Int × Int := if fdErr t f = 0 then (remIDs t f.Lhs.toNat (f.Lhs.toNat ||| f.Rhs.toNat), 0) else ([], fdErr t f)
theorem gt_of {t : Table} (h : okTable t) (he : tableErr t = 0) : GT t := by
  refine ⟨tabOk_of h, he, fun r hr v hv => ?_⟩
  exact okI_i64 ((h.2.2.2 r hr).2.2 v hv).2.1
theorem fdErr_zero {t : Table} {f : FD} (h : fdErr t f = 0) : tableErr t = 0 ∧ inB t f = true := by
  unfold fdErr at h
  by_cases he : tableErr t = 0
  · rw [if_pos he] at h
    by_cases hi : inB t f = true
    · exact ⟨he, hi⟩
    · rw [if_neg hi] at h; cases h
  · rw [if_neg he] at h; exact absurd h he
theorem ref_Removal_eq (t : Table) (ht : okTable t) (f : FD) (h : okFD f) : drossref32_Removal t f = some (remR t f) := by
  unfold remR
  by_cases he : fdErr t f = 0
  · obtain ⟨h0, hi⟩ := fdErr_zero he
    have G := gt_of ht h0
    obtain ⟨s, r, rfl, hs, hr⟩ := fd_of h
    obtain ⟨hs', hr'⟩ := lt_in hi
    simp only [drossref32_Removal, check_eq t (tabOk_of ht) _ h, Option.bind_some, he, bne_self_eq_false, Bool.false_eq_true, if_false, ref_l14 G hs' hr', if_true, Int.toNat_natCast]
  · have hne : (fdErr t f != 0) = true := by simp [he]
    simp only [drossref32_Removal, check_eq t (tabOk_of ht) _ h, Option.bind_some, hne, if_true, if_neg he]

/-! ### the reference's errors -/
/-- the answer of Error -/
def errA (t : Table) (f : FD) (m : Int) : Ratio × Int :=
  if fdErr t f = 0 then (if 1 ≤ m ∧ m ≤ 3 then (errR t f.Lhs.toNat (f.Lhs.toNat ||| f.Rhs.toNat) m.toNat, 0) else (⟨0, 0⟩, 1)) else (⟨0, 0⟩, fdErr t f)
theorem Error_eq (t : Table) (ht : okTable t) (f : FD) (h : okFD f) (m : Int) : approx_Error t f m = some (errA t f m) := by
  unfold errA
  by_cases he : fdErr t f = 0
  · obtain ⟨h0, hi⟩ := fdErr_zero he
    have G := gt_of ht h0
    obtain ⟨s, r, rfl, hs, hr⟩ := fd_of h
    obtain ⟨hs', hr'⟩ := lt_in hi
    simp only [approx_Error, known_eq t (tabOk_of ht) _ h, Option.bind_some, he, bne_self_eq_false, Bool.false_eq_true, if_false, if_true, Int.toNat_natCast, approx_measures]
    by_cases h1 : m ≥ 1
    · by_cases h3 : m ≤ 3
      · obtain ⟨k, rfl⟩ : ∃ k : Nat, m = (k : Int) := ⟨m.toNat, by omega⟩
        have hm := measured_eq G hs' hr' k (by omega)
        simp only [if_pos h1, h3, decide_true, if_true, Option.bind_some, hm, if_pos (show (1 : Int) ≤ (k : Int) ∧ True by exact ⟨by omega, trivial⟩), Int.toNat_natCast]
      · simp only [if_pos h1, h3, decide_false, Bool.false_eq_true, if_false, Option.bind_some, and_false]
    · simp only [if_neg h1, Bool.false_eq_true, if_false, Option.bind_some, if_neg (show ¬ ((1 : Int) ≤ m ∧ m ≤ 3) by omega)]
  · have hne : (fdErr t f != 0) = true := by simp [he]
    simp only [approx_Error, known_eq t (tabOk_of ht) _ h, Option.bind_some, hne, if_true, if_neg he]
end Go.Proofs.YtjcdclpfeflfkaaGreatDoor
/- The program's removal; the chapter's example; Error. -/
set_option linter.unusedVariables false
set_option linter.unusedSimpArgs false
namespace Go.Proofs.YtjcdclpfeflfkaaGreatDoor
open Go Go.Ab

theorem intL_get (l : List Nat) (j : Nat) : (intL l)[j]? = (l[j]?).map (fun n : Nat => (n : Int)) := by simp [intL]
def idN (t : Table) (i : Nat) : Int := (rowN t i).ID
theorem foldl_app {α β : Type} (f : α → List β) : ∀ (l : List α) (o : List β), l.foldl (fun o x => o ++ f x) o = o ++ l.flatMap f
  | [], o => by simp
  | x :: l, o => by rw [List.foldl_cons, foldl_app f l]; simp
theorem flat_one {α β : Type} (f : α → β) : ∀ l : List α, (l.flatMap fun i => [f i]) = l.map f
  | [] => rfl
  | x :: l => by rw [List.flatMap_cons, flat_one f l]; rfl
theorem rem_l11 (t : Table) (b j : Nat) (d : List Nat) (hd : ∀ i ∈ d, i < t.Rows.length) (hl : d.length ≤ 1000000) (out : List Int) (ho : out.length ≤ 1000000000000) :
    LoopF (approx_Removal_l11 t (b : Int) (j : Int) (intL d)) (out, 0) = some (out ++ if j = b then [] else d.map (idN t)) := by
  have h := LoopF_foldl d (fun (o : List Int) k => (o, k)) (approx_Removal_l11 t (b : Int) (j : Int) (intL d)) (fun o i => o ++ if j = b then [] else [idN t i]) id (fun k o => o.length ≤ out.length + k) (b0 := out) (s0 := (out, 0)) rfl (by simp)
    (fun k o x hx hk hI => by
      have hki : ((k : Int) < ((intL d).length : Int)) := by rw [intL_len]; omega
      have e1 : idx (intL d) (k : Int) = some (x : Int) := by rw [idx_nat, intL_get, hx]; rfl
      have e2 := idx_get (rowN_get (hd x (List.mem_of_getElem? hx)))
      have hw := wrap_nat (show k < 4611686018427387904 by omega)
      have hr : roomB (o.length + 1) 8 = true := room8 (by omega)
      by_cases hj : j = b
      · have hne : ((j : Int) != (b : Int)) = false := by simp [hj]
        simp only [approx_Removal_l11, if_pos hki, e1, Option.bind_some, hne, Bool.false_eq_true, if_false, hw, if_pos hj, List.append_nil]
        exact ⟨trivial, by omega⟩
      · have hne : ((j : Int) != (b : Int)) = true := by simp; omega
        simp only [approx_Removal_l11, if_pos hki, e1, e2, hr, Option.bind_some, hne, if_true, hw, if_neg hj]
        exact ⟨rfl, by simp; omega⟩)
    (fun o _ => by simp [approx_Removal_l11, intL_len])
  rw [h, foldl_app]
  by_cases hj : j = b
  · simp only [if_pos hj, id]
    congr 2
    simp
  · simp only [if_neg hj, id]
    congr 2
    exact flat_one (idN t) d
/-- the rows of the parts that are not the best one -/
def outN (g : List (List Nat)) : List Nat := (List.range g.length).flatMap fun j => if j = bestN g then [] else g.getD j []
theorem map_outN (t : Table) (g : List (List Nat)) : (outN g).map (idN t) = (List.range g.length).flatMap fun j => if j = bestN g then [] else (g.getD j []).map (idN t) := by
  unfold outN
  rw [List.map_flatMap]
  congr 1
  funext j
  split <;> simp
theorem rem_l12 (t : Table) (g : List (List Nat)) (hg : g.length ≤ 1000) (hd : ∀ d ∈ g, (∀ i ∈ d, i < t.Rows.length) ∧ d.length ≤ 1000) (out : List Int) (ho : out.length ≤ 1000000000) :
    LoopF (approx_Removal_l12 t (intLL g) (bestN g : Nat)) (out, 0) = some (out ++ (outN g).map (idN t)) := by
  have h := LoopF_foldl (List.range g.length) (fun (o : List Int) k => (o, k)) (approx_Removal_l12 t (intLL g) (bestN g : Nat)) (fun o j => o ++ if j = bestN g then [] else (g.getD j []).map (idN t)) id (fun k o => o.length ≤ out.length + k * 1000) (b0 := out) (s0 := (out, 0)) rfl (by simp)
    (fun k o x hx hk hI => by
      obtain ⟨rfl, hxl⟩ := range_at hx
      have hki : ((x : Int) < ((intLL g).length : Int)) := by rw [intLL_len]; omega
      have hgx : g[x]? = some (g.getD x []) := by simp [List.getD, List.getElem?_eq_getElem hxl]
      have e1 : idx (intLL g) (x : Int) = some (intL (g.getD x [])) := by rw [idx_nat, intLL_get, hgx]; rfl
      obtain ⟨d1, d2⟩ := hd _ (List.mem_of_getElem? hgx)
      have hw := wrap_nat (show x < 4611686018427387904 by omega)
      refine ⟨?_, ?_⟩
      · simp only [approx_Removal_l12, if_pos hki, e1, Option.bind_some, rem_l11 t (bestN g) x _ d1 (by omega) o (by omega), hw]
      · rw [List.length_append]
        split
        · rename_i e; clear e; simp only [List.length_nil, Nat.add_zero, Nat.succ_mul]; exact Nat.le_trans hI (by omega)
        · rw [List.length_map]; omega)
    (fun o _ => by simp [approx_Removal_l12, intLL_len])
  rw [h, foldl_app, map_outN]; rfl
theorem outN_len (g : List (List Nat)) (hd : ∀ d ∈ g, d.length ≤ 1000) : (outN g).length ≤ g.length * 1000 := by
  unfold outN
  have key : ∀ m, m ≤ g.length → ((List.range m).flatMap fun j => if j = bestN g then [] else g.getD j []).length ≤ m * 1000 := by
    intro m
    induction m with
    | zero => intro _; simp
    | succ m ih =>
      intro hm
      have h1 := ih (by omega)
      have hgx : g[m]? = some (g.getD m []) := by simp [List.getD, List.getElem?_eq_getElem (show m < g.length by omega)]
      have h2 := hd _ (List.mem_of_getElem? hgx)
      rw [List.range_succ, List.flatMap_append, List.length_append]
      simp only [List.flatMap_cons, List.flatMap_nil, List.append_nil]
      by_cases e : m = bestN g
      · simp only [if_pos e, List.length_nil, Nat.add_zero]; clear e; exact Nat.le_trans h1 (by omega)
      · rw [if_neg e]; omega
  exact key _ (Nat.le_refl _)
theorem parts_bd {t : Table} (hn : t.Rows.length ≤ 1000) {s : Nat} (p : Nat) {c : List Nat} (hc : c ∈ clsN t s) : (parts t p c).length ≤ 1000 ∧ ∀ d ∈ parts t p c, (∀ i ∈ d, i < t.Rows.length) ∧ d.length ≤ 1000 := by
  have hcl : c.length ≤ 1000 := by
    have := class_len hc
    rw [List.length_range] at this; omega
  refine ⟨?_, fun d hd => ⟨fun i hi => (cls_self hc (part_of hd hi).1).1, ?_⟩⟩
  · have := classes_len (List UInt8) (fun i => rkey p (rowN t i)) c
    unfold parts; omega
  · have := class_len hd; omega
/-- what the program gathers -/
def outG (t : Table) (s p : Nat) : List Nat := (big (clsN t s)).flatMap fun c => outN (parts t p c)
theorem rem_l13 {t : Table} (hn : t.Rows.length ≤ 1000) (s p : Nat) : LoopF (approx_Removal_l13 t (intG (grpN t s p))) ([], 0) = some ((outG t s p).map (idN t)) := by
  have hbl : (big (clsN t s)).length ≤ 1000 := by
    have h2 := List.length_filter_le (fun c : List Nat => decide (2 ≤ c.length)) (clsN t s)
    have h3 := classes_len (List UInt8) (fun i => rkey s (rowN t i)) (List.range t.Rows.length)
    rw [List.length_range] at h3
    unfold big
    unfold clsN at h2 ⊢
    omega
  have h := LoopF_foldl (big (clsN t s)) (fun (o : List Int) k => (o, k)) (approx_Removal_l13 t (intG (grpN t s p))) (fun o c => o ++ (outN (parts t p c)).map (idN t)) id (fun k o => o.length ≤ k * 1000000) (b0 := []) (s0 := ([], 0)) rfl (by simp)
    (fun k o c hc hk hI => by
      obtain ⟨hcm, hc2⟩ := big_mem.1 (List.mem_of_getElem? hc)
      obtain ⟨b1, b2⟩ := parts_bd hn p hcm
      have hg : (intG (grpN t s p))[k]? = some (intLL (parts t p c)) := by
        rw [intG_get]; unfold grpN; rw [List.getElem?_map, hc]; rfl
      have hki : ((k : Int) < ((intG (grpN t s p)).length : Int)) := by
        rw [intG_len]; unfold grpN; rw [List.length_map]; omega
      have hbest := best_eq (parts t p c) (by omega) (fun d hd => by have := (b2 d hd).2; omega)
      have hw := wrap_nat (show k < 4611686018427387904 by omega)
      have hl := outN_len (parts t p c) (fun d hd => (b2 d hd).2)
      refine ⟨?_, ?_⟩
      · simp only [approx_Removal_l13, if_pos hki, idx_get hg, hbest, Option.bind_some, rem_l12 t (parts t p c) b1 b2 o (by omega), hw]
      · rw [List.length_append, List.length_map]; omega)
    (fun o _ => by
      have : (intG (grpN t s p)).length = (big (clsN t s)).length := by rw [intG_len]; simp [grpN]
      simp [approx_Removal_l13, this])
  rw [h, foldl_app]
  unfold outG
  rw [List.map_flatMap]
  simp
/-! ### the same rows, in order -/
theorem count_sum (a : Nat) (l : List Nat) : l.count a = (l.map fun x => if (x == a) = true then 1 else 0).sum := by
  rw [sum_ite]; rfl
theorem count_flat {α : Type} (a : Nat) (f : α → List Nat) : ∀ l : List α, (l.flatMap f).count a = (l.map fun x => (f x).count a).sum
  | [] => rfl
  | x :: l => by simp [List.count_append, count_flat a f l]
theorem range_map_getD {α β : Type} (g : List α) (z : α) (f : α → β) : ((List.range g.length).map fun j => f (g.getD j z)) = g.map f := by
  apply List.ext_getElem?
  intro j
  rw [List.getElem?_map, List.getElem?_map]
  by_cases h : j < g.length
  · rw [List.getElem?_range h, List.getElem?_eq_getElem h]
    simp [List.getD, List.getElem?_eq_getElem h]
  · rw [List.getElem?_eq_none (by simp; omega), List.getElem?_eq_none (by omega)]; rfl
theorem outN_count {t : Table} {s p : Nat} (F : FinerR t s p) {c : List Nat} (hc : c ∈ clsN t s) (a : Nat) : (outN (parts t p c)).count a = (c.map fun i => if (i == a) = true then (if remB t s p i then 1 else 0) else 0).sum := by
  have hsum := classes_sum (fun i => rkey p (rowN t i)) (fun i => if (i == a) = true then (if remB t s p i then 1 else 0) else 0) c
  rw [← hsum, show classes (fun i => rkey p (rowN t i)) c = parts t p c from rfl]
  unfold outN
  rw [count_flat]
  rw [← range_map_getD (parts t p c) [] (fun d => (d.map fun i => if (i == a) = true then (if remB t s p i then 1 else 0) else 0).sum)]
  congr 1
  apply List.map_congr_left
  intro j hj
  have hjl : j < (parts t p c).length := by simpa using hj
  have hgx : (parts t p c)[j]? = some ((parts t p c).getD j []) := by simp [List.getD, List.getElem?_eq_getElem hjl]
  have hr : ∀ i ∈ (parts t p c).getD j [], remB t s p i = decide (j ≠ bestN (parts t p c)) := fun i hi => rem_iff F hc hgx hi
  by_cases e : j = bestN (parts t p c)
  · rw [if_pos e]
    have : ((parts t p c).getD j []).map (fun i => if (i == a) = true then (if remB t s p i then 1 else 0) else 0) = ((parts t p c).getD j []).map fun _ => 0 := by
      apply List.map_congr_left
      intro i hi
      rw [hr i hi]; simp [e]
    rw [this, sum_const]; simp
  · rw [if_neg e, count_sum]
    congr 1
    apply List.map_congr_left
    intro i hi
    rw [hr i hi]; simp [e]
theorem outG_perm {t : Table} {s p : Nat} (F : FinerR t s p) : (outG t s p).Perm (remL t s p) := by
  rw [List.perm_iff_count]
  intro a
  unfold outG
  rw [count_flat]
  have h1 : (big (clsN t s)).map (fun c => (outN (parts t p c)).count a) = (big (clsN t s)).map fun c => (c.map fun i => if (i == a) = true then (if remB t s p i then 1 else 0) else 0).sum := by
    apply List.map_congr_left
    intro c hc
    exact outN_count F (big_mem.1 hc).1 a
  rw [h1, big_sum (s := s) (fun i => if (i == a) = true then (if remB t s p i then 1 else 0) else 0) (fun i hi h => by
    have := phi_single (m := 3) F hi h
    simp only [phiN] at this
    have h2 : (if remB t s p i then 1 else 0) = 0 := by simpa using this
    rw [h2]; simp)]
  unfold remL
  rw [count_sum]
  have : ∀ l : List Nat, (l.map fun i => if (i == a) = true then (if remB t s p i then 1 else 0) else 0).sum = ((l.filter fun i => remB t s p i).map fun x => if (x == a) = true then 1 else 0).sum := by
    intro l
    induction l with
    | nil => rfl
    | cons x l ih =>
      rw [List.map_cons, List.sum_cons, ih]
      by_cases h : remB t s p x = true
      · simp [h]
      · simp [h]
  exact this _
theorem rows_asc : ∀ (rows : List Row) (n : Nat) (b : Int), rowsCode n b rows = 0 → (∀ r ∈ rows, b < r.ID) ∧ rows.Pairwise fun x y => x.ID < y.ID
  | [], _, _, _ => by simp
  | r :: rows, n, b, h => by
    simp only [rowsCode] at h
    by_cases h1 : r.ID ≤ b
    · rw [if_pos h1] at h; cases h
    · rw [if_neg h1] at h
      by_cases h2 : r.Values.length = n
      · by_cases h3 : r.Values.all valid = true
        · simp only [h2, h3, ne_eq, not_true_eq_false, if_false, if_true, Bool.not_true, Bool.false_eq_true, Bool.true_eq_false] at h
          obtain ⟨p1, p2⟩ := rows_asc rows n _ h
          refine ⟨fun x hx => ?_, List.pairwise_cons.2 ⟨p1, p2⟩⟩
          rcases List.mem_cons.1 hx with rfl | hx
          · omega
          · have := p1 x hx; omega
        · simp [h2, h3] at h
      · simp [h2] at h
theorem idN_asc {t : Table} (G : GT t) {i k : Nat} (h : i < k) (hk : k < t.Rows.length) : idN t i < idN t k := by
  have := (rows_asc _ _ _ G.code).2
  have h2 := List.pairwise_iff_getElem.1 this i k (by omega) hk h
  have e1 : rowN t i = t.Rows[i] := by simp [rowN, List.getD, List.getElem?_eq_getElem (show i < t.Rows.length by omega)]
  have e2 : rowN t k = t.Rows[k] := by simp [rowN, List.getD, List.getElem?_eq_getElem hk]
  unfold idN
  rw [e1, e2]; exact h2
theorem remIDs_sorted {t : Table} (G : GT t) (s p : Nat) : (remIDs t s p).Pairwise (· < ·) := by
  unfold remIDs
  rw [List.pairwise_map]
  have h : (remL t s p).Pairwise (· < ·) := List.Pairwise.sublist List.filter_sublist List.pairwise_lt_range
  have h2 : ∀ i ∈ remL t s p, i < t.Rows.length := fun i hi => by
    have := (List.mem_filter.1 hi).1
    simpa using this
  exact List.Pairwise.imp_of_mem (fun {a b} ha hb hab => idN_asc G hab (h2 b hb)) h
theorem sorted_unique {l l' : List Int} (hp : l.Perm l') (h1 : l.Pairwise (· ≤ ·)) (h2 : l'.Pairwise (· < ·)) : l = l' :=
  List.Perm.eq_of_pairwise (le := (· ≤ ·)) (fun a b _ _ h1 h2 => Int.le_antisymm h1 h2) h1 (h2.imp fun {a b} h => Int.le_of_lt h) hp
theorem Removal_eq (t : Table) (ht : okTable t) (f : FD) (h : okFD f) : approx_Removal t f = some (remR t f) := by
  unfold remR
  by_cases he : fdErr t f = 0
  · obtain ⟨h0, hi⟩ := fdErr_zero he
    have G := gt_of ht h0
    obtain ⟨s, r, rfl, hs, hr⟩ := fd_of h
    obtain ⟨hs', hr'⟩ := lt_in hi
    have hn := G.rows
    have hperm : ((outG t s (s ||| r)).map (idN t)).Perm (remIDs t s (s ||| r)) := (outG_perm (finerR_or G hs' hr')).map _
    have hlen : (remIDs t s (s ||| r)).length ≤ 1000 := by
      unfold remIDs remL
      have := List.length_filter_le (fun i => remB t s (s ||| r) i) (List.range t.Rows.length)
      rw [List.length_range] at this
      rw [List.length_map]; omega
    have hs : srtIF ((outG t s (s ||| r)).map (idN t)) = some (remIDs t s (s ||| r)) := by
      unfold srtIF
      rw [if_pos (by rw [hperm.length_eq]; omega)]
      exact congrArg some (sorted_unique ((srtI_perm _).trans hperm) (srtI_sorted _) (remIDs_sorted G _ _))
    simp only [approx_Removal, known_eq t (tabOk_of ht) _ h, Option.bind_some, he, bne_self_eq_false, Bool.false_eq_true, if_false, if_true, Int.toNat_natCast, groups_fd G hs' hr', rem_l13 hn, hs]
  · have hne : (fdErr t f != 0) = true := by simp [he]
    simp only [approx_Removal, known_eq t (tabOk_of ht) _ h, Option.bind_some, hne, if_true, if_neg he]
end Go.Proofs.YtjcdclpfeflfkaaGreatDoor
/- Approx: the chapter's example. -/
set_option linter.unusedVariables false
set_option linter.unusedSimpArgs false
namespace Go.Proofs.YtjcdclpfeflfkaaGreatDoor
open Go Go.Ab

def ex32 : Table := ⟨[114], [[97], [98]], [⟨1, [⟨1, 1, []⟩, ⟨1, 1, []⟩]⟩, ⟨2, [⟨1, 1, []⟩, ⟨1, 1, []⟩]⟩, ⟨3, [⟨1, 1, []⟩, ⟨1, 2, []⟩]⟩, ⟨4, [⟨1, 2, []⟩, ⟨2, 0, [98]⟩]⟩]⟩
theorem v32a : errA ex32 ⟨1, 2⟩ 1 = (⟨1, 4⟩, 0) := by decide +kernel
theorem v32b : errA ex32 ⟨1, 2⟩ 2 = (⟨3, 4⟩, 0) := by decide +kernel
theorem v32c : errA ex32 ⟨1, 2⟩ 3 = (⟨1, 4⟩, 0) := by decide +kernel
theorem v32d : remR ex32 ⟨1, 2⟩ = ([3], 0) := by decide +kernel
theorem ofV_5 : ofV 5 = ⟨2, 0, [98]⟩ := by simp [ofV, drossref01_Of]
theorem ok_ex32 : okTable ex32 := by
  refine ⟨by show okS _; unfold okS; decide, ⟨by decide, ?_⟩, ⟨by decide, ?_⟩⟩
  · intro x hx
    have : x = [97] ∨ x = [98] := by simpa [ex32] using hx
    rcases this with rfl | rfl <;> (unfold okS; decide)
  · intro x hx
    have hx' : x = ⟨1, [⟨1, 1, []⟩, ⟨1, 1, []⟩]⟩ ∨ x = ⟨2, [⟨1, 1, []⟩, ⟨1, 1, []⟩]⟩ ∨ x = ⟨3, [⟨1, 1, []⟩, ⟨1, 2, []⟩]⟩ ∨ x = ⟨4, [⟨1, 2, []⟩, ⟨2, 0, [98]⟩]⟩ := by simpa [ex32] using hx
    have hv : ∀ v : Value, v = ⟨1, 1, []⟩ ∨ v = ⟨1, 2, []⟩ ∨ v = ⟨2, 0, [98]⟩ → okValue v := by
      rintro v (rfl | rfl | rfl)
      · exact ⟨by show Lit.wf _ = true; decide, by show Lit.wf _ = true; decide, by show okS _; unfold okS; decide⟩
      · exact ⟨by show Lit.wf _ = true; decide, by show Lit.wf _ = true; decide, by show okS _; unfold okS; decide⟩
      · exact ⟨by show Lit.wf _ = true; decide, by show Lit.wf _ = true; decide, by show okS _; unfold okS; decide⟩
    rcases hx' with rfl | rfl | rfl | rfl
    all_goals
      refine ⟨by show Lit.wf _ = true; decide, ⟨by decide, fun v h => hv v ?_⟩⟩
      simp only [List.mem_cons, List.not_mem_nil, or_false] at h
      rcases h with rfl | rfl <;> simp
theorem example32_eq : drosslaw32_example = some ex32 := by
  have h := LoopF_foldl (List.range 4) (fun (o : List Row) i => (o, i)) (drosslaw32_example_l1 [[1, 1], [1, 1], [1, 2], [2, 5]]) (fun o (k : Nat) => o ++ [⟨(k : Int) + 1, ((([[1, 1], [1, 1], [1, 2], [2, 5]] : List (List Int)).getD k []).map ofV)⟩]) id (fun k o => o.length = k) (b0 := []) (s0 := ([], 0)) rfl rfl
    (fun k o z hz hk hI => by
      obtain ⟨rfl, hk3⟩ := range_at hz
      refine ⟨?_, by simp [hI]⟩
      have hi : ([[1, 1], [1, 1], [1, 2], [2, 5]] : List (List Int))[z]? = some (([[1, 1], [1, 1], [1, 2], [2, 5]] : List (List Int)).getD z []) := by
        have : z < ([[1, 1], [1, 1], [1, 2], [2, 5]] : List (List Int)).length := hk3
        simp [List.getD, List.getElem?_eq_getElem this]
      have hl : (([[1, 1], [1, 1], [1, 2], [2, 5]] : List (List Int)).getD z []).length ≤ 1048576 := by
        rcases z with _ | _ | _ | _ | z
        · simp
        · simp
        · simp
        · simp
        · omega
      have hw : IntKind.i64.wrap ((z : Int) + 1) = (z : Int) + 1 := by rw [wrap_i64 (by omega) (by omega)]
      simp only [drosslaw32_example_l1, if_pos (show (z : Int) < 4 by omega), idx_get hi, Option.bind_some, List01_eq _ hl, room_le (show o.length + 1 ≤ 1073741824 by omega) (show 32 ≤ 65536 by omega), if_true, hw]
      rfl)
    (fun o _ => by simp [drosslaw32_example_l1])
  simp only [drosslaw32_example, Option.bind_some, h, id]
  simp only [ex32, List.range, List.range.loop, List.foldl_cons, List.foldl_nil, List.getD, List.getElem?_cons_zero, List.getElem?_cons_succ, Option.getD_some, List.map_cons, List.map_nil, ofV_1, ofV_2, ofV_5, List.nil_append, List.cons_append]
  rfl
theorem ok_f12 : okFD ⟨1, 2⟩ := ⟨by show Lit.wf _ = true; decide, by show Lit.wf _ = true; decide⟩
theorem awake32 : drosslaw32_awake = some true := by
  have h1 : ratioN 1 4 = ⟨1, 4⟩ := by decide +kernel
  have h3 : ratioN 3 4 = ⟨3, 4⟩ := by decide +kernel
  have r1 : drossref04_Of 1 4 = some ⟨1, 4⟩ := by rw [← h1]; exact ref_Of_nat 1 4 (by omega) (by omega) (by omega)
  have r3 : drossref04_Of 3 4 = some ⟨3, 4⟩ := by rw [← h3]; exact ref_Of_nat 3 4 (by omega) (by omega) (by omega)
  have hid := IDs_eq [3] [3] (by simp)
  simp only [drosslaw32_awake, example32_eq, Option.bind_some, Error_eq ex32 ok_ex32 _ ok_f12, Removal_eq ex32 ok_ex32 _ ok_f12, v32a, v32b, v32c, v32d, r1, r3, beq_self_eq_true, Bool.and_self, if_true, hid, decide_true]
end Go.Proofs.YtjcdclpfeflfkaaGreatDoor
/- Tables of recipes; kept rows. -/
set_option linter.unusedVariables false
set_option linter.unusedSimpArgs false
namespace Go.Proofs.YtjcdclpfeflfkaaGreatDoor
open Go Go.Ab

theorem Good.gt {t : Table} (G : Good t) (h : okTable t) : GT t := gt_of h G.err
/-! ### some rows of a table -/
def subT (t : Table) (sel : List Nat) : Table := ⟨t.Name, t.Attrs, sel.map (rowN t)⟩
def satL (t : Table) (s r : Nat) (sel : List Nat) : Bool := allFrom (fun i x => (sel.take i).all fun y => !(agN t s x y) || agN t r x y) 0 sel
theorem Sat_eq {t : Table} (G : GT t) {s r : Nat} (hs : s < 2 ^ t.Attrs.length) (hr : r < 2 ^ t.Attrs.length) (sel : List Nat) (hsel : ∀ i ∈ sel, i < t.Rows.length) (hl : sel.length ≤ 1000000) :
    drossref08_Satisfies (subT t sel) ⟨(s : Int), (r : Int)⟩ = some (satL t s r sel) := by
  have hrow : ∀ (k : Nat) (y : Nat), sel[k]? = some y → (subT t sel).Rows[k]? = some (rowN t y) := by
    intro k y h
    simp [subT, h]
  have hlen : (subT t sel).Rows.length = sel.length := by simp [subT]
  have hin : ∀ (i x : Nat), sel[i]? = some x → i < sel.length → LoopF (drossref08_Satisfies_l3 (subT t sel) ⟨(s : Int), (r : Int)⟩ (i : Int)) 0 = some (if ((sel.take i).all fun y => !(agN t s x y) || agN t r x y) = true then .inl () else .inr false) := by
    intro i x hx hi
    have htl : (sel.take i).length = i := by rw [List.length_take]; omega
    refine LoopF_all (sel.take i) _ _ _ (fun k y hy hk hp => ?_) (fun k y hy hp => ?_) (by rw [htl]; simp [drossref08_Satisfies_l3])
    · have hki : k < i := by omega
      have hy' : sel[k]? = some y := by rw [List.getElem?_take, if_pos hki] at hy; exact hy
      have hw := wrap_nat (show k < 4611686018427387904 by omega)
      have a1 := Agree_agN G hs (hsel x (List.mem_of_getElem? hx)) (hsel y (List.mem_of_getElem? hy'))
      have a2 := Agree_agN G hr (hsel x (List.mem_of_getElem? hx)) (hsel y (List.mem_of_getElem? hy'))
      simp only [drossref08_Satisfies_l3, if_pos (show (k : Int) < (i : Int) by omega), idx_get (hrow i x hx), idx_get (hrow k y hy'), Option.bind_some, a1, a2, hw]
      by_cases h1 : agN t s x y = true
      · have h2 : agN t r x y = true := by simpa [h1] using hp
        simp only [h1, h2, if_true]
      · simp only [h1, if_false, Bool.false_eq_true]
    · have hki : k < i := by have := lt_of_get hy; omega
      have hy' : sel[k]? = some y := by rw [List.getElem?_take, if_pos hki] at hy; exact hy
      have a1 := Agree_agN G hs (hsel x (List.mem_of_getElem? hx)) (hsel y (List.mem_of_getElem? hy'))
      have a2 := Agree_agN G hr (hsel x (List.mem_of_getElem? hx)) (hsel y (List.mem_of_getElem? hy'))
      have h12 : agN t s x y = true ∧ agN t r x y = false := by simpa using hp
      simp only [drossref08_Satisfies_l3, if_pos (show (k : Int) < (i : Int) by omega), idx_get (hrow i x hx), idx_get (hrow k y hy'), Option.bind_some, a1, a2, h12.1, h12.2, if_true, Bool.false_eq_true, if_false]
  have hout := LoopF_allk sel (drossref08_Satisfies_l4 (subT t sel) ⟨(s : Int), (r : Int)⟩) (fun i x => (sel.take i).all fun y => !(agN t s x y) || agN t r x y) false
    (fun i x hx hi hp => by
      have hw := wrap_nat (show i < 4611686018427387904 by omega)
      simp only [drossref08_Satisfies_l4, hlen, if_pos (show (i : Int) < (sel.length : Int) by omega), hin i x hx hi, hp, if_true, Option.bind_some, hw])
    (fun i x hx hp => by
      have hi := lt_of_get hx
      simp only [drossref08_Satisfies_l4, hlen, if_pos (show (i : Int) < (sel.length : Int) by omega), hin i x hx hi, hp, Bool.false_eq_true, if_false, Option.bind_some])
    (by simp [drossref08_Satisfies_l4, hlen]) sel 0 rfl (Nat.zero_le _)
  simp only [Int.natCast_zero] at hout
  simp only [drossref08_Satisfies, hout, Option.bind_some]
  unfold satL
  cases allFrom (fun i x => (sel.take i).all fun y => !(agN t s x y) || agN t r x y) 0 sel <;> rfl
theorem satL_iff (t : Table) (s r : Nat) (sel : List Nat) : satL t s r sel = true ↔ ∀ x ∈ sel, ∀ y ∈ sel, agN t s x y = true → agN t r x y = true := by
  unfold satL
  constructor
  · intro h x hx y hy ha
    obtain ⟨i, hi⟩ := List.mem_iff_getElem?.1 hx
    obtain ⟨k, hk⟩ := List.mem_iff_getElem?.1 hy
    have key : ∀ (i k x y : Nat), sel[i]? = some x → sel[k]? = some y → k < i → agN t s x y = true → agN t r x y = true := by
      intro i k x y hi hk hki ha
      have := allFrom_get h hi
      rw [Nat.zero_add, List.all_eq_true] at this
      have hy : y ∈ sel.take i := by
        rw [List.mem_iff_getElem?]
        exact ⟨k, by rw [List.getElem?_take, if_pos hki]; exact hk⟩
      have := this y hy
      simpa [ha] using this
    rcases Nat.lt_trichotomy k i with h1 | h1 | h1
    · exact key i k x y hi hk h1 ha
    · subst h1
      rw [hi] at hk
      obtain rfl := Option.some.inj hk
      exact agN_refl t r x
    · rw [agN_comm]
      exact key k i y x hk hi h1 (by rw [agN_comm]; exact ha)
  · intro h
    have : ∀ (l : List Nat) (k : Nat), (∀ x ∈ l, x ∈ sel) → allFrom (fun i x => (sel.take i).all fun y => !(agN t s x y) || agN t r x y) k l = true := by
      intro l
      induction l with
      | nil => intro k _; rfl
      | cons x l ih =>
        intro k hx
        simp only [allFrom, Bool.and_eq_true]
        refine ⟨?_, ih (k + 1) fun y hy => hx y (by simp [hy])⟩
        rw [List.all_eq_true]
        intro y hy
        have := h x (hx x (by simp)) y (List.mem_of_mem_take hy)
        by_cases ha : agN t s x y = true
        · simp [ha, this ha]
        · simp [ha]
    exact this sel 0 fun x hx => hx
theorem keepR_sub {t : Table} (G : GT t) (p : Nat → Bool) : drossref03_Keep t (((List.range t.Rows.length).filter p).map (idN t)) = some (subT t ((List.range t.Rows.length).filter p)) := by
  have hn := G.rows
  have ha := G.attrs
  have hll : (((List.range t.Rows.length).filter p).map (idN t)).length ≤ 1000 := by
    rw [List.length_map]
    have := List.length_filter_le p (List.range t.Rows.length)
    rw [List.length_range] at this; omega
  generalize hL : ((List.range t.Rows.length).filter p).map (idN t) = L at hll
  have hv : ∀ r ∈ t.Rows, r.Values.length ≤ 1048576 := fun r hr => by
    have := (rows_good _ _ _ G.code r hr).1; omega
  simp only [drossref03_Keep]
  rw [keep_loop t.Rows (fun r => decide (r.ID ∈ L)) (fun k out x hx ho => by
    have hk := lt_of_get hx
    have r2 : roomB (out.length + 1) 32 = true := room_le (by omega) (by omega)
    simp only [drossref03_Keep_l1, if_pos (lt_true hx), idx_get hx, Option.bind_some, Has_eq L x.ID (by omega), r2, if_true, wrap_succ hk (show t.Rows.length ≤ 4611686018427387904 by omega)]
    by_cases hm : x.ID ∈ L <;> simp [hm]) (fun out => by simp [drossref03_Keep_l1]) (by omega)]
  have hf : t.Rows.filter (fun r => decide (r.ID ∈ L)) = ((List.range t.Rows.length).filter p).map (rowN t) := by
    have e1 : t.Rows = (List.range t.Rows.length).map (rowN t) := by
      apply List.ext_getElem?
      intro j
      rw [List.getElem?_map]
      by_cases h : j < t.Rows.length
      · rw [List.getElem?_range h, rowN_get h]; rfl
      · rw [List.getElem?_eq_none (by omega), List.getElem?_eq_none (by simp; omega)]; rfl
    conv => lhs; rw [e1]
    rw [List.filter_map]
    congr 1
    apply List.filter_congr
    intro i hi
    have hi' := List.mem_range.1 hi
    simp only [Function.comp_def]
    rw [Bool.eq_iff_iff, decide_eq_true_eq, ← hL, List.mem_map]
    constructor
    · rintro ⟨k, hk, e⟩
      have hk' := List.mem_range.1 (List.mem_filter.1 hk).1
      have : k = i := by
        rcases Nat.lt_trichotomy k i with h | h | h
        · have := idN_asc G h hi'; unfold idN at this e; omega
        · exact h
        · have := idN_asc G h hk'; unfold idN at this e; omega
      rw [← this]; exact (List.mem_filter.1 hk).2
    · intro hp
      exact ⟨i, List.mem_filter.2 ⟨hi, hp⟩, rfl⟩
  rw [hf]
  simp only [Option.bind_some]
  have hlen2 : (((List.range t.Rows.length).filter p).map (rowN t)).length ≤ 1048576 := by
    rw [List.length_map]
    have := List.length_filter_le p (List.range t.Rows.length)
    rw [List.length_range] at this; omega
  have hw := With_eq t (((List.range t.Rows.length).filter p).map (rowN t)) (by omega) hlen2 (fun r hr => by
    obtain ⟨i, hi, rfl⟩ := List.mem_map.1 hr
    exact hv _ (rowN_mem (List.mem_range.1 (List.mem_filter.1 hi).1)))
  rw [hw]; rfl
end Go.Proofs.YtjcdclpfeflfkaaGreatDoor
/- The removal takes the least number of rows. -/
set_option linter.unusedVariables false
set_option linter.unusedSimpArgs false
namespace Go.Proofs.YtjcdclpfeflfkaaGreatDoor
open Go Go.Ab

theorem bestRow_const {t : Table} {s p i k : Nat} (hi : i < t.Rows.length) (hk : k < t.Rows.length) (h : agN t s i k = true) : bestRow t s p i = bestRow t s p k := by
  obtain ⟨a1, a2, a3, a4⟩ := bestRow_spec (s := s) (p := p) hi
  obtain ⟨b1, b2, b3, b4⟩ := bestRow_spec (s := s) (p := p) hk
  generalize bestRow t s p i = a at *
  generalize bestRow t s p k = b at *
  have hkb : agN t s i b = true := agN_trans h b2
  have hka : agN t s k a = true := agN_trans (agN_symm h) a2
  rcases Nat.lt_trichotomy a b with h1 | h1 | h1
  · have := b4 a h1 hka
    have := a3 b b1 hkb; omega
  · exact h1
  · have := a4 b h1 hkb
    have := b3 a a1 hka; omega
theorem stay_ok {t : Table} (G : GT t) {s r : Nat} (hs : s < 2 ^ t.Attrs.length) (hr : r < 2 ^ t.Attrs.length) : satL t s r ((List.range t.Rows.length).filter fun i => !remB t s (s ||| r) i) = true := by
  rw [satL_iff]
  intro x hx y hy ha
  obtain ⟨hx1, hx2⟩ := List.mem_filter.1 hx
  obtain ⟨hy1, hy2⟩ := List.mem_filter.1 hy
  have hxn := List.mem_range.1 hx1
  have hyn := List.mem_range.1 hy1
  unfold remB at hx2 hy2
  rw [Bool.not_not] at hx2 hy2
  rw [bestRow_const hxn hyn ha] at hx2
  have h := agN_trans (agN_symm hx2) hy2
  rw [agN_or G hs hr hxn hyn, Bool.and_eq_true] at h
  exact h.2
end Go.Proofs.YtjcdclpfeflfkaaGreatDoor
/- Blocking: Window. -/
set_option linter.unusedVariables false
set_option linter.unusedSimpArgs false
namespace Go.Proofs.YtjcdclpfeflfkaaGreatDoor
open Go Go.Ab

end Go.Proofs.YtjcdclpfeflfkaaGreatDoor
/- Blocking: the table of some strings, the examples. -/
set_option linter.unusedVariables false
set_option linter.unusedSimpArgs false
namespace Go.Ab
end Go.Ab
namespace Go.Proofs.YtjcdclpfeflfkaaGreatDoor
open Go Go.Ab

/-- the value that a string stands for -/
def valOf (x : Str) : Value := if x = [63] then ⟨0, 0, []⟩ else match x with
  | [c] => if 48 ≤ c.toNat ∧ c.toNat ≤ 57 then ⟨1, (c.toNat : Int) - 48, []⟩ else ⟨2, 0, x⟩
  | _ => ⟨2, 0, x⟩
def rowOf (k : Nat) (x : Str) : Row := ⟨1 + 2 * (k : Int), [valOf x]⟩
def rowsFrom : Nat → List Str → List Row
  | _, [] => []
  | k, x :: l => rowOf k x :: rowsFrom (k + 1) l
def tb (l : List Str) : Table := ⟨[114], [[97]], rowsFrom 0 l⟩
end Go.Proofs.YtjcdclpfeflfkaaGreatDoor
/- Sorting by insertion, for any order. -/
set_option linter.unusedVariables false
set_option linter.unusedSimpArgs false
namespace Go.Ab
open Go
end Go.Ab
/- Blocking: ascending lists of pairs; Union of both kinds. -/
set_option linter.unusedVariables false
set_option linter.unusedSimpArgs false
namespace Go.Ab
open Go
end Go.Ab
namespace Go.Proofs.YtjcdclpfeflfkaaGreatDoor
open Go Go.Ab
/-! ### Compact -/
/-! ### the reference -/
end Go.Proofs.YtjcdclpfeflfkaaGreatDoor
/- Blocking: the binary search, Missed of both kinds. -/
set_option linter.unusedVariables false
set_option linter.unusedSimpArgs false
namespace Go.Ab
open Go
/-- a binary search -/
theorem bsearch_loop {α : Type} (l : List α) (q : α → Bool) (B : Int × Int → Option (LS (Int × Int) Int)) (hl : l.length ≤ 1048576)
    (mono : ∀ (m n : Nat) x y, m ≤ n → l[m]? = some x → l[n]? = some y → q y = true → q x = true)
    (hB : ∀ (i j : Nat) x, i < j → j ≤ l.length → l[(i + j) / 2]? = some x → B ((i : Int), (j : Int)) = some (.next (if q x = true then ((((i + j) / 2 + 1 : Nat) : Int), (j : Int)) else ((i : Int), (((i + j) / 2 : Nat) : Int)))))
    (hE : ∀ i : Nat, B ((i : Int), (i : Int)) = some (.done (i : Int))) :
    ∀ (d i j : Nat), j - i = d → i ≤ j → j ≤ l.length → (∀ (m : Nat) x, m < i → l[m]? = some x → q x = true) → (∀ (m : Nat) x, j ≤ m → l[m]? = some x → q x = false) →
      ∃ k : Nat, LoopF B ((i : Int), (j : Int)) = some (k : Int) ∧ k ≤ l.length ∧ (∀ (m : Nat) x, m < k → l[m]? = some x → q x = true) ∧ (∀ (m : Nat) x, k ≤ m → l[m]? = some x → q x = false) := by
  intro d
  induction d using Nat.strongRecOn with
  | ind d ih =>
    intro i j hd hij hj h1 h2
    by_cases he : i = j
    · subst he
      exact ⟨i, Loop_done (hE i), hj, h1, h2⟩
    · have hlt : (i + j) / 2 < l.length := by omega
      have hx : l[(i + j) / 2]? = some l[(i + j) / 2] := List.getElem?_eq_getElem hlt
      have hs := hB i j _ (by omega) hj hx
      generalize l[(i + j) / 2] = x at *
      cases hq : q x with
      | true =>
        rw [if_pos hq] at hs
        obtain ⟨k, e1, e2⟩ := ih (j - ((i + j) / 2 + 1)) (by omega) ((i + j) / 2 + 1) j rfl (by omega) hj (fun m y hm hy => mono m ((i + j) / 2) y x (by omega) hy hx hq) h2
        exact ⟨k, by rw [Loop_next hs]; exact e1, e2⟩
      | false =>
        rw [if_neg (by rw [hq]; simp)] at hs
        obtain ⟨k, e1, e2⟩ := ih ((i + j) / 2 - i) (by omega) i ((i + j) / 2) rfl (by omega) (by omega) h1 (fun m y hm hy => by
          cases hc : q y with
          | false => rfl
          | true => have := mono ((i + j) / 2) m x y hm hx hy hc; rw [hq] at this; cases this)
        exact ⟨k, by rw [Loop_next hs]; exact e1, e2⟩
theorem half_eq (i j : Nat) (h : i + j ≤ 4611686018427387904) : IntKind.i64.wrap (Int.fdiv (IntKind.u64.wrap (IntKind.i64.wrap ((i : Int) + (j : Int)))) (2 ^ (min 1 64))) = (((i + j) / 2 : Nat) : Int) := by
  have e : IntKind.i64.wrap ((i : Int) + (j : Int)) = ((i + j : Nat) : Int) := by rw [wrap_i64 (by omega) (by omega)]; omega
  have e2 : IntKind.u64.wrap ((i + j : Nat) : Int) = ((i + j : Nat) : Int) := by
    show ((i + j : Nat) : Int) % 18446744073709551616 = _
    omega
  rw [e, e2]
  have e3 : Int.fdiv ((i + j : Nat) : Int) (2 ^ (min 1 64)) = (((i + j) / 2 : Nat) : Int) := (Int.ofNat_fdiv (i + j) 2).symm
  rw [e3, wrap_i64 (by omega) (by omega)]
end Go.Ab
namespace Go.Proofs.YtjcdclpfeflfkaaGreatDoor
open Go Go.Ab
end Go.Proofs.YtjcdclpfeflfkaaGreatDoor
/- The rows that are kept. -/
set_option linter.unusedVariables false
set_option linter.unusedSimpArgs false
namespace Go.Proofs.YtjcdclpfeflfkaaGreatDoor
open Go Go.Ab

theorem Less64_eq (x y : Int) : cmp_Less_int64 x y = some (decide (x < y)) := by
  have h : ∀ z : Int, cmp_isNaN_int64 z = some false := fun z => by simp [cmp_isNaN_int64]
  simp only [cmp_Less_int64, h, Option.bind_some, Bool.not_false, Bool.false_eq_true, if_false, if_true]
theorem Search_eq (l : List Int) (p : Int) (ha : l.Pairwise (· < ·)) (hl : l.length ≤ 1048576) : ∃ i : Nat, slices_BinarySearch_int64 l p = some ((i : Int), decide (p ∈ l)) := by
  have asc : ∀ (m n : Nat) x y, m < n → l[m]? = some x → l[n]? = some y → x < y := fun m n x y hmn hx hy => by
    obtain ⟨h1, rfl⟩ := List.getElem?_eq_some_iff.1 hx
    obtain ⟨h2, rfl⟩ := List.getElem?_eq_some_iff.1 hy
    exact List.pairwise_iff_getElem.1 ha m n h1 h2 hmn
  obtain ⟨k, e1, e2, e3, e4⟩ := bsearch_loop l (fun x => decide (x < p)) (slices_BinarySearch_int64_l1 l p) hl
    (fun m n x y hmn hx hy hq => by
      rw [decide_eq_true_eq] at hq ⊢
      rcases Nat.lt_or_ge m n with h | h
      · have := asc m n x y h hx hy; omega
      · have : m = n := by omega
        subst this
        rw [hx] at hy; cases hy; exact hq)
    (fun i j x hij hj hx => by
      have c : (i : Int) < (j : Int) := by omega
      simp only [slices_BinarySearch_int64_l1, if_pos c, half_eq i j (by omega), idx_get hx, Option.bind_some, Less64_eq, wrap_nat (show (i + j) / 2 < 4611686018427387904 by omega)]
      by_cases h : x < p <;> simp [h])
    (fun i => by simp [slices_BinarySearch_int64_l1]) _ 0 l.length rfl (Nat.zero_le _) (Nat.le_refl _) (fun m x hm => by omega) (fun m x hm hx => by have := lt_of_get hx; omega)
  refine ⟨k, ?_⟩
  simp only [Int.natCast_zero] at e1
  simp only [slices_BinarySearch_int64, e1, Option.bind_some]
  have hmem : ∀ x, l[k]? = some x → (p ∈ l ↔ x = p) := fun x hx => by
    constructor
    · intro hp
      obtain ⟨m, hm⟩ := List.mem_iff_getElem?.1 hp
      rcases Nat.lt_trichotomy m k with h | h | h
      · have := e3 m p h hm
        simp at this
      · subst h; rw [hx] at hm; cases hm; rfl
      · have h1 := asc k m x p h hx hm
        have h2 := e4 k x (Nat.le_refl _) hx
        simp at h2; omega
    · rintro rfl; exact List.mem_of_getElem? hx
  by_cases hk : k < l.length
  · have hx : l[k]? = some l[k] := List.getElem?_eq_getElem hk
    have hm := hmem _ hx
    generalize l[k] = x at *
    simp only [if_pos (show ((k : Int) < (l.length : Int)) by omega), idx_get hx, Option.bind_some, slices_isNaN_int64]
    by_cases hc : x = p
    · have : (x == p) = true := by simp [hc]
      rw [if_pos this]
      simp [hm.2 hc]
    · have : ¬ (x == p) = true := by simp [hc]
      rw [if_neg this]
      simp [hc, hm]
  · have : ¬ p ∈ l := by
      intro hp
      obtain ⟨m, hm⟩ := List.mem_iff_getElem?.1 hp
      have := e3 m p (by have := lt_of_get hm; omega) hm
      simp at this
    simp only [if_neg (show ¬ ((k : Int) < (l.length : Int)) by omega)]
    simp [this]
/-- the rows that stay -/
def stayL (t : Table) (s p : Nat) : List Nat := (List.range t.Rows.length).filter fun i => !remB t s p i
theorem idN_inj {t : Table} (G : GT t) {i k : Nat} (hi : i < t.Rows.length) (hk : k < t.Rows.length) (h : idN t i = idN t k) : i = k := by
  rcases Nat.lt_trichotomy i k with h' | h' | h'
  · have := idN_asc G h' hk; omega
  · exact h'
  · have := idN_asc G h' hi; omega
theorem remIDs_mem {t : Table} (G : GT t) (s p : Nat) {i : Nat} (hi : i < t.Rows.length) : idN t i ∈ remIDs t s p ↔ remB t s p i = true := by
  unfold remIDs remL
  rw [List.mem_map]
  constructor
  · rintro ⟨k, hk, e⟩
    obtain ⟨h1, h2⟩ := List.mem_filter.1 hk
    have := idN_inj G (List.mem_range.1 h1) hi e
    rw [← this]; exact h2
  · intro h
    exact ⟨i, List.mem_filter.2 ⟨List.mem_range.2 hi, h⟩, rfl⟩
theorem remIDs_len {t : Table} (G : GT t) (s p : Nat) : (remIDs t s p).length ≤ 1000 := by
  have hn := G.rows
  unfold remIDs remL
  have := List.length_filter_le (fun i => remB t s p i) (List.range t.Rows.length)
  rw [List.length_range] at this
  rw [List.length_map]; omega
theorem stay_loop {t : Table} (G : GT t) (s p : Nat) (B : List Int × Int → Option (LS (List Int × Int) (List Int)))
    (hB : ∀ (k : Nat) (o : List Int), k < t.Rows.length → o.length ≤ 1000 → B (o, (k : Int)) = some (.next (if (!remB t s p k) = true then o ++ [idN t k] else o, ((k + 1 : Nat) : Int))))
    (hE : ∀ o, B (o, (t.Rows.length : Int)) = some (.done o)) : LoopF B ([], 0) = some ((stayL t s p).map (idN t)) := by
  have hn := G.rows
  have h := LoopF_foldl (List.range t.Rows.length) (fun (o : List Int) k => (o, k)) B (fun o i => if (!remB t s p i) = true then o ++ [idN t i] else o) id (fun k o => o.length ≤ k) (b0 := []) (s0 := ([], 0)) rfl (by simp)
    (fun k o x hx hk hI => by
      obtain ⟨rfl, hk'⟩ := range_at hx
      refine ⟨hB x o hk' (by omega), ?_⟩
      split
      · rw [List.length_append]; simp; omega
      · omega)
    (fun o _ => by rw [List.length_range]; exact hE o)
  rw [h, foldl_keepM]; rfl
theorem kept_p {t : Table} (G : GT t) (s p : Nat) : LoopF (approx_Kept_l1 t (remIDs t s p, 0)) ([], 0) = some ((stayL t s p).map (idN t)) := by
  have hn := G.rows
  refine stay_loop G s p _ (fun k o hk ho => ?_) (fun o => by simp [approx_Kept_l1])
  obtain ⟨i, hi⟩ := Search_eq (remIDs t s p) (idN t k) (remIDs_sorted G s p) (by have := remIDs_len G s p; omega)
  have hi' : slices_BinarySearch_int64 (remIDs t s p) (rowN t k).ID = some ((i : Int), decide (idN t k ∈ remIDs t s p)) := hi
  have hr : roomB (o.length + 1) 8 = true := room_le (by omega) (by omega)
  simp only [approx_Kept_l1, if_pos (show (k : Int) < (t.Rows.length : Int) by omega), idx_get (rowN_get hk), Option.bind_some, hi', hr, if_true, wrap_nat (show k < 4611686018427387904 by omega)]
  rw [show decide (idN t k ∈ remIDs t s p) = remB t s p k by rw [Bool.eq_iff_iff, decide_eq_true_eq, remIDs_mem G s p hk]]
  cases hc : remB t s p k
  · simp only [Bool.false_eq_true, if_false, Bool.not_false, if_true]; rfl
  · simp only [if_true, Bool.not_true, Bool.false_eq_true, if_false]
theorem kept_r {t : Table} (G : GT t) (s p : Nat) : LoopF (drossref32_Kept_l1 t (remIDs t s p, 0)) ([], 0) = some ((stayL t s p).map (idN t)) := by
  have hn := G.rows
  refine stay_loop G s p _ (fun k o hk ho => ?_) (fun o => by simp [drossref32_Kept_l1])
  have hi' : drossref03_Has (remIDs t s p) (rowN t k).ID = some (decide (idN t k ∈ remIDs t s p)) := Has_eq _ _ (by have := remIDs_len G s p; omega)
  have hr : roomB (o.length + 1) 8 = true := room_le (by omega) (by omega)
  simp only [drossref32_Kept_l1, if_pos (show (k : Int) < (t.Rows.length : Int) by omega), idx_get (rowN_get hk), Option.bind_some, hi', hr, if_true, wrap_nat (show k < 4611686018427387904 by omega)]
  rw [show decide (idN t k ∈ remIDs t s p) = remB t s p k by rw [Bool.eq_iff_iff, decide_eq_true_eq, remIDs_mem G s p hk]]
  cases hc : remB t s p k
  · simp only [Bool.false_eq_true, if_false, Bool.not_false, if_true]; rfl
  · simp only [if_true, Bool.not_true, Bool.false_eq_true, if_false]
def keptR (t : Table) (f : FD) : Table × Int := if fdErr t f = 0 then (subT t (stayL t f.Lhs.toNat (f.Lhs.toNat ||| f.Rhs.toNat)), 0) else (⟨[], [], []⟩, fdErr t f)
theorem Kept_eq (t : Table) (ht : okTable t) (f : FD) (h : okFD f) : approx_Kept t f = some (keptR t f) ∧ drossref32_Kept t f = some (keptR t f) := by
  have e1 := Removal_eq t ht f h
  have e2 := ref_Removal_eq t ht f h
  unfold remR at e1 e2
  unfold keptR
  by_cases he : fdErr t f = 0
  · obtain ⟨h0, hi⟩ := fdErr_zero he
    have G := gt_of ht h0
    have hn := G.rows
    have ha := G.attrs
    obtain ⟨s, r, rfl, hs, hr⟩ := fd_of h
    obtain ⟨hs', hr'⟩ := lt_in hi
    rw [if_pos he] at e1 e2 ⊢
    simp only [Int.toNat_natCast] at e1 e2 ⊢
    have hll : ((stayL t s (s ||| r)).map (idN t)).length ≤ 1000 := by
      unfold stayL
      rw [List.length_map]
      have := List.length_filter_le (fun i => !remB t s (s ||| r) i) (List.range t.Rows.length)
      rw [List.length_range] at this; omega
    have hv : ∀ r ∈ t.Rows, r.Values.length ≤ 1048576 := fun r hr => by
      have := (rows_good _ _ _ G.code r hr).1; omega
    obtain ⟨k1, k2⟩ := Keep_eq t ((stayL t s (s ||| r)).map (idN t)) (by omega) (by omega) hv (by omega)
    have k3 := keepR_sub G (fun i => !remB t s (s ||| r) i)
    have k4 : drossref03_Keep t ((stayL t s (s ||| r)).map (idN t)) = some (subT t (stayL t s (s ||| r))) := k3
    rw [k2] at k4
    rw [k4] at k1 k2
    constructor
    · simp only [approx_Kept, e1, Option.bind_some, bne_self_eq_false, Bool.false_eq_true, if_false, kept_p G, k1]
    · simp only [drossref32_Kept, e2, Option.bind_some, bne_self_eq_false, Bool.false_eq_true, if_false, kept_r G, k2]
  · have hne : (fdErr t f != 0) = true := by simp [he]
    rw [if_neg he] at e1 e2 ⊢
    constructor
    · simp only [approx_Kept, e1, Option.bind_some, hne, if_true]
    · simp only [drossref32_Kept, e2, Option.bind_some, hne, if_true]
end Go.Proofs.YtjcdclpfeflfkaaGreatDoor
/- ApproxRemoval. -/
set_option linter.unusedVariables false
set_option linter.unusedSimpArgs false
namespace Go.Proofs.YtjcdclpfeflfkaaGreatDoor
open Go Go.Ab

theorem ApproxRemoval_holds (t : Table) (fd : FD) (h1 : okTable t) (h2 : okFD fd) : drosslaw32_ApproxRemoval t fd = some true := by
  have e1 := Removal_eq t h1 fd h2
  have e2 := ref_Removal_eq t h1 fd h2
  obtain ⟨e3, e4⟩ := Kept_eq t h1 fd h2
  simp only [drosslaw32_ApproxRemoval, awake32, Option.bind_some, if_true, e1, e2, e3, e4, beq_self_eq_true]
  by_cases hc : decide ((t.Rows.length : Int) > 12) = true
  · simp [hc]
  · rw [if_neg hc]
    by_cases he : fdErr t fd = 0
    · obtain ⟨h0, hi⟩ := fdErr_zero he
      have G := gt_of h1 h0
      have hn := G.rows
      have ha := G.attrs
      obtain ⟨s, r, rfl, hs, hr⟩ := fd_of h2
      obtain ⟨hs', hr'⟩ := lt_in hi
      have hlen := remIDs_len G s (s ||| r)
      have i1 := IDs_eq (remIDs t s (s ||| r)) (remIDs t s (s ||| r)) (by omega)
      have hrows : ∀ x ∈ (subT t (stayL t s (s ||| r))).Rows, x ∈ t.Rows := by
        intro x hx
        obtain ⟨i, hi, rfl⟩ := List.mem_map.1 hx
        exact rowN_mem (List.mem_range.1 (List.mem_filter.1 hi).1)
      have hll : (stayL t s (s ||| r)).length ≤ 1000 := by
        unfold stayL
        have := List.length_filter_le (fun i => !remB t s (s ||| r) i) (List.range t.Rows.length)
        rw [List.length_range] at this; omega
      have i2 := Equal_eq (subT t (stayL t s (s ||| r))) (subT t (stayL t s (s ||| r))) (by show t.Attrs.length ≤ _; omega) (by simp only [subT, List.length_map]; omega)
        (fun x hx => by have := (rows_good _ _ _ G.code x (hrows x hx)).1; omega) (fun x hx v hv => G.ok.short x (hrows x hx) v hv)
      have i3 := Sat_eq G hs' hr' (stayL t s (s ||| r)) (fun i hi => List.mem_range.1 (List.mem_filter.1 hi).1) (by omega)
      have i4 : satL t s r (stayL t s (s ||| r)) = true := stay_ok G hs' hr'
      simp only [remR, keptR, he, if_true, Int.toNat_natCast, i1, i2, i3, i4, decide_true, Option.bind_some, bne_self_eq_false, Bool.false_eq_true, if_false]
    · have i1 := IDs_eq [] [] (by simp)
      have i2 := Equal_eq ⟨[], [], []⟩ ⟨[], [], []⟩ (by simp) (by simp) (by simp) (by simp)
      have hne : (fdErr t fd != 0) = true := by simp [he]
      simp only [remR, keptR, if_neg he, i1, i2, decide_true, Option.bind_some, hne, if_true]
end Go.Proofs.YtjcdclpfeflfkaaGreatDoor
