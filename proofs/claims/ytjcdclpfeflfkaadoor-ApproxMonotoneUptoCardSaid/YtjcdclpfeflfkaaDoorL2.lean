/- The Lean functions that the program's functions are lifted to, and the plain laws about them. -/
import Derived.Test.YtjcdclpfeflfkaaDoorL1
/- Tables of recipes; kept rows. -/
set_option linter.unusedVariables false
set_option linter.unusedSimpArgs false
namespace Go.Proofs.YtjcdclpfeflfkaaDoor
open Go Go.Ab

def vals12 : List Value := [⟨1, 0, []⟩, ⟨1, 1, []⟩, ⟨1, 2, []⟩, ⟨0, 0, []⟩, ⟨2, 0, [97]⟩, ⟨2, 0, [98]⟩, ⟨2, 0, []⟩, ⟨3, 1, []⟩, ⟨1, -1, []⟩, ⟨2, 0, [97, 98]⟩, ⟨3, 2, []⟩, ⟨1, 7, []⟩]
theorem Of_list (c : Int) : ∃ v, drossref01_Of c = some v ∧ v ∈ vals12 := by
  unfold drossref01_Of
  by_cases h0 : (Int.tmod c 12 == 0) = true
  · rw [if_pos h0]; exact ⟨_, rfl, by decide⟩
  rw [if_neg h0]
  by_cases h1 : (Int.tmod c 12 == 1) = true
  · rw [if_pos h1]; exact ⟨_, rfl, by decide⟩
  rw [if_neg h1]
  by_cases h2 : (Int.tmod c 12 == 2) = true
  · rw [if_pos h2]; exact ⟨_, rfl, by decide⟩
  rw [if_neg h2]
  by_cases h3 : (Int.tmod c 12 == 3) = true
  · rw [if_pos h3]; exact ⟨_, rfl, by decide⟩
  rw [if_neg h3]
  by_cases h4 : (Int.tmod c 12 == 4) = true
  · rw [if_pos h4]; exact ⟨_, rfl, by decide⟩
  rw [if_neg h4]
  by_cases h5 : (Int.tmod c 12 == 5) = true
  · rw [if_pos h5]; exact ⟨_, rfl, by decide⟩
  rw [if_neg h5]
  by_cases h6 : (Int.tmod c 12 == 6) = true
  · rw [if_pos h6]; exact ⟨_, rfl, by decide⟩
  rw [if_neg h6]
  by_cases h7 : (Int.tmod c 12 == 7) = true
  · rw [if_pos h7]; exact ⟨_, rfl, by decide⟩
  rw [if_neg h7]
  by_cases h8 : (Int.tmod c 12 == 8) = true
  · rw [if_pos h8]; exact ⟨_, rfl, by decide⟩
  rw [if_neg h8]
  by_cases h9 : (Int.tmod c 12 == 9) = true
  · rw [if_pos h9]; exact ⟨_, rfl, by decide⟩
  rw [if_neg h9]
  by_cases h10 : (Int.tmod c 12 == 10) = true
  · rw [if_pos h10]; exact ⟨_, rfl, by decide⟩
  rw [if_neg h10]
  exact ⟨_, rfl, by decide⟩
theorem ofV_ok (c : Int) : okValue (ofV c) := by
  obtain ⟨v, h1, h2⟩ := Of_list c
  have : ofV c = v := by unfold ofV; rw [h1]; rfl
  rw [this]
  have all : ∀ w ∈ vals12, ((Lit.int .i64 w.Kind).wf && (Lit.int .i64 w.Num).wf && decide (w.Str.length ≤ 1048576)) = true := by decide
  have := all v h2
  simp only [Bool.and_eq_true, decide_eq_true_eq] at this
  exact ⟨this.1.1, this.1.2, this.2⟩
theorem wf_i64 {n : Int} (h1 : -9223372036854775808 ≤ n) (h2 : n ≤ 9223372036854775807) : okI .i64 n := by
  show (decide (IntKind.min .i64 ≤ n) && decide (n ≤ IntKind.max .i64)) = true
  have e1 : IntKind.min .i64 = -9223372036854775808 := by decide
  have e2 : IntKind.max .i64 = 9223372036854775807 := by decide
  rw [e1, e2, Bool.and_eq_true, decide_eq_true_eq, decide_eq_true_eq]
  exact ⟨h1, h2⟩
theorem wf_u32 {n : Int} (h1 : 0 ≤ n) (h2 : n ≤ 4294967295) : okI .u32 n := by
  show (decide (IntKind.min .u32 ≤ n) && decide (n ≤ IntKind.max .u32)) = true
  have e1 : IntKind.min .u32 = 0 := by decide
  have e2 : IntKind.max .u32 = 4294967295 := by decide
  rw [e1, e2, Bool.and_eq_true, decide_eq_true_eq, decide_eq_true_eq]
  exact ⟨h1, h2⟩
theorem ok_fd {s r : Nat} (hs : s < 4294967296) (hr : r < 4294967296) : okFD ⟨(s : Int), (r : Int)⟩ := ⟨wf_u32 (by simp only; omega) (by simp only; omega), wf_u32 (by simp only; omega) (by simp only; omega)⟩
theorem wide_ok (x : Drossref03_Recipe) (n : Nat) (hn : n ≤ 8) (hr : x.Rows.length ≤ 8) : okTable (wide x n) := by
  refine ⟨by show okS [114]; unfold okS; decide, ⟨?_, fun s hs => ?_⟩, ⟨?_, fun r h => ?_⟩⟩
  · simp only [wide, List.length_take]; omega
  · have hm : s ∈ wnames := List.mem_of_mem_take hs
    have : ∀ w ∈ wnames, w.length ≤ 1048576 := by decide
    exact this s hm
  · simp only [wide, List.length_map, List.length_range]; omega
  · obtain ⟨i, hi, rfl⟩ := List.mem_map.1 h
    have hi' := List.mem_range.1 hi
    have hs : wstep x ≤ 3 := by unfold wstep; omega
    have hm : i * wstep x ≤ 8 * 3 := Nat.mul_le_mul (by omega) hs
    refine ⟨wf_i64 (by simp only [wrow]; omega) (by simp only [wrow]; omega), ?_, fun v hv => ?_⟩
    · simp only [wrow, List.length_map, List.length_range]; omega
    · obtain ⟨k, _, rfl⟩ := List.mem_map.1 hv
      exact ofV_ok _
theorem recipe32 (x : Drossref03_Recipe) (h : okDrossref03_Recipe x) : (∃ t, drossref03_Table x 8 = some (t, false)) ∨ ∃ t, drossref03_Table x 8 = some (t, true) ∧ okTable t ∧ Good t := by
  by_cases hr : x.Rows.length ≤ 8
  · exact .inr ⟨_, Table03_eq x h hr, wide_ok _ _ (by omega) hr, recipe_good x hr⟩
  · exact .inl (Table03_big x hr)
theorem Good.gt {t : Table} (G : Good t) (h : okTable t) : GT t := gt_of h G.err
/-- an argument, clipped to the attributes of a table -/
theorem clip_eq {n : Nat} (hn : n ≤ 16) {l : Int} (h : 0 ≤ l ∧ l ≤ 255) : IntKind.u32.wrap ((BitVec.ofInt 32 (IntKind.u32.wrap l) &&& (BitVec.ofInt 32 ((2 ^ n - 1 : Nat) : Int))).toNat : Int) = ((l.toNat % 2 ^ n : Nat) : Int) := by
  obtain ⟨k, rfl⟩ : ∃ k : Nat, l = (k : Int) := ⟨l.toNat, by omega⟩
  have hp : 2 ^ n < 4294967296 := pow_lt (by omega)
  rw [wrap_u32 (n := (k : Int)) (by omega) (by omega), w32_and (show k < 4294967296 by omega) (show 2 ^ n - 1 < 4294967296 by omega), Nat.and_two_pow_sub_one_eq_mod, Int.toNat_natCast]
theorem clip_lt (n : Nat) (k : Nat) : k % 2 ^ n < 2 ^ n := Nat.mod_lt _ (Nat.pow_pos (by omega))
theorem in_of {t : Table} {s r : Nat} (hs : s < 2 ^ t.Attrs.length) (hr : r < 2 ^ t.Attrs.length) : inB t ⟨(s : Int), (r : Int)⟩ = true := by
  simp only [inB, Int.toNat_natCast, decide_eq_true_eq]
  exact Nat.or_lt_two_pow hs hr
theorem fdErr_ok {t : Table} (G : GT t) {s r : Nat} (hs : s < 2 ^ t.Attrs.length) (hr : r < 2 ^ t.Attrs.length) : fdErr t ⟨(s : Int), (r : Int)⟩ = 0 := by
  unfold fdErr
  rw [if_pos G.err, if_pos (in_of hs hr)]

/-! ### some rows of a table -/
def satL (t : Table) (s r : Nat) (sel : List Nat) : Bool := allFrom (fun i x => (sel.take i).all fun y => !(agN t s x y) || agN t r x y) 0 sel
theorem satL_iff (t : Table) (s r : Nat) (sel : List Nat) : satL t s r sel = true ↔ ∀ x ∈ sel, ∀ y ∈ sel, agN t s x y = true → agN t r x y = true := by
  unfold satL
  constructor
  · intro h x hx y hy ha
    obtain ⟨i, hi⟩ := List.mem_iff_getElem?.1 hx
    obtain ⟨k, hk⟩ := List.mem_iff_getElem?.1 hy
    have key : ∀ (i k x y : Nat), sel[i]? = some x → sel[k]? = some y → k < i → agN t s x y = true → agN t r x y = true := by
      intro i k x y hi hk hki ha
      have := allFrom_get h hi
      rw [Nat.zero_add, List.all_eq_true] at this
      have hy : y ∈ sel.take i := by
        rw [List.mem_iff_getElem?]
        exact ⟨k, by rw [List.getElem?_take, if_pos hki]; exact hk⟩
      have := this y hy
      simpa [ha] using this
    rcases Nat.lt_trichotomy k i with h1 | h1 | h1
    · exact key i k x y hi hk h1 ha
    · subst h1
      rw [hi] at hk
      obtain rfl := Option.some.inj hk
      exact agN_refl t r x
    · rw [agN_comm]
      exact key k i y x hk hi h1 (by rw [agN_comm]; exact ha)
  · intro h
    have : ∀ (l : List Nat) (k : Nat), (∀ x ∈ l, x ∈ sel) → allFrom (fun i x => (sel.take i).all fun y => !(agN t s x y) || agN t r x y) k l = true := by
      intro l
      induction l with
      | nil => intro k _; rfl
      | cons x l ih =>
        intro k hx
        simp only [allFrom, Bool.and_eq_true]
        refine ⟨?_, ih (k + 1) fun y hy => hx y (by simp [hy])⟩
        rw [List.all_eq_true]
        intro y hy
        have := h x (hx x (by simp)) y (List.mem_of_mem_take hy)
        by_cases ha : agN t s x y = true
        · simp [ha, this ha]
        · simp [ha]
    exact this sel 0 fun x hx => hx
end Go.Proofs.YtjcdclpfeflfkaaDoor
/- The removal takes the least number of rows. -/
set_option linter.unusedVariables false
set_option linter.unusedSimpArgs false
namespace Go.Proofs.YtjcdclpfeflfkaaDoor
open Go Go.Ab

theorem bestRow_const {t : Table} {s p i k : Nat} (hi : i < t.Rows.length) (hk : k < t.Rows.length) (h : agN t s i k = true) : bestRow t s p i = bestRow t s p k := by
  obtain ⟨a1, a2, a3, a4⟩ := bestRow_spec (s := s) (p := p) hi
  obtain ⟨b1, b2, b3, b4⟩ := bestRow_spec (s := s) (p := p) hk
  generalize bestRow t s p i = a at *
  generalize bestRow t s p k = b at *
  have hkb : agN t s i b = true := agN_trans h b2
  have hka : agN t s k a = true := agN_trans (agN_symm h) a2
  rcases Nat.lt_trichotomy a b with h1 | h1 | h1
  · have := b4 a h1 hka
    have := a3 b b1 hkb; omega
  · exact h1
  · have := a4 b h1 hkb
    have := b3 a a1 hka; omega
/-- rows that satisfy the dependency are no more than those that stay -/
theorem kept_le {t : Table} (G : GT t) {s r : Nat} (hs : s < 2 ^ t.Attrs.length) (hr : r < 2 ^ t.Attrs.length) (q : Nat → Bool) (hq : satL t s r ((List.range t.Rows.length).filter q) = true) :
    (List.range t.Rows.length).countP q ≤ (List.range t.Rows.length).countP fun i => !remB t s (s ||| r) i := by
  have F := finerR_or G hs hr
  rw [satL_iff] at hq
  rw [← sum_ite, ← sum_ite]
  rw [← classes_sum (fun i => rkey s (rowN t i)) (fun x => if q x = true then 1 else 0), ← classes_sum (fun i => rkey s (rowN t i)) (fun x => if (!remB t s (s ||| r) x) = true then 1 else 0)]
  apply sum_le
  intro c hc
  have hc' : c ∈ clsN t s := hc
  rw [sum_ite, sum_ite]
  by_cases hk : ∃ k ∈ c, q k = true
  · obtain ⟨k, hkc, hqk⟩ := hk
    have hkn := (cls_self hc' hkc).1
    obtain ⟨b1, b2, b3, b4⟩ := bestRow_spec (s := s) (p := s ||| r) hkn
    have hbc : bestRow t s (s ||| r) k ∈ c := (cls_iff hc' hkc _).2 ⟨b1, agN_symm b2⟩
    have e1 := part_cnt F hc' hkc
    have e2 := part_cnt F hc' hbc
    have h1 := b3 k hkn (agN_refl t s k)
    have h2 : c.countP q ≤ c.countP fun y => agN t (s ||| r) y k := by
      apply List.countP_mono_left
      intro y hy hqy
      have hyn := (cls_self hc' hy).1
      have hag := ((cls_iff hc' hkc y).1 hy).2
      have := hq y (List.mem_filter.2 ⟨List.mem_range.2 hyn, hqy⟩) k (List.mem_filter.2 ⟨List.mem_range.2 hkn, hqk⟩) hag
      rw [agN_or G hs hr hyn hkn, hag, this]; rfl
    have h3 : (c.countP fun y => agN t (s ||| r) y (bestRow t s (s ||| r) k)) ≤ c.countP fun i => !remB t s (s ||| r) i := by
      apply List.countP_mono_left
      intro y hy hqy
      have hyn := (cls_self hc' hy).1
      have hag := ((cls_iff hc' hkc y).1 hy).2
      unfold remB
      rw [bestRow_const hyn hkn hag, Bool.not_not]
      exact agN_symm hqy
    rw [List.countP_eq_length_filter] at h2 h3
    rw [List.countP_eq_length_filter (p := fun y => agN t (s ||| r) y k)] at h2
    rw [e1] at h2
    rw [e2] at h3
    rw [← List.countP_eq_length_filter] at h2
    omega
  · have : c.countP q = 0 := by
      rw [List.countP_eq_zero]
      intro y hy hqy
      exact hk ⟨y, hy, hqy⟩
    omega
theorem stay_ok {t : Table} (G : GT t) {s r : Nat} (hs : s < 2 ^ t.Attrs.length) (hr : r < 2 ^ t.Attrs.length) : satL t s r ((List.range t.Rows.length).filter fun i => !remB t s (s ||| r) i) = true := by
  rw [satL_iff]
  intro x hx y hy ha
  obtain ⟨hx1, hx2⟩ := List.mem_filter.1 hx
  obtain ⟨hy1, hy2⟩ := List.mem_filter.1 hy
  have hxn := List.mem_range.1 hx1
  have hyn := List.mem_range.1 hy1
  unfold remB at hx2 hy2
  rw [Bool.not_not] at hx2 hy2
  rw [bestRow_const hxn hyn ha] at hx2
  have h := agN_trans (agN_symm hx2) hy2
  rw [agN_or G hs hr hxn hyn, Bool.and_eq_true] at h
  exact h.2
end Go.Proofs.YtjcdclpfeflfkaaDoor
/- Fractions compared; the errors of a dependency that holds. -/
set_option linter.unusedVariables false
set_option linter.unusedSimpArgs false
namespace Go.Proofs.YtjcdclpfeflfkaaDoor
open Go Go.Ab

theorem fdiv32 {x : Nat} (h : x < 4294967296) : Int.fdiv (x : Int) (2 ^ (min 32 64)) = 0 := by
  rw [show min 32 64 = 32 from rfl, fdiv_pow, Nat.div_eq_of_lt h]; rfl
theorem mask32 {x : Nat} (h : x < 4294967296) : (BitVec.ofInt 64 (x : Int) &&& (4294967295#64)).toNat = x := by
  rw [BitVec.toNat_and, BitVec.toNat_ofInt, show (4294967295#64).toNat = 2 ^ 32 - 1 from rfl, Nat.and_two_pow_sub_one_eq_mod]
  have : ((x : Int) % ((2 ^ 64 : Nat) : Int)).toNat = x := by
    rw [show ((2 ^ 64 : Nat) : Int) = 18446744073709551616 by decide]
    omega
  rw [this, show (2 : Nat) ^ 32 = 4294967296 from rfl]
  omega
theorem mul64_small {x y : Nat} (hx : x < 65536) (hy : y < 65536) : bits_Mul64 (x : Int) (y : Int) = some (0, ((x * y : Nat) : Int)) := by
  have hxy : x * y < 4294967296 := Nat.lt_of_le_of_lt (Nat.mul_le_mul (show x ≤ 65535 by omega) (show y ≤ 65535 by omega)) (by omega)
  have h1 := fdiv32 (show x < 4294967296 by omega)
  have h2 := fdiv32 (show y < 4294967296 by omega)
  have m1 := mask32 (show x < 4294967296 by omega)
  have m2 := mask32 (show y < 4294967296 by omega)
  have w1 : IntKind.u64.wrap (x : Int) = (x : Int) := wrap_u64 (by omega) (by omega)
  have w2 : IntKind.u64.wrap (y : Int) = (y : Int) := wrap_u64 (by omega) (by omega)
  have e : (x : Int) * (y : Int) = ((x * y : Nat) : Int) := by simp
  generalize hq : x * y = q at *
  have w3 : IntKind.u64.wrap ((q : Nat) : Int) = (q : Int) := wrap_u64 (by omega) (by omega)
  have w0 : IntKind.u64.wrap 0 = 0 := by decide
  have h3 := fdiv32 hxy
  have h0 : Int.fdiv 0 (2 ^ (min 32 64)) = 0 := by rw [Int.zero_fdiv]
  have m0 : (BitVec.ofInt 64 0 &&& (4294967295#64)).toNat = 0 := by decide
  simp only [bits_Mul64, h1, h2, m1, m2, w1, w2, e, w3, h3, Int.zero_mul, Int.mul_zero, Int.add_zero, w0, h0, m0, Int.natCast_zero]
theorem size_nat {m : Nat} (h : m < 4611686018427387904) : drossref04_size (m : Int) = some ⟨0, (m : Int)⟩ := by
  simp only [drossref04_size]
  rw [if_neg (by omega), wrap_u64 (by omega) (by omega)]
theorem cmp_nat {a b c d : Nat} (ha : a < 65536) (hb : b < 65536) (hc : c < 65536) (hd : d < 65536) (h : a * d ≤ c * b) : ∃ z, drossref04_Cmp ⟨(a : Int), (b : Int)⟩ ⟨(c : Int), (d : Int)⟩ = some z ∧ z ≤ 0 := by
  have e1 : decide ((a : Int) < 0) = false := by simp
  have e2 : decide ((c : Int) < 0) = false := by simp
  have l1 := wide_less (a * d) (c * b)
  have l2 := wide_less (c * b) (a * d)
  have t1 : drossref04_times ⟨0, (a : Int)⟩ ⟨0, (d : Int)⟩ = some ⟨0, ((a * d : Nat) : Int)⟩ := by
    simp only [drossref04_times, mul64_small ha hd, Option.bind_some]
  have t2 : drossref04_times ⟨0, (c : Int)⟩ ⟨0, (b : Int)⟩ = some ⟨0, ((c * b : Nat) : Int)⟩ := by
    simp only [drossref04_times, mul64_small hc hb, Option.bind_some]
  simp only [drossref04_Cmp, e1, e2, beq_self_eq_true, if_true, size_nat (show a < 4611686018427387904 by omega), size_nat (show b < 4611686018427387904 by omega), size_nat (show c < 4611686018427387904 by omega), size_nat (show d < 4611686018427387904 by omega), Option.bind_some, t1, t2, if_neg (show ¬ ((a : Int) < 0) by omega), l1, l2]
  by_cases h1 : a * d < c * b
  · simp only [h1, decide_true, if_true]
    exact ⟨_, rfl, by omega⟩
  · have h2 : ¬ c * b < a * d := by omega
    simp only [h1, h2, decide_false, Bool.false_eq_true, if_false]
    exact ⟨_, rfl, by omega⟩
theorem cmp_ratio {n1 d1 n2 d2 : Nat} (h1 : n1 < 65536) (h2 : d1 < 65536) (h3 : n2 < 65536) (h4 : d2 < 65536) (p1 : 0 < d1) (p2 : 0 < d2) (h : n1 * d2 ≤ n2 * d1) : ∃ z, drossref04_Cmp (ratioN n1 d1) (ratioN n2 d2) = some z ∧ z ≤ 0 := by
  have g1 : 0 < Nat.gcd n1 d1 := Nat.gcd_pos_of_pos_right _ p1
  have g2 : 0 < Nat.gcd n2 d2 := Nat.gcd_pos_of_pos_right _ p2
  obtain ⟨a, ha⟩ := Nat.gcd_dvd_left n1 d1
  obtain ⟨b, hb⟩ := Nat.gcd_dvd_right n1 d1
  obtain ⟨c, hc⟩ := Nat.gcd_dvd_left n2 d2
  obtain ⟨d, hd⟩ := Nat.gcd_dvd_right n2 d2
  have ea : n1 / Nat.gcd n1 d1 = a := Nat.div_eq_of_eq_mul_right g1 ha
  have eb : d1 / Nat.gcd n1 d1 = b := Nat.div_eq_of_eq_mul_right g1 hb
  have ec : n2 / Nat.gcd n2 d2 = c := Nat.div_eq_of_eq_mul_right g2 hc
  have ed : d2 / Nat.gcd n2 d2 = d := Nat.div_eq_of_eq_mul_right g2 hd
  have la : n1 / Nat.gcd n1 d1 ≤ n1 := Nat.div_le_self _ _
  have lb : d1 / Nat.gcd n1 d1 ≤ d1 := Nat.div_le_self _ _
  have lc : n2 / Nat.gcd n2 d2 ≤ n2 := Nat.div_le_self _ _
  have ld : d2 / Nat.gcd n2 d2 ≤ d2 := Nat.div_le_self _ _
  unfold ratioN
  rw [ea, eb, ec, ed]
  rw [ea] at la
  rw [eb] at lb
  rw [ec] at lc
  rw [ed] at ld
  refine cmp_nat (by omega) (by omega) (by omega) (by omega) ?_
  generalize Nat.gcd n1 d1 = g at *
  generalize Nat.gcd n2 d2 = k at *
  have hk : (g * k) * (a * d) ≤ (g * k) * (c * b) := by
    have e1 : (g * k) * (a * d) = n1 * d2 := by rw [ha, hd]; simp only [Nat.mul_assoc, Nat.mul_left_comm, Nat.mul_comm]
    have e2 : (g * k) * (c * b) = n2 * d1 := by rw [hc, hb]; simp only [Nat.mul_assoc, Nat.mul_left_comm, Nat.mul_comm]
    rw [e1, e2]; exact h
  exact Nat.le_of_mul_le_mul_left hk (Nat.mul_pos g1 g2)
/-- the denominator -/
def eD (t : Table) (m : Nat) : Nat := if t.Rows.length = 0 then 1 else if m = 1 then t.Rows.length * t.Rows.length else t.Rows.length
theorem eD_pos (t : Table) (m : Nat) : 0 < eD t m := by
  unfold eD
  split
  · omega
  · split
    · exact Nat.mul_pos (by omega) (by omega)
    · omega
theorem eD_le {t : Table} (hn : t.Rows.length ≤ 8) (m : Nat) : eD t m < 65536 := by
  have : t.Rows.length * t.Rows.length ≤ 8 * 8 := Nat.mul_le_mul hn hn
  unfold eD
  split
  · omega
  · split <;> omega
theorem errN_le {t : Table} (hn : t.Rows.length ≤ 8) (s p m : Nat) : errN t s p m < 65536 := by
  have h1 := err_le t s p m
  have : t.Rows.length * t.Rows.length ≤ 8 * 8 := Nat.mul_le_mul hn hn
  omega
theorem errR_ratio (t : Table) (s p m : Nat) : errR t s p m = ratioN (errN t s p m) (eD t m) := by
  unfold errR eD
  by_cases h : t.Rows.length = 0
  · rw [if_pos h, if_pos h]
    have : errN t s p m = 0 := by have := err_le t s p m; rw [h] at this; omega
    rw [this]; decide +kernel
  · rw [if_neg h, if_neg h]
/-- a coarser demand, a smaller error -/
theorem err_mono {t : Table} (G : GT t) {s r s' r' : Nat} (hs : s < 2 ^ t.Attrs.length) (hr : r < 2 ^ t.Attrs.length) (hs' : s' < 2 ^ t.Attrs.length) (hr' : r' < 2 ^ t.Attrs.length) (h1 : ∀ k, s.testBit k = true → s'.testBit k = true) (h2 : ∀ k, r'.testBit k = true → r.testBit k = true) {m : Nat} (hm : m = 1 ∨ m = 2 ∨ m = 3) : errN t s' (s' ||| r') m ≤ errN t s (s ||| r) m := by
  have hv : ∀ i, i < t.Rows.length → nviol t s' (s' ||| r') i ≤ nviol t s (s ||| r) i := by
    intro i hi
    unfold nviol
    apply List.countP_mono_left
    intro k hk ha
    have hk' := List.mem_range.1 hk
    rw [agN_or G hs' hr' hk' hi] at ha
    rw [agN_or G hs hr hk' hi]
    simp only [Bool.and_eq_true, Bool.not_eq_true'] at ha
    have h3 : agN t s k i = true := finer_of h1 G hs hs' hk' hi ha.1
    have h4 : agN t r' k i = false := by have := ha.2; rw [ha.1] at this; simpa using this
    have h5 : agN t r k i = false := by
      cases h : agN t r k i
      · rfl
      · have := finer_of h2 G hr' hr hk' hi h; rw [this] at h4; cases h4
    rw [h3, h5]; rfl
  rcases hm with rfl | rfl | rfl
  · unfold errN
    apply sum_le
    intro i hi
    simpa [phiN] using hv i (List.mem_range.1 hi)
  · unfold errN
    apply sum_le
    intro i hi
    have := hv i (List.mem_range.1 hi)
    simp only [phiN, show ¬ ((2 : Nat) = 1) by omega, if_false, if_true]
    omega
  · rw [err3_len, err3_len]
    unfold remIDs remL
    rw [List.length_map, List.length_map, ← List.countP_eq_length_filter, ← List.countP_eq_length_filter]
    have hsat : satL t s' r' ((List.range t.Rows.length).filter fun i => !remB t s (s ||| r) i) = true := by
      have := stay_ok G hs hr
      rw [satL_iff] at this ⊢
      intro x hx y hy ha
      have hx' := List.mem_range.1 (List.mem_filter.1 hx).1
      have hy' := List.mem_range.1 (List.mem_filter.1 hy).1
      exact finer_of h2 G hr' hr hx' hy' (this x hx y hy (finer_of h1 G hs hs' hx' hy' ha))
    have hk := kept_le G hs' hr' _ hsat
    have hcnt : ∀ q : Nat → Bool, (List.range t.Rows.length).countP q + (List.range t.Rows.length).countP (fun i => !q i) = t.Rows.length := by
      intro q
      have := List.length_eq_countP_add_countP q (l := List.range t.Rows.length)
      rw [List.length_range] at this
      have e : (List.range t.Rows.length).countP (fun i => !q i) = (List.range t.Rows.length).countP (fun a => decide ¬ q a = true) := by
        congr 1
        funext a
        cases q a <;> rfl
      rw [e]; omega
    have a1 := hcnt fun i => remB t s (s ||| r) i
    have a2 := hcnt fun i => remB t s' (s' ||| r') i
    omega
theorem errA_ok {t : Table} (G : GT t) {s r : Nat} (hs : s < 2 ^ t.Attrs.length) (hr : r < 2 ^ t.Attrs.length) {m : Nat} (hm : m = 1 ∨ m = 2 ∨ m = 3) : errA t ⟨(s : Int), (r : Int)⟩ (m : Int) = (ratioN (errN t s (s ||| r) m) (eD t m), 0) := by
  unfold errA
  rw [if_pos (fdErr_ok G hs hr), if_pos (by omega)]
  simp only [Int.toNat_natCast, errR_ratio]
end Go.Proofs.YtjcdclpfeflfkaaDoor
/- ApproxMonotone. -/
set_option linter.unusedVariables false
set_option linter.unusedSimpArgs false
namespace Go.Proofs.YtjcdclpfeflfkaaDoor
open Go Go.Ab

theorem ApproxMonotone_holds (x : Drossref03_Recipe) (l : Arr4_uint8) (measure : Int) (h : okDrossref03_Recipe x) (hl : okArr4_uint8 l) (hm : okI .u8 measure) : drosslaw32_ApproxMonotone x l measure = some true := by
  rcases recipe32 x h with ⟨t, ht⟩ | ⟨t, ht, hok, G⟩
  · simp only [drosslaw32_ApproxMonotone, ht, awake32, Option.bind_some, if_true, Bool.not_false]
  · have GG := G.gt hok
    have hn := G.rows
    obtain ⟨q0, q1, q2, q3⟩ := hl
    have q0' := okI_u8 q0
    have q1' := okI_u8 q1
    have q2' := okI_u8 q2
    have q3' := okI_u8 q3
    have qm := okI_u8 hm
    have hs := clip_lt t.Attrs.length l.x0.toNat
    have hr := clip_lt t.Attrs.length l.x1.toNat
    have hg := clip_lt t.Attrs.length l.x2.toNat
    have c0 := clip_eq GG.attrs q0'
    have c1 := clip_eq GG.attrs q1'
    have c2 := clip_eq GG.attrs q2'
    have c3 : IntKind.u32.wrap l.x3 = ((l.x3.toNat : Nat) : Int) := by
      have : l.x3 = ((l.x3.toNat : Nat) : Int) := by omega
      rw [← this]; exact wrap_u32 (by omega) (by omega)
    generalize l.x0.toNat % 2 ^ t.Attrs.length = s at *
    generalize l.x1.toNat % 2 ^ t.Attrs.length = r at *
    generalize l.x2.toNat % 2 ^ t.Attrs.length = g at *
    have hx3 : l.x3.toNat < 4294967296 := by omega
    generalize l.x3.toNat = z at *
    have hs' : s ||| g < 2 ^ t.Attrs.length := Nat.or_lt_two_pow hs hg
    have hr' : r &&& z < 2 ^ t.Attrs.length := Nat.lt_of_le_of_lt Nat.and_le_left hr
    have d1 := w32_or (lt_u32 GG hs) (lt_u32 GG hg)
    have d2 := w32_and (lt_u32 GG hr) hx3
    obtain ⟨m, hme, hmm⟩ : ∃ m : Nat, IntKind.i64.wrap (1 + (IntKind.i64.wrap (Int.tmod measure 3))) = (m : Int) ∧ (m = 1 ∨ m = 2 ∨ m = 3) := by
      refine ⟨1 + measure.toNat % 3, ?_, by omega⟩
      rw [Int.tmod_eq_emod_of_nonneg qm.1, wrap_i64 (n := measure % 3) (by omega) (by omega), wrap_i64 (by omega) (by omega)]
      omega
    have E1 := Error_eq t hok _ (ok_fd (lt_u32 GG hs) (lt_u32 GG hr)) (m : Int)
    have E2 := Error_eq t hok _ (ok_fd (lt_u32 GG hs') (lt_u32 GG hr')) (m : Int)
    rw [errA_ok GG hs hr hmm] at E1
    rw [errA_ok GG hs' hr' hmm] at E2
    have hmono := err_mono GG hs hr hs' hr' (fun k hk => by rw [Nat.testBit_or, hk]; rfl) (fun k hk => by rw [Nat.testBit_and, Bool.and_eq_true] at hk; exact hk.1) hmm
    obtain ⟨a, ha, ha'⟩ := cmp_ratio (errN_le hn _ _ _) (eD_le hn _) (errN_le hn _ _ _) (eD_le hn _) (eD_pos t m) (eD_pos t m) (Nat.mul_le_mul_right (eD t m) hmono)
    simp only [drosslaw32_ApproxMonotone, ht, awake32, Option.bind_some, if_true, Bool.not_true, Bool.false_eq_true, if_false, Full_eq GG.attrs, c0, c1, c2, c3, d1, d2, hme, E1, E2, beq_self_eq_true, ha, ha', decide_true]
end Go.Proofs.YtjcdclpfeflfkaaDoor
