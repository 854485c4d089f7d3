/- The Lean functions that the program's functions are lifted to, and the plain laws about them. -/
import Derived.Test.YthgnkhchpjcboaaGreatL1
/- The miner: a statement holds exactly if what is minimal implies it. -/
set_option linter.unusedVariables false
set_option linter.unusedSimpArgs false
namespace Go.Proofs.YthgnkhchpjcboaaGreat
open Go Go.Ab
/-- what a statement says of two rows -/
def Says (a b : Row) (A B : Int) : Prop := (B < 0 → vcmp (cellV a A.toNat) (cellV b A.toNat) = 0) ∧ (¬ B < 0 → ¬ vcmp (cellV a A.toNat) (cellV b A.toNat) * vcmp (cellV a B.toNat) (cellV b B.toNat) < 0)
/-- two rows agree on a set -/
def AgreeN (n : Nat) (a b : Row) (s : Nat) : Prop := ∀ k, k < n → s.testBit k = true → vcmp (cellV a k) (cellV b k) = 0
theorem ctx_agree {n : Nat} (hn : n ≤ 16) (a b : Row) {s : Nat} (hs : s < 4294967296) : cmpL a b (ctxL n (s : Int)) = 0 ↔ AgreeN n a b s := by
  rw [ctx_zero]
  constructor
  · intro h k hk hb
    have := h (k : Int) (by omega) (by omega) (by rw [hasB_nat hs (by omega)]; exact hb)
    rwa [Int.toNat_natCast] at this
  · intro h i h0 h1 hb
    obtain ⟨k, rfl⟩ := Int.eq_ofNat_of_zero_le h0
    rw [hasB_nat hs (by omega)] at hb
    rw [Int.toNat_natCast]
    exact h k (by omega) hb
/-- a statement holds in a table -/
def HoldsS (t : Table) (s : Nat) (A B : Int) : Prop := ∀ a ∈ t.Rows, ∀ b ∈ t.Rows, AgreeN t.Attrs.length a b s → Says a b A B
theorem satB_holds {t : Table} (hn : t.Attrs.length ≤ 16) {s : Nat} (hs : s < 4294967296) (A B : Int) : satB t ⟨s, A, B⟩ = true ↔ HoldsS t s A B := by
  rw [satB_iff]
  unfold HoldsS Says
  constructor
  · intro h a ha b hb hg
    exact (sat1_iff _ _ _ _).1 (h a ha b hb) ((ctx_agree hn a b hs).2 hg)
  · intro h a ha b hb
    rw [sat1_iff]
    intro hg
    exact h a ha b hb ((ctx_agree hn a b hs).1 hg)
theorem holds_mono {t : Table} {s s' : Nat} (h : ∀ k, s.testBit k = true → s'.testBit k = true) {A B : Int} (hs : HoldsS t s A B) : HoldsS t s' A B :=
  fun a ha b hb hg => hs a ha b hb fun k hk hb => hg k hk (h k hb)
theorem const_pair {t : Table} {s : Nat} {A B : Int} (h : HoldsS t s A (-1) ∨ HoldsS t s B (-1)) (hB : 0 ≤ B) : HoldsS t s A B := by
  intro a ha b hb hg
  refine ⟨fun h0 => by omega, fun _ hlt => ?_⟩
  rcases h with h | h
  · have := (h a ha b hb hg).1 (by omega)
    rw [this] at hlt; simp at hlt
  · have := (h a ha b hb hg).1 (by omega)
    rw [this] at hlt; simp at hlt
theorem holds_swap {t : Table} {s : Nat} {A B : Int} (hA : 0 ≤ A) (hB : 0 ≤ B) (h : HoldsS t s A B) : HoldsS t s B A := by
  intro a ha b hb hg
  refine ⟨fun h0 => by omega, fun _ hlt => ?_⟩
  rw [Int.mul_comm] at hlt
  exact (h a ha b hb hg).2 (by omega) hlt
/-- trivial statements hold -/
theorem holds_trivial {t : Table} {s : Nat} {A B : Int} (hA : 0 ≤ A ∧ A < (t.Attrs.length : Int)) (hB : -1 ≤ B ∧ B < (t.Attrs.length : Int)) (h : s.testBit A.toNat = true ∨ (B ≠ -1 ∧ (A = B ∨ s.testBit B.toNat = true))) : HoldsS t s A B := by
  intro a ha b hb hg
  rcases h with h | ⟨h0, h⟩
  · have hz := hg A.toNat (by omega) h
    exact ⟨fun _ => hz, fun _ hlt => by rw [hz] at hlt; simp at hlt⟩
  · refine ⟨fun hn => by omega, fun _ hlt => ?_⟩
    rcases h with rfl | h
    · rcases vcmp_range (cellV a A.toNat) (cellV b A.toNat) with e | e | e <;> rw [e] at hlt <;> simp at hlt
    · have hz := hg B.toNat (by omega) h
      rw [hz] at hlt; simp at hlt
/-- in a valid table, with a valid statement -/
structure StOk (t : Table) (s : Nat) (A B : Int) : Prop where
  hs : s < 2 ^ t.Attrs.length
  a0 : 0 ≤ A
  a1 : A < (t.Attrs.length : Int)
  b0 : -1 ≤ B
  b1 : B < (t.Attrs.length : Int)
theorem stOk_st {t : Table} (hn : t.Attrs.length ≤ 16) {s : Nat} {A B : Int} (h : StOk t s A B) : stB t.Attrs.length ⟨s, A, B⟩ = true := by
  have : (Int.fdiv (s : Int) (2 ^ (min t.Attrs.length 32)) == 0) = true := by
    rw [Nat.min_eq_left (by omega), fdiv_pow, Nat.div_eq_of_lt h.hs]; rfl
  unfold stB
  simp only [this, decide_eq_true h.a0, decide_eq_true h.a1, decide_eq_true h.b0, decide_eq_true h.b1]
  rfl
theorem st_stOk {t : Table} (hn : t.Attrs.length ≤ 16) {s : Nat} {A B : Int} (h : stB t.Attrs.length ⟨s, A, B⟩ = true) : StOk t s A B := by
  obtain ⟨h1, h2, h3, h4⟩ := stB_facts h
  refine ⟨?_, h1, h2, h3, h4⟩
  simp only [stB, Bool.and_eq_true] at h
  have h5 := h.2.2.2.2
  rw [Nat.min_eq_left (by omega), fdiv_pow, beq_iff_eq] at h5
  have hp : 0 < 2 ^ t.Attrs.length := Nat.pow_pos (by omega)
  apply Classical.byContradiction
  intro hc
  have := Nat.div_pos (show 2 ^ t.Attrs.length ≤ s by omega) hp
  omega
theorem pow16 {n : Nat} (h : n ≤ 16) : 2 ^ n < 4294967296 := pow_lt (by omega)
theorem satV_holds {t : Table} (h0 : tableErr t = 0) (hn : t.Attrs.length ≤ 16) {s : Nat} {A B : Int} (h : StOk t s A B) : satV t ⟨s, A, B⟩ = true ↔ HoldsS t s A B := by
  have h2 := pow16 hn
  have hs := h.hs
  unfold satV satVal
  rw [if_neg (by rw [h0]; simp), if_pos (stOk_st hn h)]
  exact satB_holds hn (by omega) A B
/-- smaller sets -/
theorem ndiff_le {s i : Nat} : ∀ k, (ndiff s (2 ^ i)).testBit k = true → s.testBit k = true := fun k h => by rw [ndiff_bit] at h; simp at h; exact h.1
theorem sub_lt {n s s' : Nat} (hs : s < 2 ^ n) (h : ∀ k, s'.testBit k = true → s.testBit k = true) : s' < 2 ^ n :=
  lt_bits fun i hi => by
    cases hb : s'.testBit i with
    | false => rfl
    | true => rw [← h i hb]; exact bit_lt hs hi
theorem StOk.sub {t : Table} {s s' : Nat} {A B : Int} (h : StOk t s A B) (hs : ∀ k, s'.testBit k = true → s.testBit k = true) : StOk t s' A B := ⟨sub_lt h.hs hs, h.a0, h.a1, h.b0, h.b1⟩
theorem least_iff {t : Table} (h0 : tableErr t = 0) (hn : t.Attrs.length ≤ 16) {s : Nat} {A B : Int} (h : StOk t s A B) : leastB t s A B = true ↔ HoldsS t s A B ∧ ∀ i, s.testBit i = true → ¬ HoldsS t (ndiff s (2 ^ i)) A B := by
  unfold leastB lowA
  rw [Bool.and_eq_true, satV_holds h0 hn h, Bool.not_eq_true', List.any_eq_false]
  refine and_congr_right fun _ => ?_
  constructor
  · intro h1 i hi hc
    have hi32 : i < 32 := by
      apply Classical.byContradiction
      intro hcc
      have : s.testBit i = false := bit_lt h.hs (by omega)
      rw [this] at hi; cases hi
    have := h1 i (by rw [List.mem_range]; exact hi32)
    rw [hi, Bool.true_and, satV_holds h0 hn (h.sub ndiff_le)] at this
    exact this hc
  · intro h1 i _ hc
    rw [Bool.and_eq_true, satV_holds h0 hn (h.sub ndiff_le)] at hc
    exact h1 i hc.1 hc.2
theorem ndiff_less {s i : Nat} (h : s.testBit i = true) : ndiff s (2 ^ i) < s := by
  refine Nat.lt_of_le_of_ne ?_ fun e => ?_
  · have e : ndiff s (2 ^ i) = ndiff s (2 ^ i) &&& s := by
      apply Nat.eq_of_testBit_eq
      intro k
      rw [Nat.testBit_and]
      cases hb : (ndiff s (2 ^ i)).testBit k with
      | false => rfl
      | true => rw [ndiff_le k hb]; rfl
    rw [e]; exact Nat.and_le_right
  · have := ndiff_bit s (2 ^ i) i
    rw [e, h, Nat.testBit_two_pow] at this
    simp at this
/-- below a set that will do there is a least one -/
theorem least_exists {t : Table} {A B : Int} : ∀ (s : Nat), HoldsS t s A B → ∃ s', (∀ k, s'.testBit k = true → s.testBit k = true) ∧ HoldsS t s' A B ∧ ∀ i, s'.testBit i = true → ¬ HoldsS t (ndiff s' (2 ^ i)) A B := by
  intro s
  induction s using Nat.strongRecOn with
  | ind s ih =>
    intro h
    by_cases hc : ∃ i, s.testBit i = true ∧ HoldsS t (ndiff s (2 ^ i)) A B
    · obtain ⟨i, hi, hh⟩ := hc
      obtain ⟨s', h1, h2, h3⟩ := ih (ndiff s (2 ^ i)) (ndiff_less hi) hh
      exact ⟨s', fun k hk => ndiff_le k (h1 k hk), h2, h3⟩
    · exact ⟨s, fun _ h => h, h, fun i hi hh => hc ⟨i, hi, hh⟩⟩
/-- what is listed -/
theorem mem_constsB {t : Table} (h0 : tableErr t = 0) (hn : t.Attrs.length ≤ 16) {s : Nat} (hs : s < 2 ^ t.Attrs.length) (z : Canonical) : z ∈ constsB t s ↔ ∃ a : Nat, a < t.Attrs.length ∧ z = ⟨s, a, -1⟩ ∧ s.testBit a = false ∧ HoldsS t s a (-1) ∧ ∀ i, s.testBit i = true → ¬ HoldsS t (ndiff s (2 ^ i)) a (-1) := by
  unfold constsB
  rw [List.mem_flatMap]
  constructor
  · rintro ⟨a, ha, hz⟩
    rw [List.mem_range] at ha
    unfold constF at hz
    split at hz
    · rename_i hc
      rw [Bool.and_eq_true, Bool.not_eq_true', least_iff h0 hn ⟨hs, by omega, by omega, by omega, by omega⟩] at hc
      exact ⟨a, ha, List.mem_singleton.1 hz, hc.1, hc.2.1, hc.2.2⟩
    · cases hz
  · rintro ⟨a, ha, rfl, h1, h2, h3⟩
    refine ⟨a, by rw [List.mem_range]; exact ha, ?_⟩
    unfold constF
    rw [if_pos (by rw [Bool.and_eq_true, Bool.not_eq_true', least_iff h0 hn ⟨hs, by omega, by omega, by omega, by omega⟩]; exact ⟨h1, h2, h3⟩)]
    simp
theorem mem_freeL {t : Table} (h0 : tableErr t = 0) (hn : t.Attrs.length ≤ 16) {s : Nat} (hs : s < 2 ^ t.Attrs.length) (z : Int) : z ∈ freeL t s ↔ ∃ a : Nat, a < t.Attrs.length ∧ z = (a : Int) ∧ s.testBit a = false ∧ ¬ HoldsS t s a (-1) := by
  unfold freeL
  rw [List.mem_flatMap]
  constructor
  · rintro ⟨a, ha, hz⟩
    rw [List.mem_range] at ha
    split at hz
    · rename_i hc
      rw [Bool.and_eq_true, Bool.not_eq_true', Bool.not_eq_true', Bool.eq_false_iff, Bool.eq_false_iff, ne_eq, ne_eq, satV_holds h0 hn ⟨hs, by omega, by omega, by omega, by omega⟩] at hc
      exact ⟨a, ha, List.mem_singleton.1 hz, Bool.eq_false_iff.2 hc.1, hc.2⟩
    · cases hz
  · rintro ⟨a, ha, rfl, h1, h2⟩
    refine ⟨a, by rw [List.mem_range]; exact ha, ?_⟩
    rw [if_pos (by
      rw [Bool.and_eq_true, Bool.not_eq_true', Bool.not_eq_true', Bool.eq_false_iff, Bool.eq_false_iff, ne_eq, ne_eq, satV_holds h0 hn ⟨hs, by omega, by omega, by omega, by omega⟩]
      exact ⟨by rw [h1]; simp, h2⟩)]
    simp
theorem freeL_asc (t : Table) (s : Nat) : (freeL t s).Pairwise (· < ·) := by
  have e : freeL t s = ((List.range t.Attrs.length).filter fun (k : Nat) => !s.testBit k && !satV t ⟨s, k, -1⟩).map fun (k : Nat) => (k : Int) := by
    unfold freeL
    generalize List.range t.Attrs.length = l
    induction l with
    | nil => rfl
    | cons k l ih =>
      rw [List.flatMap_cons, ih, List.filter_cons]
      split <;> simp
  rw [e, List.pairwise_map]
  exact ((List.pairwise_lt_range (n := t.Attrs.length)).sublist List.filter_sublist).imp fun h => by omega
theorem mem_pairsB (t : Table) (s : Nat) (z : Canonical) : z ∈ pairsB t s ↔ ∃ a b : Int, a ∈ freeL t s ∧ b ∈ freeL t s ∧ a < b ∧ z = ⟨s, a, b⟩ ∧ leastB t s a b = true := by
  have hasc := freeL_asc t s
  unfold pairsB
  rw [List.mem_flatMap]
  constructor
  · rintro ⟨i, hi, hz⟩
    rw [List.mem_range] at hi
    unfold pairsAt at hz
    rw [List.getElem?_eq_getElem hi] at hz
    simp only at hz
    obtain ⟨b, hb, hz⟩ := List.mem_flatMap.1 hz
    unfold pairF at hz
    split at hz
    · rename_i hl
      obtain ⟨j, hj, rfl⟩ := List.mem_iff_getElem.1 hb
      rw [List.length_drop] at hj
      rw [List.getElem_drop] at hl hz
      exact ⟨_, _, List.getElem_mem hi, List.getElem_mem (by omega), List.pairwise_iff_getElem.1 hasc i (i + 1 + j) hi (by omega) (by omega), List.mem_singleton.1 hz, hl⟩
    · cases hz
  · rintro ⟨a, b, ha, hb, hab, rfl, hl⟩
    obtain ⟨i, hi, rfl⟩ := List.mem_iff_getElem.1 ha
    obtain ⟨j, hj, rfl⟩ := List.mem_iff_getElem.1 hb
    have hij : i < j := by
      apply Classical.byContradiction
      intro hc
      rcases Nat.lt_or_eq_of_le (show j ≤ i by omega) with h | h
      · have := List.pairwise_iff_getElem.1 hasc j i hj hi h; omega
      · subst h; omega
    refine ⟨i, by rw [List.mem_range]; exact hi, ?_⟩
    unfold pairsAt
    rw [List.getElem?_eq_getElem hi]
    refine List.mem_flatMap.2 ⟨(freeL t s)[j], List.mem_iff_getElem.2 ⟨j - (i + 1), by rw [List.length_drop]; omega, by rw [List.getElem_drop]; congr 1; omega⟩, ?_⟩
    unfold pairF
    rw [if_pos hl]; simp
end Go.Proofs.YthgnkhchpjcboaaGreat
/- The miner: what is minimal implies all that holds, and nothing else. -/
set_option linter.unusedVariables false
set_option linter.unusedSimpArgs false
namespace Go.Proofs.YthgnkhchpjcboaaGreat
open Go Go.Ab
theorem mem_allB {t : Table} (hn : t.Attrs.length ≤ 6) (z : Canonical) : z ∈ allB t ↔ ∃ s, s < 2 ^ t.Attrs.length ∧ (z ∈ constsB t s ∨ z ∈ pairsB t s) := by
  unfold allB ctxB
  rw [List.mem_flatMap]
  constructor
  · rintro ⟨s, hs, hz⟩
    exact ⟨s, (ordL_mem hn s).1 hs, List.mem_append.1 hz⟩
  · rintro ⟨s, hs, hz⟩
    exact ⟨s, (ordL_mem hn s).2 hs, List.mem_append.2 hz⟩
theorem subC_iff (s s' : Nat) (A B A' B' : Int) : subC ⟨s', A', B'⟩ ⟨s, A, B⟩ = true ↔ ∀ k, s'.testBit k = true → s.testBit k = true := by
  unfold subC
  rw [beq_iff_eq, Int.toNat_natCast, Int.toNat_natCast]
  constructor
  · intro h k hk
    rw [← h, Nat.testBit_and, Bool.and_eq_true] at hk
    exact hk.2
  · intro h
    apply Nat.eq_of_testBit_eq
    intro k
    rw [Nat.testBit_and]
    cases hb : s'.testBit k with
    | false => rfl
    | true => rw [h k hb]; rfl
theorem trivial31_iff {t : Table} (hn : t.Attrs.length ≤ 16) {s : Nat} {A B : Int} (h : StOk t s A B) : trivial31 ⟨s, A, B⟩ = true ↔ (s.testBit A.toNat = true ∨ (B ≠ -1 ∧ (A = B ∨ s.testBit B.toNat = true))) := by
  have hs := h.hs
  have h2 := pow16 hn
  have ha0 := h.a0; have ha1 := h.a1; have hb0 := h.b0; have hb1 := h.b1
  have eA : hasB (s : Int) A = s.testBit A.toNat := by
    have := hasB_nat (a := s) (by omega) (i := A.toNat) (by omega)
    rwa [Int.toNat_of_nonneg ha0] at this
  unfold trivial31
  simp only [eA, decide_eq_true ha0, decide_eq_true (show A < 32 by omega), Bool.true_and]
  by_cases hB : B = -1
  · subst hB; simp
  · have eB : hasB (s : Int) B = s.testBit B.toNat := by
      have := hasB_nat (a := s) (by omega) (i := B.toNat) (by omega)
      rwa [Int.toNat_of_nonneg (show 0 ≤ B by omega)] at this
    simp only [eB, decide_eq_true (show 0 ≤ B by omega), decide_eq_true (show B < 32 by omega), Bool.true_and]
    simp [hB]
/-- what a listed statement says -/
theorem listed_holds {t : Table} (h0 : tableErr t = 0) (hn : t.Attrs.length ≤ 6) {z : Canonical} (hz : z ∈ allB t) : ∃ (s : Nat) (A B : Int), z = ⟨s, A, B⟩ ∧ StOk t s A B ∧ HoldsS t s A B ∧ (∀ i, s.testBit i = true → ¬ HoldsS t (ndiff s (2 ^ i)) A B) ∧ s.testBit A.toNat = false ∧
    ((B = -1) ∨ (A < B ∧ s.testBit B.toNat = false ∧ ¬ HoldsS t s A (-1) ∧ ¬ HoldsS t s B (-1))) := by
  obtain ⟨s, hs, hz | hz⟩ := (mem_allB hn z).1 hz
  · obtain ⟨a, ha, rfl, h1, h2, h3⟩ := (mem_constsB h0 (by omega) hs z).1 hz
    exact ⟨s, a, -1, rfl, ⟨hs, by omega, by omega, by omega, by omega⟩, h2, h3, by rw [Int.toNat_natCast]; exact h1, .inl rfl⟩
  · obtain ⟨a, b, ha, hb, hab, rfl, hl⟩ := (mem_pairsB t s z).1 hz
    obtain ⟨x, hx, rfl, x1, x2⟩ := (mem_freeL h0 (by omega) hs a).1 ha
    obtain ⟨y, hy, rfl, y1, y2⟩ := (mem_freeL h0 (by omega) hs b).1 hb
    have hst : StOk t s x y := ⟨hs, by omega, by omega, by omega, by omega⟩
    obtain ⟨l1, l2⟩ := (least_iff h0 (by omega) hst).1 hl
    exact ⟨s, x, y, rfl, hst, l1, l2, by rw [Int.toNat_natCast]; exact x1, .inr ⟨hab, by rw [Int.toNat_natCast]; exact y1, x2, y2⟩⟩
theorem const_listed {t : Table} (h0 : tableErr t = 0) (hn : t.Attrs.length ≤ 6) {s : Nat} {A : Int} (h : StOk t s A (-1)) (hA : s.testBit A.toNat = false) (hh : HoldsS t s A (-1)) (hm : ∀ i, s.testBit i = true → ¬ HoldsS t (ndiff s (2 ^ i)) A (-1)) : (⟨s, A, -1⟩ : Canonical) ∈ allB t := by
  have e : A = ((A.toNat : Nat) : Int) := (Int.toNat_of_nonneg h.a0).symm
  have ha1 := h.a1
  refine (mem_allB hn _).2 ⟨s, h.hs, .inl ((mem_constsB h0 (by omega) h.hs _).2 ⟨A.toNat, by omega, by rw [← e], hA, by rw [← e]; exact hh, by rw [← e]; exact hm⟩)⟩
theorem pair_listed {t : Table} (h0 : tableErr t = 0) (hn : t.Attrs.length ≤ 6) {s : Nat} {A B : Int} (h : StOk t s A B) (hB : 0 ≤ B) (hAB : A < B) (hA : s.testBit A.toNat = false) (hBb : s.testBit B.toNat = false) (nA : ¬ HoldsS t s A (-1)) (nB : ¬ HoldsS t s B (-1)) (hh : HoldsS t s A B) (hm : ∀ i, s.testBit i = true → ¬ HoldsS t (ndiff s (2 ^ i)) A B) : (⟨s, A, B⟩ : Canonical) ∈ allB t := by
  have eA : A = ((A.toNat : Nat) : Int) := (Int.toNat_of_nonneg h.a0).symm
  have eB : B = ((B.toNat : Nat) : Int) := (Int.toNat_of_nonneg hB).symm
  have ha1 := h.a1; have hb1 := h.b1
  have fA : A ∈ freeL t s := (mem_freeL h0 (by omega) h.hs A).2 ⟨A.toNat, by omega, eA, hA, by rw [← eA]; exact nA⟩
  have fB : B ∈ freeL t s := (mem_freeL h0 (by omega) h.hs B).2 ⟨B.toNat, by omega, eB, hBb, by rw [← eB]; exact nB⟩
  exact (mem_allB hn _).2 ⟨s, h.hs, .inr ((mem_pairsB t s _).2 ⟨A, B, fA, fB, hAB, rfl, (least_iff h0 (by omega) h).2 ⟨hh, hm⟩⟩)⟩
theorem complete31 {t : Table} (h0 : tableErr t = 0) (hn : t.Attrs.length ≤ 6) {s : Nat} {A B : Int} (h : StOk t s A B) : impliedB (allB t) ⟨s, A, B⟩ = true ↔ HoldsS t s A B := by
  have ha0 := h.a0; have ha1 := h.a1; have hb0 := h.b0; have hb1 := h.b1
  unfold impliedB
  rw [Bool.or_eq_true, trivial31_iff (by omega) h, List.any_eq_true]
  constructor
  · rintro (ht | ⟨d, hd, hi⟩)
    · exact holds_trivial ⟨ha0, ha1⟩ ⟨hb0, hb1⟩ ht
    · obtain ⟨s', A', B', rfl, hst, hh, _, _, hk⟩ := listed_holds h0 hn hd
      unfold impl1 at hi
      rw [Bool.and_eq_true, subC_iff] at hi
      obtain ⟨hsub, hi⟩ := hi
      have hup := holds_mono hsub hh
      simp only at hi
      by_cases hB : B = -1
      · rw [if_pos hB] at hi
        simp only [Bool.and_eq_true, beq_iff_eq] at hi
        obtain ⟨e1, e2⟩ := hi
        subst e1; subst e2; rw [hB]; exact hup
      · rw [if_neg hB] at hi
        by_cases hB' : B' = -1
        · rw [if_pos hB'] at hi
          subst hB'
          simp only [Bool.or_eq_true, beq_iff_eq] at hi
          rcases hi with e | e
          · subst e; exact const_pair (.inl hup) (by omega)
          · subst e; exact const_pair (.inr hup) (by omega)
        · rw [if_neg hB'] at hi
          simp only [Bool.or_eq_true, Bool.and_eq_true, beq_iff_eq] at hi
          rcases hi with ⟨e1, e2⟩ | ⟨e1, e2⟩
          · subst e1; subst e2; exact hup
          · subst e1; subst e2; exact holds_swap (by omega) (by omega) hup
  · intro hh
    by_cases ht : s.testBit A.toNat = true ∨ (B ≠ -1 ∧ (A = B ∨ s.testBit B.toNat = true))
    · exact .inl ht
    · right
      have hA : s.testBit A.toNat = false := Bool.eq_false_iff.2 fun e => ht (.inl e)
      have constCase : ∀ (s' : Nat) (X : Int), (∀ k, s'.testBit k = true → s.testBit k = true) → StOk t s' X (-1) → s.testBit X.toNat = false → HoldsS t s' X (-1) → ∃ s2 : Nat, (∀ k, s2.testBit k = true → s.testBit k = true) ∧ (⟨s2, X, -1⟩ : Canonical) ∈ allB t := by
        intro s' X hsub hst hX hh'
        obtain ⟨s2, q1, q2, q3⟩ := least_exists s' hh'
        have hX2 : s2.testBit X.toNat = false := by
          cases hb : s2.testBit X.toNat with
          | false => rfl
          | true => rw [hsub _ (q1 _ hb)] at hX; cases hX
        exact ⟨s2, fun k hk => hsub k (q1 k hk), const_listed h0 hn (hst.sub q1) hX2 q2 q3⟩
      by_cases hB : B = -1
      · subst hB
        obtain ⟨s2, q1, q2⟩ := constCase s A (fun _ h => h) h hA hh
        refine ⟨_, q2, ?_⟩
        unfold impl1
        rw [Bool.and_eq_true, subC_iff]
        exact ⟨q1, by simp⟩
      · have hBn : 0 ≤ B := by omega
        have hAB : A ≠ B := fun e => ht (.inr ⟨hB, .inl e⟩)
        have hBb : s.testBit B.toNat = false := Bool.eq_false_iff.2 fun e => ht (.inr ⟨hB, .inr e⟩)
        obtain ⟨s', p1, p2, p3⟩ := least_exists s hh
        have hst' := h.sub p1
        have hlow : ∀ X : Int, s.testBit X.toNat = false → s'.testBit X.toNat = false := fun X hX => by
          cases hb : s'.testBit X.toNat with
          | false => rfl
          | true => rw [p1 _ hb] at hX; cases hX
        by_cases cA : HoldsS t s' A (-1)
        · obtain ⟨s2, q1, q2⟩ := constCase s' A p1 ⟨hst'.hs, ha0, ha1, by omega, by omega⟩ hA cA
          refine ⟨_, q2, ?_⟩
          unfold impl1
          rw [Bool.and_eq_true, subC_iff]
          exact ⟨q1, by simp [hB]⟩
        · by_cases cB : HoldsS t s' B (-1)
          · obtain ⟨s2, q1, q2⟩ := constCase s' B p1 ⟨hst'.hs, hBn, hb1, by omega, by omega⟩ hBb cB
            refine ⟨_, q2, ?_⟩
            unfold impl1
            rw [Bool.and_eq_true, subC_iff]
            exact ⟨q1, by simp [hB]⟩
          · by_cases hlt : A < B
            · refine ⟨_, pair_listed h0 hn hst' hBn hlt (hlow A hA) (hlow B hBb) cA cB p2 p3, ?_⟩
              unfold impl1
              rw [Bool.and_eq_true, subC_iff]
              exact ⟨p1, by simp [hB]⟩
            · have hst2 : StOk t s' B A := ⟨hst'.hs, hBn, hb1, by omega, ha1⟩
              refine ⟨_, pair_listed h0 hn hst2 ha0 (by omega) (hlow B hBb) (hlow A hA) cB cA (holds_swap ha0 hBn p2) (fun i hi hc => p3 i hi (holds_swap hBn ha0 hc)), ?_⟩
              unfold impl1
              rw [Bool.and_eq_true, subC_iff]
              have hA1 : ¬ A = -1 := by omega
              exact ⟨p1, by simp [hB, hA1]⟩
theorem allB_okC {t : Table} (h0 : tableErr t = 0) (hn : t.Attrs.length ≤ 6) {z : Canonical} (hz : z ∈ allB t) : okC z := by
  obtain ⟨s, A, B, rfl, hst, _⟩ := listed_holds h0 hn hz
  have h1 := hst.hs
  have h2 := pow16 (show t.Attrs.length ≤ 16 by omega)
  exact ⟨by show (0 : Int) ≤ (s : Int); omega, by show (s : Int) < 4294967296; omega⟩
theorem allB_len {t : Table} (hn : t.Attrs.length ≤ 6) : (allB t).length ≤ 100000 := by
  have h1 := flat_len (ctxB t) 300 (fun s => by
    unfold ctxB
    rw [List.length_append]
    have := constsB_len t s
    have := pairsB_len t s (by omega)
    omega) (ordL t.Attrs.length)
  have h2 := (ordL_perm hn).length_eq
  rw [List.length_range] at h2
  have h3 := pow6 hn
  unfold allB
  omega
end Go.Proofs.YthgnkhchpjcboaaGreat
/- OdmineComplete answers true. -/
set_option linter.unusedVariables false
set_option linter.unusedSimpArgs false
namespace Go.Proofs.YthgnkhchpjcboaaGreat
open Go Go.Ab
theorem good_mine {t : Table} (G : Good t) : mineErr t = 0 := by
  have h1 := G.attrs; have h2 := G.rows
  unfold mineErr
  rw [if_neg (by rw [G.err]; simp), if_neg (by omega), if_neg (by omega)]
end Go.Proofs.YthgnkhchpjcboaaGreat
/- OdmineOrders answers true. -/
set_option linter.unusedVariables false
set_option linter.unusedSimpArgs false
namespace Go.Proofs.YthgnkhchpjcboaaGreat
open Go Go.Ab
theorem OdmineOrders_holds (x : Drossref03_Recipe) (y : Drossref17_Lists) (hx : okDrossref03_Recipe x) (hy : okDrossref17_Lists y) : drosslaw31_OdmineOrders x y = some true := by
  rcases recipe_cases x hx with ⟨t, ht⟩ | ⟨t, ht, G⟩
  · simp [drosslaw31_OdmineOrders, ht, awake31]
  · have h1 := G.attrs
    have e1 := All_eq t G.ok
    rw [if_pos (good_mine G)] at e1
    have hv := ofL_valid t.Attrs.length y
    have l1 := memL_len t.Attrs.length y.X
    have l2 := memL_len t.Attrs.length y.Y
    have e2 := Orders_eq t (allB t) (ofL t.Attrs.length y) G.ok (by have := allB_len (show t.Attrs.length ≤ 6 by omega); omega) (fun d hd => allB_okC G.err (by omega) hd) (by simp only [ofL]; omega) (by simp only [ofL]; omega)
    have e3 := ref_Holds_eq t (ofL t.Attrs.length y) (good_rows G hv)
    have e4 : ordersB t (allB t) (ofL t.Attrs.length y) = (holdsR t.Rows (ofL t.Attrs.length y).Lhs (ofL t.Attrs.length y).Rhs, 0) := by
      unfold ordersB
      rw [if_neg (by rw [good_mine G]; simp), if_pos hv, ← canon_all G hv]
      congr 1
      rw [Bool.eq_iff_iff, List.all_eq_true, List.all_eq_true]
      have key : ∀ c ∈ canon (ofL t.Attrs.length y), impliedB (allB t) c = true ↔ satB t c = true := by
        intro c hc
        have hs := canon_st (show t.Attrs.length ≤ 16 by omega) hv hc
        have ho := canon_okC (validB_up (show t.Attrs.length ≤ 16 by omega) hv) hc
        obtain ⟨m, A, B⟩ := c
        obtain ⟨k, hk⟩ := Int.eq_ofNat_of_zero_le ho.1
        simp only at hk
        subst hk
        have hst := st_stOk (show t.Attrs.length ≤ 16 by omega) hs
        have h2 := pow16 (show t.Attrs.length ≤ 16 by omega)
        have h3 := hst.hs
        rw [complete31 G.err (by omega) hst, satB_holds (by omega) (by omega)]
      exact ⟨fun h c hc => (key c hc).1 (h c hc), fun h c hc => (key c hc).2 (h c hc)⟩
    simp only [drosslaw31_OdmineOrders, ht, awake31, Option.bind_some, if_true, Bool.not_true, Bool.false_eq_true, if_false, Of17_eq _ y hy, e1, e2, e3, e4, beq_self_eq_true]
end Go.Proofs.YthgnkhchpjcboaaGreat
