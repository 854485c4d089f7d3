/- The Lean functions that the program's functions are lifted to, and the plain laws about them. -/
import Derived.Test.YtjcdclpfeflfkaaDoorL1
/- The reference of the errors, and the removal. -/
set_option linter.unusedVariables false
set_option linter.unusedSimpArgs false
namespace Go.Proofs.YtjcdclpfeflfkaaDoor
open Go Go.Ab

theorem attrs_of {t : Table} (h : tableErr t = 0) : t.Attrs.length ≤ 16 := by
  unfold tableErr at h
  split at h
  · cases h
  · split at h
    · cases h
    · omega
/-- a dependency within the table -/
def inB (t : Table) (f : FD) : Bool := decide ((f.Lhs.toNat ||| f.Rhs.toNat) < 2 ^ t.Attrs.length)
theorem okI_u32 {n : Int} (h : okI .u32 n) : 0 ≤ n ∧ n ≤ 4294967295 := by
  have h' : (decide (IntKind.min .u32 ≤ n) && decide (n ≤ IntKind.max .u32)) = true := h
  simp only [Bool.and_eq_true, decide_eq_true_eq] at h'
  have e1 : IntKind.min .u32 = 0 := by decide
  have e2 : IntKind.max .u32 = 4294967295 := by decide
  rw [e1, e2] at h'
  exact h'
theorem okI_i64 {n : Int} (h : okI .i64 n) : -9223372036854775808 ≤ n ∧ n ≤ 9223372036854775807 := by
  have h' : (decide (IntKind.min .i64 ≤ n) && decide (n ≤ IntKind.max .i64)) = true := h
  simp only [Bool.and_eq_true, decide_eq_true_eq] at h'
  have e1 : IntKind.min .i64 = -9223372036854775808 := by decide
  have e2 : IntKind.max .i64 = 9223372036854775807 := by decide
  rw [e1, e2] at h'
  exact h'
theorem fd_of {f : FD} (h : okFD f) : ∃ s r : Nat, f = ⟨(s : Int), (r : Int)⟩ ∧ s < 4294967296 ∧ r < 4294967296 := by
  obtain ⟨h1, h2⟩ := h
  obtain ⟨L, R⟩ := f
  have q1 := okI_u32 h1
  have q2 := okI_u32 h2
  simp only at q1 q2
  refine ⟨L.toNat, R.toNat, ?_, by omega, by omega⟩
  congr 1 <;> omega
theorem shift_zero {n s : Nat} (hn : n ≤ 16) (hs : s < 4294967296) : ((Int.fdiv (IntKind.u64.wrap (s : Int)) (2 ^ (min ((n : Int)).toNat 64))) != 0) = !decide (s < 2 ^ n) := by
  rw [Int.toNat_natCast, Nat.min_eq_left (show n ≤ 64 by omega), wrap_u64 (n := (s : Int)) (by omega) (by omega), fdiv_pow]
  have hp : 0 < 2 ^ n := Nat.pow_pos (by omega)
  by_cases h : s < 2 ^ n
  · rw [Nat.div_eq_of_lt h]; simp [h]
  · have h2 := Nat.div_pos (show 2 ^ n ≤ s by omega) hp
    have : ¬ ((s / 2 ^ n : Nat) : Int) = 0 := by omega
    simp only [h, decide_false, Bool.not_false, bne_iff_ne, ne_eq]
    exact this
theorem known_list (t : Table) (T : TableOk t) (fds : List FD) (hl : fds.length ≤ 1000000) (h : ∀ f ∈ fds, okFD f) : approx_known t fds = some (if tableErr t = 0 then (if fds.all (inB t) then 0 else 6) else tableErr t) := by
  by_cases he : tableErr t = 0
  · have hn := attrs_of he
    have hb : ∀ (k : Nat) (f : FD), fds[k]? = some f → k < fds.length → approx_known_l1 t fds (k : Int) = some (if inB t f then .next ((k : Int) + 1) else .done (.inr 6)) := by
      intro k f hf hk
      obtain ⟨s, r, rfl, hs, hr⟩ := fd_of (h f (List.mem_of_getElem? hf))
      have h1 : ¬ ((t.Attrs.length : Int) < 0) := by omega
      have h2 := shift_zero hn (or_lt hs hr)
      have hw : IntKind.i64.wrap ((k : Int) + 1) = (k : Int) + 1 := by rw [wrap_i64 (by omega) (by omega)]
      have h3 : inB t ⟨(s : Int), (r : Int)⟩ = decide ((s ||| r) < 2 ^ t.Attrs.length) := by simp [inB]
      simp only [approx_known_l1, if_pos (lt_true hf), idx_get hf, Option.bind_some, if_neg h1, w32_or hs hr, h2, h3, hw]
      by_cases hc : (s ||| r) < 2 ^ t.Attrs.length <;> simp [hc]
    have hall := LoopF_all fds (approx_known_l1 t fds) (inB t) 6
      (fun k f hf hk hp => by rw [hb k f hf hk, if_pos hp]; rfl)
      (fun k f hf hp => by rw [hb k f hf (lt_of_get hf), if_neg (by simp [hp])])
      (by simp [approx_known_l1])
    simp only [approx_known, table_Valid_table t T, Option.bind_some, he, bne_self_eq_false, Bool.false_eq_true, if_false, hall, if_true]
    by_cases hc : fds.all (inB t) = true <;> simp [hc]
  · have hne : (tableErr t != 0) = true := by simp [he]
    simp only [approx_known, table_Valid_table t T, Option.bind_some, hne, if_true, if_neg he]
def fdErr (t : Table) (f : FD) : Int := if tableErr t = 0 then (if inB t f then 0 else 6) else tableErr t
theorem known_eq (t : Table) (T : TableOk t) (f : FD) (h : okFD f) : approx_known t [f] = some (fdErr t f) := by
  rw [known_list t T [f] (by simp) (fun g hg => by rw [List.mem_singleton.1 hg]; exact h)]
  simp [fdErr]
theorem check_eq (t : Table) (T : TableOk t) (f : FD) (h : okFD f) : drossref32_check t f = some (fdErr t f) := by
  unfold fdErr
  by_cases he : tableErr t = 0
  · have hn := attrs_of he
    obtain ⟨s, r, rfl, hs, hr⟩ := fd_of h
    have hp : 0 < 2 ^ t.Attrs.length := Nat.pow_pos (by omega)
    have hp2 : 2 ^ t.Attrs.length < 4294967296 := pow_lt (by omega)
    have h3 : inB t ⟨(s : Int), (r : Int)⟩ = decide ((s ||| r) < 2 ^ t.Attrs.length) := by simp [inB]
    simp only [drossref32_check, ref_Valid_table t T, Option.bind_some, he, bne_self_eq_false, Bool.false_eq_true, if_false, Full_eq hn, drossref02_Sub, w32_or hs hr, w32_and (or_lt hs hr) (show 2 ^ t.Attrs.length - 1 < 4294967296 by omega), Nat.and_two_pow_sub_one_eq_mod, if_true, h3]
    by_cases hc : (s ||| r) < 2 ^ t.Attrs.length
    · rw [Nat.mod_eq_of_lt hc]; simp [hc]
    · have hm := Nat.mod_lt (s ||| r) hp
      have : ¬ (((s ||| r) % 2 ^ t.Attrs.length : Nat) : Int) = ((s ||| r : Nat) : Int) := by omega
      have hb : ((((s ||| r) % 2 ^ t.Attrs.length : Nat) : Int) == ((s ||| r : Nat) : Int)) = false := by simpa using this
      rw [hb]; simp [hc]
  · have hne : (tableErr t != 0) = true := by simp [he]
    simp only [drossref32_check, ref_Valid_table t T, Option.bind_some, hne, if_true, if_neg he]

theorem agN_comm (t : Table) (p i k : Nat) : agN t p i k = agN t p k i := by
  unfold agN; rw [decide_eq_decide]; exact eq_comm
theorem agN_or {t : Table} (G : GT t) {s r : Nat} (hs : s < 2 ^ t.Attrs.length) (hr : r < 2 ^ t.Attrs.length) {i k : Nat} (hi : i < t.Rows.length) (hk : k < t.Rows.length) : agN t (s ||| r) i k = (agN t s i k && agN t r i k) := by
  rw [Bool.eq_iff_iff, Bool.and_eq_true, agN_iff G hs hi hk, agN_iff G hr hi hk, agN_iff G (Nat.or_lt_two_pow hs hr) hi hk]
  unfold AgreeN
  constructor
  · intro h
    exact ⟨fun a ha hb => h a ha (by rw [Nat.testBit_or, hb]; rfl), fun a ha hb => h a ha (by rw [Nat.testBit_or, hb, Bool.or_true])⟩
  · rintro ⟨h1, h2⟩ a ha hb
    rw [Nat.testBit_or, Bool.or_eq_true] at hb
    rcases hb with hb | hb
    · exact h1 a ha hb
    · exact h2 a ha hb
theorem sum_ite {α : Type} (p : α → Bool) : ∀ l : List α, (l.map fun x => if p x = true then 1 else 0).sum = l.countP p
  | [] => rfl
  | x :: l => by
    rw [List.map_cons, List.sum_cons, sum_ite p l, List.countP_cons]
    by_cases h : p x = true <;> simp [h] <;> omega
theorem range_at {n k z : Nat} (h : (List.range n)[k]? = some z) : z = k ∧ k < n := by
  have hk : k < n := by have := lt_of_get h; simpa using this
  rw [List.getElem?_range hk] at h
  exact ⟨(Option.some.inj h).symm, hk⟩
theorem count_loop (n : Nat) (hn : n ≤ 1000000) (B : Int × Int → Option (LS (Int × Int) Int)) (p : Nat → Bool)
    (hB : ∀ (k : Nat) (s : Nat), k < n → s ≤ n → B ((s : Int), (k : Int)) = some (.next (((if p k = true then s + 1 else s : Nat) : Int), ((k + 1 : Nat) : Int))))
    (hE : ∀ s : Int, B (s, (n : Int)) = some (.done s)) : LoopF B (0, 0) = some ((((List.range n).countP p : Nat) : Int)) := by
  have hc : (List.range n).countP p ≤ n := by
    have := List.countP_le_length (p := p) (l := List.range n)
    simpa using this
  have h := sum_loop (List.range n) B (fun k => if p k = true then 1 else 0) 0
    (fun k x s hx hk hs => by
      obtain ⟨rfl, hk'⟩ := range_at hx
      rw [sum_ite, Nat.zero_add] at hs
      rw [hB x s hk' (by omega)]
      by_cases hp : p x = true <;> simp [hp])
    (fun s => by rw [List.length_range]; exact hE s)
  rw [show ((0 : Int), (0 : Int)) = (((0 : Nat) : Int), 0) from rfl, h, sum_ite, Nat.zero_add]
theorem lt_u32 {t : Table} (G : GT t) {s : Nat} (hs : s < 2 ^ t.Attrs.length) : s < 4294967296 := pow_u32 G.attrs hs
/-! ### the reference's removal -/
theorem ref_l12 {t : Table} (G : GT t) {s r : Nat} (hs : s < 2 ^ t.Attrs.length) (hr : r < 2 ^ t.Attrs.length) {k : Nat} (hk : k < t.Rows.length) :
    LoopF (drossref32_Removal_l12 t ⟨(s : Int), (r : Int)⟩ (k : Int)) (0, 0) = some ((cntP t (s ||| r) k : Nat) : Int) := by
  have hn := G.rows
  refine count_loop t.Rows.length (by omega) _ (fun j => agN t (s ||| r) j k) (fun j c hj hc => ?_) (fun c => by simp [drossref32_Removal_l12])
  have hag := Agree_agN G (Nat.or_lt_two_pow hs hr) hk hj
  have hw := wrap_nat (show c < 4611686018427387904 by omega)
  have hw2 := wrap_nat (show j < 4611686018427387904 by omega)
  simp only [drossref32_Removal_l12, if_pos (show (j : Int) < (t.Rows.length : Int) by omega), idx_get (rowN_get hk), idx_get (rowN_get hj), Option.bind_some, w32_or (lt_u32 G hs) (lt_u32 G hr), hag, hw, hw2]
  rw [agN_comm]
  by_cases h : agN t (s ||| r) j k = true <;> simp [h]
theorem ref_l13 {t : Table} (G : GT t) {s r : Nat} (hs : s < 2 ^ t.Attrs.length) (hr : r < 2 ^ t.Attrs.length) {i : Nat} (hi : i < t.Rows.length) :
    LoopF (drossref32_Removal_l13 t ⟨(s : Int), (r : Int)⟩ (i : Int)) ((i : Int), 0, 0) = some ((bestRow t s (s ||| r) i : Nat) : Int) := by
  have hn := G.rows
  have h := LoopF_foldl (List.range t.Rows.length) (fun (b : Nat × Nat) k => ((b.1 : Int), (b.2 : Int), k)) (drossref32_Removal_l13 t ⟨(s : Int), (r : Int)⟩ (i : Int)) (stepB t s (s ||| r) i) (fun b => (b.1 : Int)) (fun _ _ => True) (b0 := (i, 0)) (s0 := ((i : Int), 0, 0)) rfl trivial
    (fun k b x hx hk _ => by
      obtain ⟨rfl, hk'⟩ := range_at hx
      refine ⟨?_, trivial⟩
      have hag := Agree_agN G hs hi hk'
      have hw2 := wrap_nat (show x < 4611686018427387904 by omega)
      simp only [drossref32_Removal_l13, if_pos (show (x : Int) < (t.Rows.length : Int) by omega), idx_get (rowN_get hi), idx_get (rowN_get hk'), Option.bind_some, hag, hw2, ref_l12 G hs hr hk']
      unfold stepB
      by_cases h1 : agN t s i x = true
      · by_cases h2 : b.2 < cntP t (s ||| r) x
        · simp only [h1, if_true, if_pos h2, if_pos (show ((cntP t (s ||| r) x : Nat) : Int) > (b.2 : Int) by omega)]
        · simp only [h1, if_true, if_neg h2, if_neg (show ¬ ((cntP t (s ||| r) x : Nat) : Int) > (b.2 : Int) by omega)]
      · simp only [h1, if_false, Bool.false_eq_true])
    (fun b _ => by simp [drossref32_Removal_l13])
  rw [h]; rfl
/-- the rows that are removed -/
def remL (t : Table) (s p : Nat) : List Nat := (List.range t.Rows.length).filter fun i => remB t s p i
def remIDs (t : Table) (s p : Nat) : List Int := (remL t s p).map fun i => (rowN t i).ID
theorem remB_ref {t : Table} (G : GT t) {s r : Nat} (hs : s < 2 ^ t.Attrs.length) (hr : r < 2 ^ t.Attrs.length) {i : Nat} (hi : i < t.Rows.length) : remB t s (s ||| r) i = !agN t r i (bestRow t s (s ||| r) i) := by
  obtain ⟨b1, b2, _, _⟩ := bestRow_spec (t := t) (s := s) (p := s ||| r) hi
  unfold remB
  rw [agN_comm, agN_or G hs hr hi b1, b2, Bool.true_and]
theorem foldl_keepM {α β : Type} (p : α → Bool) (f : α → β) : ∀ (l : List α) (o : List β), l.foldl (fun o x => if p x = true then o ++ [f x] else o) o = o ++ (l.filter p).map f
  | [], o => by simp
  | x :: l, o => by
    rw [List.foldl_cons, foldl_keepM p f l]
    by_cases h : p x = true <;> simp [h]
theorem ref_l14 {t : Table} (G : GT t) {s r : Nat} (hs : s < 2 ^ t.Attrs.length) (hr : r < 2 ^ t.Attrs.length) :
    LoopF (drossref32_Removal_l14 t ⟨(s : Int), (r : Int)⟩) ([], 0) = some (remIDs t s (s ||| r)) := by
  have hn := G.rows
  have h := LoopF_foldl (List.range t.Rows.length) (fun (o : List Int) k => (o, k)) (drossref32_Removal_l14 t ⟨(s : Int), (r : Int)⟩) (fun o i => if remB t s (s ||| r) i = true then o ++ [(rowN t i).ID] else o) id (fun k o => o.length ≤ k) (b0 := []) (s0 := ([], 0)) rfl (by simp)
    (fun k o x hx hk hI => by
      obtain ⟨rfl, hk'⟩ := range_at hx
      obtain ⟨b1, b2, _, _⟩ := bestRow_spec (t := t) (s := s) (p := s ||| r) hk'
      have hag := Agree_agN G hr hk' b1
      have hw2 := wrap_nat (show x < 4611686018427387904 by omega)
      have hroom : roomB (o.length + 1) 8 = true := room_le (by omega) (by omega)
      simp only [drossref32_Removal_l14, if_pos (show (x : Int) < (t.Rows.length : Int) by omega), ref_l13 G hs hr hk', idx_get (rowN_get hk'), idx_get (rowN_get b1), Option.bind_some, hag, hw2, hroom, if_true, remB_ref G hs hr hk']
      by_cases h1 : agN t r x (bestRow t s (s ||| r) x) = true
      · simp only [h1, if_true, Bool.not_true, Bool.false_eq_true, if_false]
        exact ⟨trivial, by omega⟩
      · have h1' : agN t r x (bestRow t s (s ||| r) x) = false := by simpa using h1
        simp only [h1', if_true, Bool.not_false, Bool.false_eq_true, if_false]
        exact ⟨trivial, by simp; omega⟩)
    (fun o _ => by simp [drossref32_Removal_l14])
  rw [h, foldl_keepM]; rfl
theorem lt_in {t : Table} {s r : Nat} (h : inB t ⟨(s : Int), (r : Int)⟩ = true) : s < 2 ^ t.Attrs.length ∧ r < 2 ^ t.Attrs.length := by
  simp only [inB, Int.toNat_natCast, decide_eq_true_eq] at h
  exact ⟨Nat.lt_of_le_of_lt Nat.left_le_or h, Nat.lt_of_le_of_lt Nat.right_le_or h⟩
/-- the rows that the program and the reference remove -/
def remR (t : Table) (f : FD) : List Int × Int := if fdErr t f = 0 then (remIDs t f.Lhs.toNat (f.Lhs.toNat ||| f.Rhs.toNat), 0) else ([], fdErr t f)
theorem gt_of {t : Table} (h : okTable t) (he : tableErr t = 0) : GT t := by
  refine ⟨tabOk_of h, he, fun r hr v hv => ?_⟩
  exact okI_i64 ((h.2.2.2 r hr).2.2 v hv).2.1
theorem fdErr_zero {t : Table} {f : FD} (h : fdErr t f = 0) : tableErr t = 0 ∧ inB t f = true := by
  unfold fdErr at h
  by_cases he : tableErr t = 0
  · rw [if_pos he] at h
    by_cases hi : inB t f = true
    · exact ⟨he, hi⟩
    · rw [if_neg hi] at h; cases h
  · rw [if_neg he] at h; exact absurd h he
theorem ref_Removal_eq (t : Table) (ht : okTable t) (f : FD) (h : okFD f) : drossref32_Removal t f = some (remR t f) := by
  unfold remR
  by_cases he : fdErr t f = 0
  · obtain ⟨h0, hi⟩ := fdErr_zero he
    have G := gt_of ht h0
    obtain ⟨s, r, rfl, hs, hr⟩ := fd_of h
    obtain ⟨hs', hr'⟩ := lt_in hi
    simp only [drossref32_Removal, check_eq t (tabOk_of ht) _ h, Option.bind_some, he, bne_self_eq_false, Bool.false_eq_true, if_false, ref_l14 G hs' hr', if_true, Int.toNat_natCast]
  · have hne : (fdErr t f != 0) = true := by simp [he]
    simp only [drossref32_Removal, check_eq t (tabOk_of ht) _ h, Option.bind_some, hne, if_true, if_neg he]

/-! ### the reference's errors -/
theorem ref_e3 {t : Table} (G : GT t) {s r : Nat} (hs : s < 2 ^ t.Attrs.length) (hr : r < 2 ^ t.Attrs.length) {i : Nat} (hi : i < t.Rows.length) :
    LoopF (drossref32_Error_l3 t ⟨(s : Int), (r : Int)⟩ (i : Int)) (0, 0) = some ((nviol t s (s ||| r) i : Nat) : Int) := by
  have hn := G.rows
  refine count_loop t.Rows.length (by omega) _ (fun k => agN t s k i && !agN t (s ||| r) k i) (fun k c hk hc => ?_) (fun c => by simp [drossref32_Error_l3])
  have h1 := Agree_agN G hs hi hk
  have h2 := Agree_agN G hr hi hk
  have hw := wrap_nat (show c < 4611686018427387904 by omega)
  have hw2 := wrap_nat (show k < 4611686018427387904 by omega)
  have hv : drossref32_violate (rowN t i) (rowN t k) ⟨(s : Int), (r : Int)⟩ = some (agN t s k i && !agN t (s ||| r) k i) := by
    rw [agN_or G hs hr hk hi]
    simp only [drossref32_violate, h1, h2, Option.bind_some]
    rw [agN_comm t s i k, agN_comm t r i k]
    by_cases hh : agN t s k i = true <;> simp [hh]
  simp only [drossref32_Error_l3, if_pos (show (k : Int) < (t.Rows.length : Int) by omega), idx_get (rowN_get hi), idx_get (rowN_get hk), Option.bind_some, hv, hw, hw2]
  by_cases h : (agN t s k i && !agN t (s ||| r) k i) = true <;> simp only [h, if_true, if_false, Bool.false_eq_true]
theorem fold_pair (f g : Nat → Nat) : ∀ (l : List Nat) (a : Nat × Nat), l.foldl (fun a i => (a.1 + f i, a.2 + g i)) a = (a.1 + (l.map f).sum, a.2 + (l.map g).sum)
  | [], a => by simp
  | x :: l, a => by rw [List.foldl_cons, fold_pair f g l]; simp; constructor <;> omega
theorem ref_e4 {t : Table} (G : GT t) {s r : Nat} (hs : s < 2 ^ t.Attrs.length) (hr : r < 2 ^ t.Attrs.length) :
    LoopF (drossref32_Error_l4 t ⟨(s : Int), (r : Int)⟩) (0, 0, 0) = some (((errN t s (s ||| r) 1 : Nat) : Int), ((errN t s (s ||| r) 2 : Nat) : Int)) := by
  have hn := G.rows
  have h := LoopF_foldl (List.range t.Rows.length) (fun (b : Nat × Nat) k => ((b.1 : Int), (b.2 : Int), k)) (drossref32_Error_l4 t ⟨(s : Int), (r : Int)⟩) (fun a i => (a.1 + nviol t s (s ||| r) i, a.2 + min (nviol t s (s ||| r) i) 1)) (fun b => ((b.1 : Int), (b.2 : Int))) (fun k b => b.1 ≤ k * t.Rows.length ∧ b.2 ≤ k) (b0 := (0, 0)) (s0 := (0, 0, 0)) rfl (by simp)
    (fun k b x hx hk hI => by
      obtain ⟨rfl, hk'⟩ := range_at hx
      have hv := nviol_le t s (s ||| r) x
      have hm : (x + 1) * t.Rows.length = x * t.Rows.length + t.Rows.length := Nat.succ_mul _ _
      have hmm : x * t.Rows.length ≤ 1000 * 1000 := Nat.mul_le_mul (by omega) hn
      refine ⟨?_, by simp only; omega, by simp only; omega⟩
      have hw2 := wrap_nat (show x < 4611686018427387904 by omega)
      have w1 : IntKind.i64.wrap ((b.1 : Int) + ((nviol t s (s ||| r) x : Nat) : Int)) = ((b.1 + nviol t s (s ||| r) x : Nat) : Int) := by rw [wrap_i64 (by omega) (by omega)]; omega
      have w2 : IntKind.i64.wrap ((b.2 : Int) + (if 1 < ((nviol t s (s ||| r) x : Nat) : Int) then 1 else ((nviol t s (s ||| r) x : Nat) : Int))) = ((b.2 + min (nviol t s (s ||| r) x) 1 : Nat) : Int) := by
        by_cases h1 : 1 < nviol t s (s ||| r) x
        · rw [if_pos (by omega), wrap_i64 (by omega) (by omega)]; omega
        · rw [if_neg (by omega), wrap_i64 (by omega) (by omega)]; omega
      simp only [drossref32_Error_l4, if_pos (show (x : Int) < (t.Rows.length : Int) by omega), ref_e3 G hs hr hk', Option.bind_some, w1, w2, hw2])
    (fun b _ => by simp [drossref32_Error_l4])
  rw [h, fold_pair]
  have e1 : phiN t s (s ||| r) 1 = nviol t s (s ||| r) := by funext i; simp [phiN]
  have e2 : phiN t s (s ||| r) 2 = fun i => min (nviol t s (s ||| r) i) 1 := by funext i; simp [phiN]
  simp only [errN, e1, e2, Nat.zero_add]
theorem err3_len (t : Table) (s p : Nat) : errN t s p 3 = (remIDs t s p).length := by
  have e3 : phiN t s p 3 = fun i => if remB t s p i = true then 1 else 0 := by funext i; simp [phiN]
  unfold errN remIDs remL
  rw [e3, sum_ite, List.length_map, List.countP_eq_length_filter]
/-- the answer of Error -/
def errA (t : Table) (f : FD) (m : Int) : Ratio × Int :=
  if fdErr t f = 0 then (if 1 ≤ m ∧ m ≤ 3 then (errR t f.Lhs.toNat (f.Lhs.toNat ||| f.Rhs.toNat) m.toNat, 0) else (⟨0, 0⟩, 1)) else (⟨0, 0⟩, fdErr t f)
theorem Error_eq (t : Table) (ht : okTable t) (f : FD) (h : okFD f) (m : Int) : approx_Error t f m = some (errA t f m) := by
  unfold errA
  by_cases he : fdErr t f = 0
  · obtain ⟨h0, hi⟩ := fdErr_zero he
    have G := gt_of ht h0
    obtain ⟨s, r, rfl, hs, hr⟩ := fd_of h
    obtain ⟨hs', hr'⟩ := lt_in hi
    simp only [approx_Error, known_eq t (tabOk_of ht) _ h, Option.bind_some, he, bne_self_eq_false, Bool.false_eq_true, if_false, if_true, Int.toNat_natCast, approx_measures]
    by_cases h1 : m ≥ 1
    · by_cases h3 : m ≤ 3
      · obtain ⟨k, rfl⟩ : ∃ k : Nat, m = (k : Int) := ⟨m.toNat, by omega⟩
        have hm := measured_eq G hs' hr' k (by omega)
        simp only [if_pos h1, h3, decide_true, if_true, Option.bind_some, hm, if_pos (show (1 : Int) ≤ (k : Int) ∧ True by exact ⟨by omega, trivial⟩), Int.toNat_natCast]
      · simp only [if_pos h1, h3, decide_false, Bool.false_eq_true, if_false, Option.bind_some, and_false]
    · simp only [if_neg h1, Bool.false_eq_true, if_false, Option.bind_some, if_neg (show ¬ ((1 : Int) ≤ m ∧ m ≤ 3) by omega)]
  · have hne : (fdErr t f != 0) = true := by simp [he]
    simp only [approx_Error, known_eq t (tabOk_of ht) _ h, Option.bind_some, hne, if_true, if_neg he]
theorem ref_Error_eq (t : Table) (ht : okTable t) (f : FD) (h : okFD f) (m : Int) : drossref32_Error t f m = some (errA t f m) := by
  unfold errA
  by_cases he : fdErr t f = 0
  · obtain ⟨h0, hi⟩ := fdErr_zero he
    have G := gt_of ht h0
    have hrem := ref_Removal_eq t ht f h
    obtain ⟨s, r, rfl, hs, hr⟩ := fd_of h
    obtain ⟨hs', hr'⟩ := lt_in hi
    have hn := G.rows
    have hck := check_eq t (tabOk_of ht) _ h
    rw [he] at hck
    simp only [remR, he, if_true, Int.toNat_natCast] at hrem
    simp only [drossref32_Error, hck, Option.bind_some, bne_self_eq_false, Bool.false_eq_true, if_false, he, if_true, Int.toNat_natCast]
    by_cases h1 : m < 1
    · rw [if_pos h1, if_neg (by omega)]
    · by_cases h3 : m > 3
      · rw [if_neg h1, if_pos h3, if_neg (by omega)]
      · rw [if_neg h1, if_neg h3, if_pos (show (1 : Int) ≤ m ∧ m ≤ 3 by omega)]
        obtain ⟨k, rfl⟩ : ∃ k : Nat, m = (k : Int) := ⟨m.toNat, by omega⟩
        have hk : k = 1 ∨ k = 2 ∨ k = 3 := by omega
        have hE := err_le t s (s ||| r) 1
        have hE2 := err_le1 t s (s ||| r) (m := 2) (by omega)
        have hE3 := err_le1 t s (s ||| r) (m := 3) (by omega)
        have hnn : t.Rows.length * t.Rows.length ≤ 1000 * 1000 := Nat.mul_le_mul hn hn
        unfold errR
        by_cases hz : t.Rows.length = 0
        · have hz' : ((t.Rows.length : Int) == 0) = true := by simp [hz]
          have h01 := ref_Of_nat 0 1 (by omega) (by omega) (by omega)
          simp only [hz', if_true, if_pos hz]
          rw [show drossref04_Of 0 1 = some (ratioN 0 1) from h01]
          rfl
        · have hz' : ((t.Rows.length : Int) == 0) = false := by simp; exact fun e => hz (by rw [e]; rfl)
          have hpos : 0 < t.Rows.length * t.Rows.length := Nat.mul_pos (by omega) (by omega)
          simp only [hz', Bool.false_eq_true, if_false, if_neg hz, ref_e4 G hs' hr', Option.bind_some, Int.toNat_natCast]
          have hw : IntKind.i64.wrap ((t.Rows.length : Int) * (t.Rows.length : Int)) = ((t.Rows.length * t.Rows.length : Nat) : Int) := by
            have : (t.Rows.length : Int) * (t.Rows.length : Int) = ((t.Rows.length * t.Rows.length : Nat) : Int) := by simp
            rw [this, wrap_i64 (by omega) (by omega)]
          rcases hk with rfl | rfl | rfl
          · have c1 : (((1 : Nat) : Int) == 1) = true := by decide
            simp only [c1, if_true, hw, ref_Of_nat _ _ (show errN t s (s ||| r) 1 < 2305843009213693952 by omega) hpos (by omega), Option.bind_some]
          · have c1 : (((2 : Nat) : Int) == 1) = false := by decide
            have c2 : (((2 : Nat) : Int) == 2) = true := by decide
            simp only [c1, c2, if_true, Bool.false_eq_true, if_false, ref_Of_nat _ _ (show errN t s (s ||| r) 2 < 2305843009213693952 by omega) (show 0 < t.Rows.length by omega) (by omega), Option.bind_some]
            simp
          · have c1 : (((3 : Nat) : Int) == 1) = false := by decide
            have c2 : (((3 : Nat) : Int) == 2) = false := by decide
            rw [err3_len] at hE3
            simp only [c1, c2, Bool.false_eq_true, if_false, hrem, Option.bind_some, ref_Of_nat _ _ (show (remIDs t s (s ||| r)).length < 2305843009213693952 by omega) (show 0 < t.Rows.length by omega) (by omega), err3_len]
            simp
  · have hne : (fdErr t f != 0) = true := by simp [he]
    simp only [drossref32_Error, check_eq t (tabOk_of ht) _ h, Option.bind_some, hne, if_true, if_neg he]
end Go.Proofs.YtjcdclpfeflfkaaDoor
/- The program's removal; the chapter's example; Error. -/
set_option linter.unusedVariables false
set_option linter.unusedSimpArgs false
namespace Go.Proofs.YtjcdclpfeflfkaaDoor
open Go Go.Ab

theorem intL_get (l : List Nat) (j : Nat) : (intL l)[j]? = (l[j]?).map (fun n : Nat => (n : Int)) := by simp [intL]
def idN (t : Table) (i : Nat) : Int := (rowN t i).ID
theorem foldl_app {α β : Type} (f : α → List β) : ∀ (l : List α) (o : List β), l.foldl (fun o x => o ++ f x) o = o ++ l.flatMap f
  | [], o => by simp
  | x :: l, o => by rw [List.foldl_cons, foldl_app f l]; simp
theorem flat_one {α β : Type} (f : α → β) : ∀ l : List α, (l.flatMap fun i => [f i]) = l.map f
  | [] => rfl
  | x :: l => by rw [List.flatMap_cons, flat_one f l]; rfl
theorem rem_l11 (t : Table) (b j : Nat) (d : List Nat) (hd : ∀ i ∈ d, i < t.Rows.length) (hl : d.length ≤ 1000000) (out : List Int) (ho : out.length ≤ 1000000000000) :
    LoopF (approx_Removal_l11 t (b : Int) (j : Int) (intL d)) (out, 0) = some (out ++ if j = b then [] else d.map (idN t)) := by
  have h := LoopF_foldl d (fun (o : List Int) k => (o, k)) (approx_Removal_l11 t (b : Int) (j : Int) (intL d)) (fun o i => o ++ if j = b then [] else [idN t i]) id (fun k o => o.length ≤ out.length + k) (b0 := out) (s0 := (out, 0)) rfl (by simp)
    (fun k o x hx hk hI => by
      have hki : ((k : Int) < ((intL d).length : Int)) := by rw [intL_len]; omega
      have e1 : idx (intL d) (k : Int) = some (x : Int) := by rw [idx_nat, intL_get, hx]; rfl
      have e2 := idx_get (rowN_get (hd x (List.mem_of_getElem? hx)))
      have hw := wrap_nat (show k < 4611686018427387904 by omega)
      have hr : roomB (o.length + 1) 8 = true := room8 (by omega)
      by_cases hj : j = b
      · have hne : ((j : Int) != (b : Int)) = false := by simp [hj]
        simp only [approx_Removal_l11, if_pos hki, e1, Option.bind_some, hne, Bool.false_eq_true, if_false, hw, if_pos hj, List.append_nil]
        exact ⟨trivial, by omega⟩
      · have hne : ((j : Int) != (b : Int)) = true := by simp; omega
        simp only [approx_Removal_l11, if_pos hki, e1, e2, hr, Option.bind_some, hne, if_true, hw, if_neg hj]
        exact ⟨rfl, by simp; omega⟩)
    (fun o _ => by simp [approx_Removal_l11, intL_len])
  rw [h, foldl_app]
  by_cases hj : j = b
  · simp only [if_pos hj, id]
    congr 2
    simp
  · simp only [if_neg hj, id]
    congr 2
    exact flat_one (idN t) d
/-- the rows of the parts that are not the best one -/
def outN (g : List (List Nat)) : List Nat := (List.range g.length).flatMap fun j => if j = bestN g then [] else g.getD j []
theorem map_outN (t : Table) (g : List (List Nat)) : (outN g).map (idN t) = (List.range g.length).flatMap fun j => if j = bestN g then [] else (g.getD j []).map (idN t) := by
  unfold outN
  rw [List.map_flatMap]
  congr 1
  funext j
  split <;> simp
theorem rem_l12 (t : Table) (g : List (List Nat)) (hg : g.length ≤ 1000) (hd : ∀ d ∈ g, (∀ i ∈ d, i < t.Rows.length) ∧ d.length ≤ 1000) (out : List Int) (ho : out.length ≤ 1000000000) :
    LoopF (approx_Removal_l12 t (intLL g) (bestN g : Nat)) (out, 0) = some (out ++ (outN g).map (idN t)) := by
  have h := LoopF_foldl (List.range g.length) (fun (o : List Int) k => (o, k)) (approx_Removal_l12 t (intLL g) (bestN g : Nat)) (fun o j => o ++ if j = bestN g then [] else (g.getD j []).map (idN t)) id (fun k o => o.length ≤ out.length + k * 1000) (b0 := out) (s0 := (out, 0)) rfl (by simp)
    (fun k o x hx hk hI => by
      obtain ⟨rfl, hxl⟩ := range_at hx
      have hki : ((x : Int) < ((intLL g).length : Int)) := by rw [intLL_len]; omega
      have hgx : g[x]? = some (g.getD x []) := by simp [List.getD, List.getElem?_eq_getElem hxl]
      have e1 : idx (intLL g) (x : Int) = some (intL (g.getD x [])) := by rw [idx_nat, intLL_get, hgx]; rfl
      obtain ⟨d1, d2⟩ := hd _ (List.mem_of_getElem? hgx)
      have hw := wrap_nat (show x < 4611686018427387904 by omega)
      refine ⟨?_, ?_⟩
      · simp only [approx_Removal_l12, if_pos hki, e1, Option.bind_some, rem_l11 t (bestN g) x _ d1 (by omega) o (by omega), hw]
      · rw [List.length_append]
        split
        · rename_i e; clear e; simp only [List.length_nil, Nat.add_zero, Nat.succ_mul]; exact Nat.le_trans hI (by omega)
        · rw [List.length_map]; omega)
    (fun o _ => by simp [approx_Removal_l12, intLL_len])
  rw [h, foldl_app, map_outN]; rfl
theorem outN_len (g : List (List Nat)) (hd : ∀ d ∈ g, d.length ≤ 1000) : (outN g).length ≤ g.length * 1000 := by
  unfold outN
  have key : ∀ m, m ≤ g.length → ((List.range m).flatMap fun j => if j = bestN g then [] else g.getD j []).length ≤ m * 1000 := by
    intro m
    induction m with
    | zero => intro _; simp
    | succ m ih =>
      intro hm
      have h1 := ih (by omega)
      have hgx : g[m]? = some (g.getD m []) := by simp [List.getD, List.getElem?_eq_getElem (show m < g.length by omega)]
      have h2 := hd _ (List.mem_of_getElem? hgx)
      rw [List.range_succ, List.flatMap_append, List.length_append]
      simp only [List.flatMap_cons, List.flatMap_nil, List.append_nil]
      by_cases e : m = bestN g
      · simp only [if_pos e, List.length_nil, Nat.add_zero]; clear e; exact Nat.le_trans h1 (by omega)
      · rw [if_neg e]; omega
  exact key _ (Nat.le_refl _)
theorem parts_bd {t : Table} (hn : t.Rows.length ≤ 1000) {s : Nat} (p : Nat) {c : List Nat} (hc : c ∈ clsN t s) : (parts t p c).length ≤ 1000 ∧ ∀ d ∈ parts t p c, (∀ i ∈ d, i < t.Rows.length) ∧ d.length ≤ 1000 := by
  have hcl : c.length ≤ 1000 := by
    have := class_len hc
    rw [List.length_range] at this; omega
  refine ⟨?_, fun d hd => ⟨fun i hi => (cls_self hc (part_of hd hi).1).1, ?_⟩⟩
  · have := classes_len (List UInt8) (fun i => rkey p (rowN t i)) c
    unfold parts; omega
  · have := class_len hd; omega
/-- what the program gathers -/
def outG (t : Table) (s p : Nat) : List Nat := (big (clsN t s)).flatMap fun c => outN (parts t p c)
theorem rem_l13 {t : Table} (hn : t.Rows.length ≤ 1000) (s p : Nat) : LoopF (approx_Removal_l13 t (intG (grpN t s p))) ([], 0) = some ((outG t s p).map (idN t)) := by
  have hbl : (big (clsN t s)).length ≤ 1000 := by
    have h2 := List.length_filter_le (fun c : List Nat => decide (2 ≤ c.length)) (clsN t s)
    have h3 := classes_len (List UInt8) (fun i => rkey s (rowN t i)) (List.range t.Rows.length)
    rw [List.length_range] at h3
    unfold big
    unfold clsN at h2 ⊢
    omega
  have h := LoopF_foldl (big (clsN t s)) (fun (o : List Int) k => (o, k)) (approx_Removal_l13 t (intG (grpN t s p))) (fun o c => o ++ (outN (parts t p c)).map (idN t)) id (fun k o => o.length ≤ k * 1000000) (b0 := []) (s0 := ([], 0)) rfl (by simp)
    (fun k o c hc hk hI => by
      obtain ⟨hcm, hc2⟩ := big_mem.1 (List.mem_of_getElem? hc)
      obtain ⟨b1, b2⟩ := parts_bd hn p hcm
      have hg : (intG (grpN t s p))[k]? = some (intLL (parts t p c)) := by
        rw [intG_get]; unfold grpN; rw [List.getElem?_map, hc]; rfl
      have hki : ((k : Int) < ((intG (grpN t s p)).length : Int)) := by
        rw [intG_len]; unfold grpN; rw [List.length_map]; omega
      have hbest := best_eq (parts t p c) (by omega) (fun d hd => by have := (b2 d hd).2; omega)
      have hw := wrap_nat (show k < 4611686018427387904 by omega)
      have hl := outN_len (parts t p c) (fun d hd => (b2 d hd).2)
      refine ⟨?_, ?_⟩
      · simp only [approx_Removal_l13, if_pos hki, idx_get hg, hbest, Option.bind_some, rem_l12 t (parts t p c) b1 b2 o (by omega), hw]
      · rw [List.length_append, List.length_map]; omega)
    (fun o _ => by
      have : (intG (grpN t s p)).length = (big (clsN t s)).length := by rw [intG_len]; simp [grpN]
      simp [approx_Removal_l13, this])
  rw [h, foldl_app]
  unfold outG
  rw [List.map_flatMap]
  simp
/-! ### the same rows, in order -/
theorem count_sum (a : Nat) (l : List Nat) : l.count a = (l.map fun x => if (x == a) = true then 1 else 0).sum := by
  rw [sum_ite]; rfl
theorem count_flat {α : Type} (a : Nat) (f : α → List Nat) : ∀ l : List α, (l.flatMap f).count a = (l.map fun x => (f x).count a).sum
  | [] => rfl
  | x :: l => by simp [List.count_append, count_flat a f l]
theorem range_map_getD {α β : Type} (g : List α) (z : α) (f : α → β) : ((List.range g.length).map fun j => f (g.getD j z)) = g.map f := by
  apply List.ext_getElem?
  intro j
  rw [List.getElem?_map, List.getElem?_map]
  by_cases h : j < g.length
  · rw [List.getElem?_range h, List.getElem?_eq_getElem h]
    simp [List.getD, List.getElem?_eq_getElem h]
  · rw [List.getElem?_eq_none (by simp; omega), List.getElem?_eq_none (by omega)]; rfl
theorem outN_count {t : Table} {s p : Nat} (F : FinerR t s p) {c : List Nat} (hc : c ∈ clsN t s) (a : Nat) : (outN (parts t p c)).count a = (c.map fun i => if (i == a) = true then (if remB t s p i then 1 else 0) else 0).sum := by
  have hsum := classes_sum (fun i => rkey p (rowN t i)) (fun i => if (i == a) = true then (if remB t s p i then 1 else 0) else 0) c
  rw [← hsum, show classes (fun i => rkey p (rowN t i)) c = parts t p c from rfl]
  unfold outN
  rw [count_flat]
  rw [← range_map_getD (parts t p c) [] (fun d => (d.map fun i => if (i == a) = true then (if remB t s p i then 1 else 0) else 0).sum)]
  congr 1
  apply List.map_congr_left
  intro j hj
  have hjl : j < (parts t p c).length := by simpa using hj
  have hgx : (parts t p c)[j]? = some ((parts t p c).getD j []) := by simp [List.getD, List.getElem?_eq_getElem hjl]
  have hr : ∀ i ∈ (parts t p c).getD j [], remB t s p i = decide (j ≠ bestN (parts t p c)) := fun i hi => rem_iff F hc hgx hi
  by_cases e : j = bestN (parts t p c)
  · rw [if_pos e]
    have : ((parts t p c).getD j []).map (fun i => if (i == a) = true then (if remB t s p i then 1 else 0) else 0) = ((parts t p c).getD j []).map fun _ => 0 := by
      apply List.map_congr_left
      intro i hi
      rw [hr i hi]; simp [e]
    rw [this, sum_const]; simp
  · rw [if_neg e, count_sum]
    congr 1
    apply List.map_congr_left
    intro i hi
    rw [hr i hi]; simp [e]
theorem outG_perm {t : Table} {s p : Nat} (F : FinerR t s p) : (outG t s p).Perm (remL t s p) := by
  rw [List.perm_iff_count]
  intro a
  unfold outG
  rw [count_flat]
  have h1 : (big (clsN t s)).map (fun c => (outN (parts t p c)).count a) = (big (clsN t s)).map fun c => (c.map fun i => if (i == a) = true then (if remB t s p i then 1 else 0) else 0).sum := by
    apply List.map_congr_left
    intro c hc
    exact outN_count F (big_mem.1 hc).1 a
  rw [h1, big_sum (s := s) (fun i => if (i == a) = true then (if remB t s p i then 1 else 0) else 0) (fun i hi h => by
    have := phi_single (m := 3) F hi h
    simp only [phiN] at this
    have h2 : (if remB t s p i then 1 else 0) = 0 := by simpa using this
    rw [h2]; simp)]
  unfold remL
  rw [count_sum]
  have : ∀ l : List Nat, (l.map fun i => if (i == a) = true then (if remB t s p i then 1 else 0) else 0).sum = ((l.filter fun i => remB t s p i).map fun x => if (x == a) = true then 1 else 0).sum := by
    intro l
    induction l with
    | nil => rfl
    | cons x l ih =>
      rw [List.map_cons, List.sum_cons, ih]
      by_cases h : remB t s p x = true
      · simp [h]
      · simp [h]
  exact this _
theorem rows_asc : ∀ (rows : List Row) (n : Nat) (b : Int), rowsCode n b rows = 0 → (∀ r ∈ rows, b < r.ID) ∧ rows.Pairwise fun x y => x.ID < y.ID
  | [], _, _, _ => by simp
  | r :: rows, n, b, h => by
    simp only [rowsCode] at h
    by_cases h1 : r.ID ≤ b
    · rw [if_pos h1] at h; cases h
    · rw [if_neg h1] at h
      by_cases h2 : r.Values.length = n
      · by_cases h3 : r.Values.all valid = true
        · simp only [h2, h3, ne_eq, not_true_eq_false, if_false, if_true, Bool.not_true, Bool.false_eq_true, Bool.true_eq_false] at h
          obtain ⟨p1, p2⟩ := rows_asc rows n _ h
          refine ⟨fun x hx => ?_, List.pairwise_cons.2 ⟨p1, p2⟩⟩
          rcases List.mem_cons.1 hx with rfl | hx
          · omega
          · have := p1 x hx; omega
        · simp [h2, h3] at h
      · simp [h2] at h
theorem idN_asc {t : Table} (G : GT t) {i k : Nat} (h : i < k) (hk : k < t.Rows.length) : idN t i < idN t k := by
  have := (rows_asc _ _ _ G.code).2
  have h2 := List.pairwise_iff_getElem.1 this i k (by omega) hk h
  have e1 : rowN t i = t.Rows[i] := by simp [rowN, List.getD, List.getElem?_eq_getElem (show i < t.Rows.length by omega)]
  have e2 : rowN t k = t.Rows[k] := by simp [rowN, List.getD, List.getElem?_eq_getElem hk]
  unfold idN
  rw [e1, e2]; exact h2
theorem remIDs_sorted {t : Table} (G : GT t) (s p : Nat) : (remIDs t s p).Pairwise (· < ·) := by
  unfold remIDs
  rw [List.pairwise_map]
  have h : (remL t s p).Pairwise (· < ·) := List.Pairwise.sublist List.filter_sublist List.pairwise_lt_range
  have h2 : ∀ i ∈ remL t s p, i < t.Rows.length := fun i hi => by
    have := (List.mem_filter.1 hi).1
    simpa using this
  exact List.Pairwise.imp_of_mem (fun {a b} ha hb hab => idN_asc G hab (h2 b hb)) h
theorem sorted_unique {l l' : List Int} (hp : l.Perm l') (h1 : l.Pairwise (· ≤ ·)) (h2 : l'.Pairwise (· < ·)) : l = l' :=
  List.Perm.eq_of_pairwise (le := (· ≤ ·)) (fun a b _ _ h1 h2 => Int.le_antisymm h1 h2) h1 (h2.imp fun {a b} h => Int.le_of_lt h) hp
theorem Removal_eq (t : Table) (ht : okTable t) (f : FD) (h : okFD f) : approx_Removal t f = some (remR t f) := by
  unfold remR
  by_cases he : fdErr t f = 0
  · obtain ⟨h0, hi⟩ := fdErr_zero he
    have G := gt_of ht h0
    obtain ⟨s, r, rfl, hs, hr⟩ := fd_of h
    obtain ⟨hs', hr'⟩ := lt_in hi
    have hn := G.rows
    have hperm : ((outG t s (s ||| r)).map (idN t)).Perm (remIDs t s (s ||| r)) := (outG_perm (finerR_or G hs' hr')).map _
    have hlen : (remIDs t s (s ||| r)).length ≤ 1000 := by
      unfold remIDs remL
      have := List.length_filter_le (fun i => remB t s (s ||| r) i) (List.range t.Rows.length)
      rw [List.length_range] at this
      rw [List.length_map]; omega
    have hs : srtIF ((outG t s (s ||| r)).map (idN t)) = some (remIDs t s (s ||| r)) := by
      unfold srtIF
      rw [if_pos (by rw [hperm.length_eq]; omega)]
      exact congrArg some (sorted_unique ((srtI_perm _).trans hperm) (srtI_sorted _) (remIDs_sorted G _ _))
    simp only [approx_Removal, known_eq t (tabOk_of ht) _ h, Option.bind_some, he, bne_self_eq_false, Bool.false_eq_true, if_false, if_true, Int.toNat_natCast, groups_fd G hs' hr', rem_l13 hn, hs]
  · have hne : (fdErr t f != 0) = true := by simp [he]
    simp only [approx_Removal, known_eq t (tabOk_of ht) _ h, Option.bind_some, hne, if_true, if_neg he]
end Go.Proofs.YtjcdclpfeflfkaaDoor
/- Approx: the chapter's example. -/
set_option linter.unusedVariables false
set_option linter.unusedSimpArgs false
namespace Go.Proofs.YtjcdclpfeflfkaaDoor
open Go Go.Ab

def ex32 : Table := ⟨[114], [[97], [98]], [⟨1, [⟨1, 1, []⟩, ⟨1, 1, []⟩]⟩, ⟨2, [⟨1, 1, []⟩, ⟨1, 1, []⟩]⟩, ⟨3, [⟨1, 1, []⟩, ⟨1, 2, []⟩]⟩, ⟨4, [⟨1, 2, []⟩, ⟨2, 0, [98]⟩]⟩]⟩
theorem v32a : errA ex32 ⟨1, 2⟩ 1 = (⟨1, 4⟩, 0) := by decide +kernel
theorem v32b : errA ex32 ⟨1, 2⟩ 2 = (⟨3, 4⟩, 0) := by decide +kernel
theorem v32c : errA ex32 ⟨1, 2⟩ 3 = (⟨1, 4⟩, 0) := by decide +kernel
theorem v32d : remR ex32 ⟨1, 2⟩ = ([3], 0) := by decide +kernel
theorem ofV_5 : ofV 5 = ⟨2, 0, [98]⟩ := by simp [ofV, drossref01_Of]
theorem ok_ex32 : okTable ex32 := by
  refine ⟨by show okS _; unfold okS; decide, ⟨by decide, ?_⟩, ⟨by decide, ?_⟩⟩
  · intro x hx
    have : x = [97] ∨ x = [98] := by simpa [ex32] using hx
    rcases this with rfl | rfl <;> (unfold okS; decide)
  · intro x hx
    have hx' : x = ⟨1, [⟨1, 1, []⟩, ⟨1, 1, []⟩]⟩ ∨ x = ⟨2, [⟨1, 1, []⟩, ⟨1, 1, []⟩]⟩ ∨ x = ⟨3, [⟨1, 1, []⟩, ⟨1, 2, []⟩]⟩ ∨ x = ⟨4, [⟨1, 2, []⟩, ⟨2, 0, [98]⟩]⟩ := by simpa [ex32] using hx
    have hv : ∀ v : Value, v = ⟨1, 1, []⟩ ∨ v = ⟨1, 2, []⟩ ∨ v = ⟨2, 0, [98]⟩ → okValue v := by
      rintro v (rfl | rfl | rfl)
      · exact ⟨by show Lit.wf _ = true; decide, by show Lit.wf _ = true; decide, by show okS _; unfold okS; decide⟩
      · exact ⟨by show Lit.wf _ = true; decide, by show Lit.wf _ = true; decide, by show okS _; unfold okS; decide⟩
      · exact ⟨by show Lit.wf _ = true; decide, by show Lit.wf _ = true; decide, by show okS _; unfold okS; decide⟩
    rcases hx' with rfl | rfl | rfl | rfl
    all_goals
      refine ⟨by show Lit.wf _ = true; decide, ⟨by decide, fun v h => hv v ?_⟩⟩
      simp only [List.mem_cons, List.not_mem_nil, or_false] at h
      rcases h with rfl | rfl <;> simp
theorem example32_eq : drosslaw32_example = some ex32 := by
  have h := LoopF_foldl (List.range 4) (fun (o : List Row) i => (o, i)) (drosslaw32_example_l1 [[1, 1], [1, 1], [1, 2], [2, 5]]) (fun o (k : Nat) => o ++ [⟨(k : Int) + 1, ((([[1, 1], [1, 1], [1, 2], [2, 5]] : List (List Int)).getD k []).map ofV)⟩]) id (fun k o => o.length = k) (b0 := []) (s0 := ([], 0)) rfl rfl
    (fun k o z hz hk hI => by
      obtain ⟨rfl, hk3⟩ := range_at hz
      refine ⟨?_, by simp [hI]⟩
      have hi : ([[1, 1], [1, 1], [1, 2], [2, 5]] : List (List Int))[z]? = some (([[1, 1], [1, 1], [1, 2], [2, 5]] : List (List Int)).getD z []) := by
        have : z < ([[1, 1], [1, 1], [1, 2], [2, 5]] : List (List Int)).length := hk3
        simp [List.getD, List.getElem?_eq_getElem this]
      have hl : (([[1, 1], [1, 1], [1, 2], [2, 5]] : List (List Int)).getD z []).length ≤ 1048576 := by
        rcases z with _ | _ | _ | _ | z
        · simp
        · simp
        · simp
        · simp
        · omega
      have hw : IntKind.i64.wrap ((z : Int) + 1) = (z : Int) + 1 := by rw [wrap_i64 (by omega) (by omega)]
      simp only [drosslaw32_example_l1, if_pos (show (z : Int) < 4 by omega), idx_get hi, Option.bind_some, List01_eq _ hl, room_le (show o.length + 1 ≤ 1073741824 by omega) (show 32 ≤ 65536 by omega), if_true, hw]
      rfl)
    (fun o _ => by simp [drosslaw32_example_l1])
  simp only [drosslaw32_example, Option.bind_some, h, id]
  simp only [ex32, List.range, List.range.loop, List.foldl_cons, List.foldl_nil, List.getD, List.getElem?_cons_zero, List.getElem?_cons_succ, Option.getD_some, List.map_cons, List.map_nil, ofV_1, ofV_2, ofV_5, List.nil_append, List.cons_append]
  rfl
theorem ok_f12 : okFD ⟨1, 2⟩ := ⟨by show Lit.wf _ = true; decide, by show Lit.wf _ = true; decide⟩
theorem awake32 : drosslaw32_awake = some true := by
  have h1 : ratioN 1 4 = ⟨1, 4⟩ := by decide +kernel
  have h3 : ratioN 3 4 = ⟨3, 4⟩ := by decide +kernel
  have r1 : drossref04_Of 1 4 = some ⟨1, 4⟩ := by rw [← h1]; exact ref_Of_nat 1 4 (by omega) (by omega) (by omega)
  have r3 : drossref04_Of 3 4 = some ⟨3, 4⟩ := by rw [← h3]; exact ref_Of_nat 3 4 (by omega) (by omega) (by omega)
  have hid := IDs_eq [3] [3] (by simp)
  simp only [drosslaw32_awake, example32_eq, Option.bind_some, Error_eq ex32 ok_ex32 _ ok_f12, Removal_eq ex32 ok_ex32 _ ok_f12, v32a, v32b, v32c, v32d, r1, r3, beq_self_eq_true, Bool.and_self, if_true, hid, decide_true]
end Go.Proofs.YtjcdclpfeflfkaaDoor
/- ApproxError. -/
set_option linter.unusedVariables false
set_option linter.unusedSimpArgs false
namespace Go.Proofs.YtjcdclpfeflfkaaDoor
open Go Go.Ab

theorem gcd_sub {n d : Nat} (h : n ≤ d) (hc : Nat.gcd n d = 1) : Nat.gcd (d - n) d = 1 := by
  have h1 : Nat.gcd (d - n) d ∣ n := by
    have h2 : n = d - (d - n) := by omega
    rw [h2]
    exact Nat.dvd_sub (by rw [← h2]; exact Nat.gcd_dvd_right _ _) (by rw [← h2]; exact Nat.gcd_dvd_left _ _)
  have h3 := Nat.dvd_gcd h1 (Nat.gcd_dvd_right (d - n) d)
  rw [hc] at h3
  exact Nat.dvd_one.1 h3
theorem ratio_conf {n d : Nat} (h : n ≤ d) (hd : 0 < d) (hd' : d < 2305843009213693952) :
    drossref04_Of (IntKind.i64.wrap ((ratioN n d).Den - (ratioN n d).Num)) (ratioN n d).Den = some ⟨IntKind.i64.wrap ((ratioN n d).Den - (ratioN n d).Num), (ratioN n d).Den⟩ := by
  have hg : 0 < Nat.gcd n d := Nat.gcd_pos_of_pos_right _ hd
  have hc : Nat.gcd (n / Nat.gcd n d) (d / Nat.gcd n d) = 1 := by
    rw [Nat.gcd_div (Nat.gcd_dvd_left n d) (Nat.gcd_dvd_right n d), Nat.div_self hg]
  have hle : n / Nat.gcd n d ≤ d / Nat.gcd n d := Nat.div_le_div_right h
  have hdd : d / Nat.gcd n d ≤ d := Nat.div_le_self _ _
  have hpos : 0 < d / Nat.gcd n d := Nat.div_pos (Nat.gcd_le_right _ hd) hg
  simp only [ratioN]
  generalize n / Nat.gcd n d = p at *
  generalize d / Nat.gcd n d = q at *
  have hw : IntKind.i64.wrap ((q : Int) - (p : Int)) = ((q - p : Nat) : Int) := by rw [wrap_i64 (by omega) (by omega)]; omega
  rw [hw, ref_Of_nat (q - p) q (by omega) hpos (by omega)]
  unfold ratioN
  rw [gcd_sub hle hc, Nat.div_one, Nat.div_one]
theorem confidence_eq (t : Table) (ht : okTable t) (f : FD) (h : okFD f) : ∃ a, approx_Confidence t f = some a ∧ drossref32_Confidence t f = some a := by
  have e1 := Error_eq t ht f h 3
  have e2 := ref_Error_eq t ht f h 3
  simp only [approx_Confidence, drossref32_Confidence, e1, e2, Option.bind_some]
  by_cases he : fdErr t f = 0
  · obtain ⟨h0, hi⟩ := fdErr_zero he
    have G := gt_of ht h0
    have hn := G.rows
    have hA : errA t f 3 = (errR t f.Lhs.toNat (f.Lhs.toNat ||| f.Rhs.toNat) 3, 0) := by
      unfold errA
      rw [if_pos he, if_pos (by omega)]; rfl
    rw [hA]
    simp only [bne_self_eq_false, Bool.false_eq_true, if_false]
    unfold errR
    by_cases hz : t.Rows.length = 0
    · have h01 := ratio_conf (n := 0) (d := 1) (by omega) (by omega) (by omega)
      have : (⟨0, 1⟩ : Ratio) = ratioN 0 1 := by decide +kernel
      rw [if_pos hz, this, h01]
      exact ⟨_, rfl, rfl⟩
    · have hE3 := err_le1 t f.Lhs.toNat (f.Lhs.toNat ||| f.Rhs.toNat) (m := 3) (by omega)
      have h01 := ratio_conf hE3 (by omega) (by omega)
      rw [if_neg hz]
      simp only [show ¬ ((3 : Nat) = 1) by omega, if_false]
      rw [h01]
      exact ⟨_, rfl, rfl⟩
  · have hA : errA t f 3 = (⟨0, 0⟩, fdErr t f) := by unfold errA; rw [if_neg he]
    have hne : (fdErr t f != 0) = true := by simp [he]
    rw [hA]
    simp only [hne, if_true]
    exact ⟨_, rfl, rfl⟩
theorem ApproxError_holds (t : Table) (fd : FD) (m : Int) (h1 : okTable t) (h2 : okFD fd) (h3 : okI .i64 m) : drosslaw32_ApproxError t fd m = some true := by
  obtain ⟨a, c1, c2⟩ := confidence_eq t h1 fd h2
  simp only [drosslaw32_ApproxError, awake32, Option.bind_some, if_true, Error_eq t h1 fd h2 m, ref_Error_eq t h1 fd h2 m, c1, c2, beq_self_eq_true, Bool.and_self]
  by_cases hc : decide ((t.Rows.length : Int) > 12) = true <;> simp [hc]
end Go.Proofs.YtjcdclpfeflfkaaDoor
