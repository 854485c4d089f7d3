/- The Lean functions that the program's functions are lifted to, and the plain laws about them. -/
import Derived.Test.YtjcdclpfeflfkaaDoorL1
/- The reference of the errors, and the removal. -/
set_option linter.unusedVariables false
set_option linter.unusedSimpArgs false
namespace Go.Proofs.YtjcdclpfeflfkaaDoor
open Go Go.Ab

theorem attrs_of {t : Table} (h : tableErr t = 0) : t.Attrs.length ≤ 16 := by
  unfold tableErr at h
  split at h
  · cases h
  · split at h
    · cases h
    · omega
/-- a dependency within the table -/
def inB (t : Table) (f : FD) : Bool := decide ((f.Lhs.toNat ||| f.Rhs.toNat) < 2 ^ t.Attrs.length)
theorem okI_u32 {n : Int} (h : okI .u32 n) : 0 ≤ n ∧ n ≤ 4294967295 := by
  have h' : (decide (IntKind.min .u32 ≤ n) && decide (n ≤ IntKind.max .u32)) = true := h
  simp only [Bool.and_eq_true, decide_eq_true_eq] at h'
  have e1 : IntKind.min .u32 = 0 := by decide
  have e2 : IntKind.max .u32 = 4294967295 := by decide
  rw [e1, e2] at h'
  exact h'
theorem okI_i64 {n : Int} (h : okI .i64 n) : -9223372036854775808 ≤ n ∧ n ≤ 9223372036854775807 := by
  have h' : (decide (IntKind.min .i64 ≤ n) && decide (n ≤ IntKind.max .i64)) = true := h
  simp only [Bool.and_eq_true, decide_eq_true_eq] at h'
  have e1 : IntKind.min .i64 = -9223372036854775808 := by decide
  have e2 : IntKind.max .i64 = 9223372036854775807 := by decide
  rw [e1, e2] at h'
  exact h'
theorem fd_of {f : FD} (h : okFD f) : ∃ s r : Nat, f = ⟨(s : Int), (r : Int)⟩ ∧ s < 4294967296 ∧ r < 4294967296 := by
  obtain ⟨h1, h2⟩ := h
  obtain ⟨L, R⟩ := f
  have q1 := okI_u32 h1
  have q2 := okI_u32 h2
  simp only at q1 q2
  refine ⟨L.toNat, R.toNat, ?_, by omega, by omega⟩
  congr 1 <;> omega
theorem shift_zero {n s : Nat} (hn : n ≤ 16) (hs : s < 4294967296) : ((Int.fdiv (IntKind.u64.wrap (s : Int)) (2 ^ (min ((n : Int)).toNat 64))) != 0) = !decide (s < 2 ^ n) := by
  rw [Int.toNat_natCast, Nat.min_eq_left (show n ≤ 64 by omega), wrap_u64 (n := (s : Int)) (by omega) (by omega), fdiv_pow]
  have hp : 0 < 2 ^ n := Nat.pow_pos (by omega)
  by_cases h : s < 2 ^ n
  · rw [Nat.div_eq_of_lt h]; simp [h]
  · have h2 := Nat.div_pos (show 2 ^ n ≤ s by omega) hp
    have : ¬ ((s / 2 ^ n : Nat) : Int) = 0 := by omega
    simp only [h, decide_false, Bool.not_false, bne_iff_ne, ne_eq]
    exact this
theorem known_list (t : Table) (T : TableOk t) (fds : List FD) (hl : fds.length ≤ 1000000) (h : ∀ f ∈ fds, okFD f) : approx_known t fds = some (if tableErr t = 0 then (if fds.all (inB t) then 0 else 6) else tableErr t) := by
  by_cases he : tableErr t = 0
  · have hn := attrs_of he
    have hb : ∀ (k : Nat) (f : FD), fds[k]? = some f → k < fds.length → approx_known_l1 t fds (k : Int) = some (if inB t f then .next ((k : Int) + 1) else .done (.inr 6)) := by
      intro k f hf hk
      obtain ⟨s, r, rfl, hs, hr⟩ := fd_of (h f (List.mem_of_getElem? hf))
      have h1 : ¬ ((t.Attrs.length : Int) < 0) := by omega
      have h2 := shift_zero hn (or_lt hs hr)
      have hw : IntKind.i64.wrap ((k : Int) + 1) = (k : Int) + 1 := by rw [wrap_i64 (by omega) (by omega)]
      have h3 : inB t ⟨(s : Int), (r : Int)⟩ = decide ((s ||| r) < 2 ^ t.Attrs.length) := by simp [inB]
      simp only [approx_known_l1, if_pos (lt_true hf), idx_get hf, Option.bind_some, if_neg h1, w32_or hs hr, h2, h3, hw]
      by_cases hc : (s ||| r) < 2 ^ t.Attrs.length <;> simp [hc]
    have hall := LoopF_all fds (approx_known_l1 t fds) (inB t) 6
      (fun k f hf hk hp => by rw [hb k f hf hk, if_pos hp]; rfl)
      (fun k f hf hp => by rw [hb k f hf (lt_of_get hf), if_neg (by simp [hp])])
      (by simp [approx_known_l1])
    simp only [approx_known, table_Valid_table t T, Option.bind_some, he, bne_self_eq_false, Bool.false_eq_true, if_false, hall, if_true]
    by_cases hc : fds.all (inB t) = true <;> simp [hc]
  · have hne : (tableErr t != 0) = true := by simp [he]
    simp only [approx_known, table_Valid_table t T, Option.bind_some, hne, if_true, if_neg he]
def fdErr (t : Table) (f : FD) : Int := if tableErr t = 0 then (if inB t f then 0 else 6) else tableErr t
theorem known_eq (t : Table) (T : TableOk t) (f : FD) (h : okFD f) : approx_known t [f] = some (fdErr t f) := by
  rw [known_list t T [f] (by simp) (fun g hg => by rw [List.mem_singleton.1 hg]; exact h)]
  simp [fdErr]
theorem agN_comm (t : Table) (p i k : Nat) : agN t p i k = agN t p k i := by
  unfold agN; rw [decide_eq_decide]; exact eq_comm
theorem agN_or {t : Table} (G : GT t) {s r : Nat} (hs : s < 2 ^ t.Attrs.length) (hr : r < 2 ^ t.Attrs.length) {i k : Nat} (hi : i < t.Rows.length) (hk : k < t.Rows.length) : agN t (s ||| r) i k = (agN t s i k && agN t r i k) := by
  rw [Bool.eq_iff_iff, Bool.and_eq_true, agN_iff G hs hi hk, agN_iff G hr hi hk, agN_iff G (Nat.or_lt_two_pow hs hr) hi hk]
  unfold AgreeN
  constructor
  · intro h
    exact ⟨fun a ha hb => h a ha (by rw [Nat.testBit_or, hb]; rfl), fun a ha hb => h a ha (by rw [Nat.testBit_or, hb, Bool.or_true])⟩
  · rintro ⟨h1, h2⟩ a ha hb
    rw [Nat.testBit_or, Bool.or_eq_true] at hb
    rcases hb with hb | hb
    · exact h1 a ha hb
    · exact h2 a ha hb
theorem sum_ite {α : Type} (p : α → Bool) : ∀ l : List α, (l.map fun x => if p x = true then 1 else 0).sum = l.countP p
  | [] => rfl
  | x :: l => by
    rw [List.map_cons, List.sum_cons, sum_ite p l, List.countP_cons]
    by_cases h : p x = true <;> simp [h] <;> omega
theorem range_at {n k z : Nat} (h : (List.range n)[k]? = some z) : z = k ∧ k < n := by
  have hk : k < n := by have := lt_of_get h; simpa using this
  rw [List.getElem?_range hk] at h
  exact ⟨(Option.some.inj h).symm, hk⟩
theorem lt_u32 {t : Table} (G : GT t) {s : Nat} (hs : s < 2 ^ t.Attrs.length) : s < 4294967296 := pow_u32 G.attrs hs
/-! ### the reference's removal -/
/-- the rows that are removed -/
def remL (t : Table) (s p : Nat) : List Nat := (List.range t.Rows.length).filter fun i => remB t s p i
def remIDs (t : Table) (s p : Nat) : List Int := (remL t s p).map fun i => (rowN t i).ID
theorem lt_in {t : Table} {s r : Nat} (h : inB t ⟨(s : Int), (r : Int)⟩ = true) : s < 2 ^ t.Attrs.length ∧ r < 2 ^ t.Attrs.length := by
  simp only [inB, Int.toNat_natCast, decide_eq_true_eq] at h
  exact ⟨Nat.lt_of_le_of_lt Nat.left_le_or h, Nat.lt_of_le_of_lt Nat.right_le_or h⟩
/-- the rows that the program and the reference remove -/
def remR (t : Table) (f : FD) : List Int × Int := if fdErr t f = 0 then (remIDs t f.Lhs.toNat (f.Lhs.toNat ||| f.Rhs.toNat), 0) else ([], fdErr t f)
theorem gt_of {t : Table} (h : okTable t) (he : tableErr t = 0) : GT t := by
  refine ⟨tabOk_of h, he, fun r hr v hv => ?_⟩
  exact okI_i64 ((h.2.2.2 r hr).2.2 v hv).2.1
theorem fdErr_zero {t : Table} {f : FD} (h : fdErr t f = 0) : tableErr t = 0 ∧ inB t f = true := by
  unfold fdErr at h
  by_cases he : tableErr t = 0
  · rw [if_pos he] at h
    by_cases hi : inB t f = true
    · exact ⟨he, hi⟩
    · rw [if_neg hi] at h; cases h
  · rw [if_neg he] at h; exact absurd h he
/-! ### the reference's errors -/
/-- the answer of Error -/
def errA (t : Table) (f : FD) (m : Int) : Ratio × Int :=
  if fdErr t f = 0 then (if 1 ≤ m ∧ m ≤ 3 then (errR t f.Lhs.toNat (f.Lhs.toNat ||| f.Rhs.toNat) m.toNat, 0) else (⟨0, 0⟩, 1)) else (⟨0, 0⟩, fdErr t f)
theorem Error_eq (t : Table) (ht : okTable t) (f : FD) (h : okFD f) (m : Int) : approx_Error t f m = some (errA t f m) := by
  unfold errA
  by_cases he : fdErr t f = 0
  · obtain ⟨h0, hi⟩ := fdErr_zero he
    have G := gt_of ht h0
    obtain ⟨s, r, rfl, hs, hr⟩ := fd_of h
    obtain ⟨hs', hr'⟩ := lt_in hi
    simp only [approx_Error, known_eq t (tabOk_of ht) _ h, Option.bind_some, he, bne_self_eq_false, Bool.false_eq_true, if_false, if_true, Int.toNat_natCast, approx_measures]
    by_cases h1 : m ≥ 1
    · by_cases h3 : m ≤ 3
      · obtain ⟨k, rfl⟩ : ∃ k : Nat, m = (k : Int) := ⟨m.toNat, by omega⟩
        have hm := measured_eq G hs' hr' k (by omega)
        simp only [if_pos h1, h3, decide_true, if_true, Option.bind_some, hm, if_pos (show (1 : Int) ≤ (k : Int) ∧ True by exact ⟨by omega, trivial⟩), Int.toNat_natCast]
      · simp only [if_pos h1, h3, decide_false, Bool.false_eq_true, if_false, Option.bind_some, and_false]
    · simp only [if_neg h1, Bool.false_eq_true, if_false, Option.bind_some, if_neg (show ¬ ((1 : Int) ≤ m ∧ m ≤ 3) by omega)]
  · have hne : (fdErr t f != 0) = true := by simp [he]
    simp only [approx_Error, known_eq t (tabOk_of ht) _ h, Option.bind_some, hne, if_true, if_neg he]
end Go.Proofs.YtjcdclpfeflfkaaDoor
/- The program's removal; the chapter's example; Error. -/
set_option linter.unusedVariables false
set_option linter.unusedSimpArgs false
namespace Go.Proofs.YtjcdclpfeflfkaaDoor
open Go Go.Ab

theorem intL_get (l : List Nat) (j : Nat) : (intL l)[j]? = (l[j]?).map (fun n : Nat => (n : Int)) := by simp [intL]
def idN (t : Table) (i : Nat) : Int := (rowN t i).ID
theorem foldl_app {α β : Type} (f : α → List β) : ∀ (l : List α) (o : List β), l.foldl (fun o x => o ++ f x) o = o ++ l.flatMap f
  | [], o => by simp
  | x :: l, o => by rw [List.foldl_cons, foldl_app f l]; simp
theorem flat_one {α β : Type} (f : α → β) : ∀ l : List α, (l.flatMap fun i => [f i]) = l.map f
  | [] => rfl
  | x :: l => by rw [List.flatMap_cons, flat_one f l]; rfl
theorem rem_l11 (t : Table) (b j : Nat) (d : List Nat) (hd : ∀ i ∈ d, i < t.Rows.length) (hl : d.length ≤ 1000000) (out : List Int) (ho : out.length ≤ 1000000000000) :
    LoopF (approx_Removal_l11 t (b : Int) (j : Int) (intL d)) (out, 0) = some (out ++ if j = b then [] else d.map (idN t)) := by
  have h := LoopF_foldl d (fun (o : List Int) k => (o, k)) (approx_Removal_l11 t (b : Int) (j : Int) (intL d)) (fun o i => o ++ if j = b then [] else [idN t i]) id (fun k o => o.length ≤ out.length + k) (b0 := out) (s0 := (out, 0)) rfl (by simp)
    (fun k o x hx hk hI => by
      have hki : ((k : Int) < ((intL d).length : Int)) := by rw [intL_len]; omega
      have e1 : idx (intL d) (k : Int) = some (x : Int) := by rw [idx_nat, intL_get, hx]; rfl
      have e2 := idx_get (rowN_get (hd x (List.mem_of_getElem? hx)))
      have hw := wrap_nat (show k < 4611686018427387904 by omega)
      have hr : roomB (o.length + 1) 8 = true := room8 (by omega)
      by_cases hj : j = b
      · have hne : ((j : Int) != (b : Int)) = false := by simp [hj]
        simp only [approx_Removal_l11, if_pos hki, e1, Option.bind_some, hne, Bool.false_eq_true, if_false, hw, if_pos hj, List.append_nil]
        exact ⟨trivial, by omega⟩
      · have hne : ((j : Int) != (b : Int)) = true := by simp; omega
        simp only [approx_Removal_l11, if_pos hki, e1, e2, hr, Option.bind_some, hne, if_true, hw, if_neg hj]
        exact ⟨rfl, by simp; omega⟩)
    (fun o _ => by simp [approx_Removal_l11, intL_len])
  rw [h, foldl_app]
  by_cases hj : j = b
  · simp only [if_pos hj, id]
    congr 2
    simp
  · simp only [if_neg hj, id]
    congr 2
    exact flat_one (idN t) d
/-- the rows of the parts that are not the best one -/
def outN (g : List (List Nat)) : List Nat := (List.range g.length).flatMap fun j => if j = bestN g then [] else g.getD j []
theorem map_outN (t : Table) (g : List (List Nat)) : (outN g).map (idN t) = (List.range g.length).flatMap fun j => if j = bestN g then [] else (g.getD j []).map (idN t) := by
  unfold outN
  rw [List.map_flatMap]
  congr 1
  funext j
  split <;> simp
theorem rem_l12 (t : Table) (g : List (List Nat)) (hg : g.length ≤ 1000) (hd : ∀ d ∈ g, (∀ i ∈ d, i < t.Rows.length) ∧ d.length ≤ 1000) (out : List Int) (ho : out.length ≤ 1000000000) :
    LoopF (approx_Removal_l12 t (intLL g) (bestN g : Nat)) (out, 0) = some (out ++ (outN g).map (idN t)) := by
  have h := LoopF_foldl (List.range g.length) (fun (o : List Int) k => (o, k)) (approx_Removal_l12 t (intLL g) (bestN g : Nat)) (fun o j => o ++ if j = bestN g then [] else (g.getD j []).map (idN t)) id (fun k o => o.length ≤ out.length + k * 1000) (b0 := out) (s0 := (out, 0)) rfl (by simp)
    (fun k o x hx hk hI => by
      obtain ⟨rfl, hxl⟩ := range_at hx
      have hki : ((x : Int) < ((intLL g).length : Int)) := by rw [intLL_len]; omega
      have hgx : g[x]? = some (g.getD x []) := by simp [List.getD, List.getElem?_eq_getElem hxl]
      have e1 : idx (intLL g) (x : Int) = some (intL (g.getD x [])) := by rw [idx_nat, intLL_get, hgx]; rfl
      obtain ⟨d1, d2⟩ := hd _ (List.mem_of_getElem? hgx)
      have hw := wrap_nat (show x < 4611686018427387904 by omega)
      refine ⟨?_, ?_⟩
      · simp only [approx_Removal_l12, if_pos hki, e1, Option.bind_some, rem_l11 t (bestN g) x _ d1 (by omega) o (by omega), hw]
      · rw [List.length_append]
        split
        · rename_i e; clear e; simp only [List.length_nil, Nat.add_zero, Nat.succ_mul]; exact Nat.le_trans hI (by omega)
        · rw [List.length_map]; omega)
    (fun o _ => by simp [approx_Removal_l12, intLL_len])
  rw [h, foldl_app, map_outN]; rfl
theorem outN_len (g : List (List Nat)) (hd : ∀ d ∈ g, d.length ≤ 1000) : (outN g).length ≤ g.length * 1000 := by
  unfold outN
  have key : ∀ m, m ≤ g.length → ((List.range m).flatMap fun j => if j = bestN g then [] else g.getD j []).length ≤ m * 1000 := by
    intro m
    induction m with
    | zero => intro _; simp
    | succ m ih =>
      intro hm
      have h1 := ih (by omega)
      have hgx : g[m]? = some (g.getD m []) := by simp [List.getD, List.getElem?_eq_getElem (show m < g.length by omega)]
      have h2 := hd _ (List.mem_of_getElem? hgx)
      rw [List.range_succ, List.flatMap_append, List.length_append]
      simp only [List.flatMap_cons, List.flatMap_nil, List.append_nil]
      by_cases e : m = bestN g
      · simp only [if_pos e, List.length_nil, Nat.add_zero]; clear e; exact Nat.le_trans h1 (by omega)
      · rw [if_neg e]; omega
  exact key _ (Nat.le_refl _)
theorem parts_bd {t : Table} (hn : t.Rows.length ≤ 1000) {s : Nat} (p : Nat) {c : List Nat} (hc : c ∈ clsN t s) : (parts t p c).length ≤ 1000 ∧ ∀ d ∈ parts t p c, (∀ i ∈ d, i < t.Rows.length) ∧ d.length ≤ 1000 := by
  have hcl : c.length ≤ 1000 := by
    have := class_len hc
    rw [List.length_range] at this; omega
  refine ⟨?_, fun d hd => ⟨fun i hi => (cls_self hc (part_of hd hi).1).1, ?_⟩⟩
  · have := classes_len (List UInt8) (fun i => rkey p (rowN t i)) c
    unfold parts; omega
  · have := class_len hd; omega
/-- what the program gathers -/
def outG (t : Table) (s p : Nat) : List Nat := (big (clsN t s)).flatMap fun c => outN (parts t p c)
theorem rem_l13 {t : Table} (hn : t.Rows.length ≤ 1000) (s p : Nat) : LoopF (approx_Removal_l13 t (intG (grpN t s p))) ([], 0) = some ((outG t s p).map (idN t)) := by
  have hbl : (big (clsN t s)).length ≤ 1000 := by
    have h2 := List.length_filter_le (fun c : List Nat => decide (2 ≤ c.length)) (clsN t s)
    have h3 := classes_len (List UInt8) (fun i => rkey s (rowN t i)) (List.range t.Rows.length)
    rw [List.length_range] at h3
    unfold big
    unfold clsN at h2 ⊢
    omega
  have h := LoopF_foldl (big (clsN t s)) (fun (o : List Int) k => (o, k)) (approx_Removal_l13 t (intG (grpN t s p))) (fun o c => o ++ (outN (parts t p c)).map (idN t)) id (fun k o => o.length ≤ k * 1000000) (b0 := []) (s0 := ([], 0)) rfl (by simp)
    (fun k o c hc hk hI => by
      obtain ⟨hcm, hc2⟩ := big_mem.1 (List.mem_of_getElem? hc)
      obtain ⟨b1, b2⟩ := parts_bd hn p hcm
      have hg : (intG (grpN t s p))[k]? = some (intLL (parts t p c)) := by
        rw [intG_get]; unfold grpN; rw [List.getElem?_map, hc]; rfl
      have hki : ((k : Int) < ((intG (grpN t s p)).length : Int)) := by
        rw [intG_len]; unfold grpN; rw [List.length_map]; omega
      have hbest := best_eq (parts t p c) (by omega) (fun d hd => by have := (b2 d hd).2; omega)
      have hw := wrap_nat (show k < 4611686018427387904 by omega)
      have hl := outN_len (parts t p c) (fun d hd => (b2 d hd).2)
      refine ⟨?_, ?_⟩
      · simp only [approx_Removal_l13, if_pos hki, idx_get hg, hbest, Option.bind_some, rem_l12 t (parts t p c) b1 b2 o (by omega), hw]
      · rw [List.length_append, List.length_map]; omega)
    (fun o _ => by
      have : (intG (grpN t s p)).length = (big (clsN t s)).length := by rw [intG_len]; simp [grpN]
      simp [approx_Removal_l13, this])
  rw [h, foldl_app]
  unfold outG
  rw [List.map_flatMap]
  simp
/-! ### the same rows, in order -/
theorem count_sum (a : Nat) (l : List Nat) : l.count a = (l.map fun x => if (x == a) = true then 1 else 0).sum := by
  rw [sum_ite]; rfl
theorem count_flat {α : Type} (a : Nat) (f : α → List Nat) : ∀ l : List α, (l.flatMap f).count a = (l.map fun x => (f x).count a).sum
  | [] => rfl
  | x :: l => by simp [List.count_append, count_flat a f l]
theorem range_map_getD {α β : Type} (g : List α) (z : α) (f : α → β) : ((List.range g.length).map fun j => f (g.getD j z)) = g.map f := by
  apply List.ext_getElem?
  intro j
  rw [List.getElem?_map, List.getElem?_map]
  by_cases h : j < g.length
  · rw [List.getElem?_range h, List.getElem?_eq_getElem h]
    simp [List.getD, List.getElem?_eq_getElem h]
  · rw [List.getElem?_eq_none (by simp; omega), List.getElem?_eq_none (by omega)]; rfl
theorem outN_count {t : Table} {s p : Nat} (F : FinerR t s p) {c : List Nat} (hc : c ∈ clsN t s) (a : Nat) : (outN (parts t p c)).count a = (c.map fun i => if (i == a) = true then (if remB t s p i then 1 else 0) else 0).sum := by
  have hsum := classes_sum (fun i => rkey p (rowN t i)) (fun i => if (i == a) = true then (if remB t s p i then 1 else 0) else 0) c
  rw [← hsum, show classes (fun i => rkey p (rowN t i)) c = parts t p c from rfl]
  unfold outN
  rw [count_flat]
  rw [← range_map_getD (parts t p c) [] (fun d => (d.map fun i => if (i == a) = true then (if remB t s p i then 1 else 0) else 0).sum)]
  congr 1
  apply List.map_congr_left
  intro j hj
  have hjl : j < (parts t p c).length := by simpa using hj
  have hgx : (parts t p c)[j]? = some ((parts t p c).getD j []) := by simp [List.getD, List.getElem?_eq_getElem hjl]
  have hr : ∀ i ∈ (parts t p c).getD j [], remB t s p i = decide (j ≠ bestN (parts t p c)) := fun i hi => rem_iff F hc hgx hi
  by_cases e : j = bestN (parts t p c)
  · rw [if_pos e]
    have : ((parts t p c).getD j []).map (fun i => if (i == a) = true then (if remB t s p i then 1 else 0) else 0) = ((parts t p c).getD j []).map fun _ => 0 := by
      apply List.map_congr_left
      intro i hi
      rw [hr i hi]; simp [e]
    rw [this, sum_const]; simp
  · rw [if_neg e, count_sum]
    congr 1
    apply List.map_congr_left
    intro i hi
    rw [hr i hi]; simp [e]
theorem outG_perm {t : Table} {s p : Nat} (F : FinerR t s p) : (outG t s p).Perm (remL t s p) := by
  rw [List.perm_iff_count]
  intro a
  unfold outG
  rw [count_flat]
  have h1 : (big (clsN t s)).map (fun c => (outN (parts t p c)).count a) = (big (clsN t s)).map fun c => (c.map fun i => if (i == a) = true then (if remB t s p i then 1 else 0) else 0).sum := by
    apply List.map_congr_left
    intro c hc
    exact outN_count F (big_mem.1 hc).1 a
  rw [h1, big_sum (s := s) (fun i => if (i == a) = true then (if remB t s p i then 1 else 0) else 0) (fun i hi h => by
    have := phi_single (m := 3) F hi h
    simp only [phiN] at this
    have h2 : (if remB t s p i then 1 else 0) = 0 := by simpa using this
    rw [h2]; simp)]
  unfold remL
  rw [count_sum]
  have : ∀ l : List Nat, (l.map fun i => if (i == a) = true then (if remB t s p i then 1 else 0) else 0).sum = ((l.filter fun i => remB t s p i).map fun x => if (x == a) = true then 1 else 0).sum := by
    intro l
    induction l with
    | nil => rfl
    | cons x l ih =>
      rw [List.map_cons, List.sum_cons, ih]
      by_cases h : remB t s p x = true
      · simp [h]
      · simp [h]
  exact this _
theorem rows_asc : ∀ (rows : List Row) (n : Nat) (b : Int), rowsCode n b rows = 0 → (∀ r ∈ rows, b < r.ID) ∧ rows.Pairwise fun x y => x.ID < y.ID
  | [], _, _, _ => by simp
  | r :: rows, n, b, h => by
    simp only [rowsCode] at h
    by_cases h1 : r.ID ≤ b
    · rw [if_pos h1] at h; cases h
    · rw [if_neg h1] at h
      by_cases h2 : r.Values.length = n
      · by_cases h3 : r.Values.all valid = true
        · simp only [h2, h3, ne_eq, not_true_eq_false, if_false, if_true, Bool.not_true, Bool.false_eq_true, Bool.true_eq_false] at h
          obtain ⟨p1, p2⟩ := rows_asc rows n _ h
          refine ⟨fun x hx => ?_, List.pairwise_cons.2 ⟨p1, p2⟩⟩
          rcases List.mem_cons.1 hx with rfl | hx
          · omega
          · have := p1 x hx; omega
        · simp [h2, h3] at h
      · simp [h2] at h
theorem idN_asc {t : Table} (G : GT t) {i k : Nat} (h : i < k) (hk : k < t.Rows.length) : idN t i < idN t k := by
  have := (rows_asc _ _ _ G.code).2
  have h2 := List.pairwise_iff_getElem.1 this i k (by omega) hk h
  have e1 : rowN t i = t.Rows[i] := by simp [rowN, List.getD, List.getElem?_eq_getElem (show i < t.Rows.length by omega)]
  have e2 : rowN t k = t.Rows[k] := by simp [rowN, List.getD, List.getElem?_eq_getElem hk]
  unfold idN
  rw [e1, e2]; exact h2
theorem remIDs_sorted {t : Table} (G : GT t) (s p : Nat) : (remIDs t s p).Pairwise (· < ·) := by
  unfold remIDs
  rw [List.pairwise_map]
  have h : (remL t s p).Pairwise (· < ·) := List.Pairwise.sublist List.filter_sublist List.pairwise_lt_range
  have h2 : ∀ i ∈ remL t s p, i < t.Rows.length := fun i hi => by
    have := (List.mem_filter.1 hi).1
    simpa using this
  exact List.Pairwise.imp_of_mem (fun {a b} ha hb hab => idN_asc G hab (h2 b hb)) h
theorem sorted_unique {l l' : List Int} (hp : l.Perm l') (h1 : l.Pairwise (· ≤ ·)) (h2 : l'.Pairwise (· < ·)) : l = l' :=
  List.Perm.eq_of_pairwise (le := (· ≤ ·)) (fun a b _ _ h1 h2 => Int.le_antisymm h1 h2) h1 (h2.imp fun {a b} h => Int.le_of_lt h) hp
theorem Removal_eq (t : Table) (ht : okTable t) (f : FD) (h : okFD f) : approx_Removal t f = some (remR t f) := by
  unfold remR
  by_cases he : fdErr t f = 0
  · obtain ⟨h0, hi⟩ := fdErr_zero he
    have G := gt_of ht h0
    obtain ⟨s, r, rfl, hs, hr⟩ := fd_of h
    obtain ⟨hs', hr'⟩ := lt_in hi
    have hn := G.rows
    have hperm : ((outG t s (s ||| r)).map (idN t)).Perm (remIDs t s (s ||| r)) := (outG_perm (finerR_or G hs' hr')).map _
    have hlen : (remIDs t s (s ||| r)).length ≤ 1000 := by
      unfold remIDs remL
      have := List.length_filter_le (fun i => remB t s (s ||| r) i) (List.range t.Rows.length)
      rw [List.length_range] at this
      rw [List.length_map]; omega
    have hs : srtIF ((outG t s (s ||| r)).map (idN t)) = some (remIDs t s (s ||| r)) := by
      unfold srtIF
      rw [if_pos (by rw [hperm.length_eq]; omega)]
      exact congrArg some (sorted_unique ((srtI_perm _).trans hperm) (srtI_sorted _) (remIDs_sorted G _ _))
    simp only [approx_Removal, known_eq t (tabOk_of ht) _ h, Option.bind_some, he, bne_self_eq_false, Bool.false_eq_true, if_false, if_true, Int.toNat_natCast, groups_fd G hs' hr', rem_l13 hn, hs]
  · have hne : (fdErr t f != 0) = true := by simp [he]
    simp only [approx_Removal, known_eq t (tabOk_of ht) _ h, Option.bind_some, hne, if_true, if_neg he]
end Go.Proofs.YtjcdclpfeflfkaaDoor
/- Approx: the chapter's example. -/
set_option linter.unusedVariables false
set_option linter.unusedSimpArgs false
namespace Go.Proofs.YtjcdclpfeflfkaaDoor
open Go Go.Ab

def ex32 : Table := ⟨[114], [[97], [98]], [⟨1, [⟨1, 1, []⟩, ⟨1, 1, []⟩]⟩, ⟨2, [⟨1, 1, []⟩, ⟨1, 1, []⟩]⟩, ⟨3, [⟨1, 1, []⟩, ⟨1, 2, []⟩]⟩, ⟨4, [⟨1, 2, []⟩, ⟨2, 0, [98]⟩]⟩]⟩
theorem v32a : errA ex32 ⟨1, 2⟩ 1 = (⟨1, 4⟩, 0) := by decide +kernel
theorem v32b : errA ex32 ⟨1, 2⟩ 2 = (⟨3, 4⟩, 0) := by decide +kernel
theorem v32c : errA ex32 ⟨1, 2⟩ 3 = (⟨1, 4⟩, 0) := by decide +kernel
theorem v32d : remR ex32 ⟨1, 2⟩ = ([3], 0) := by decide +kernel
theorem ofV_5 : ofV 5 = ⟨2, 0, [98]⟩ := by simp [ofV, drossref01_Of]
theorem ok_ex32 : okTable ex32 := by
  refine ⟨by show okS _; unfold okS; decide, ⟨by decide, ?_⟩, ⟨by decide, ?_⟩⟩
  · intro x hx
    have : x = [97] ∨ x = [98] := by simpa [ex32] using hx
    rcases this with rfl | rfl <;> (unfold okS; decide)
  · intro x hx
    have hx' : x = ⟨1, [⟨1, 1, []⟩, ⟨1, 1, []⟩]⟩ ∨ x = ⟨2, [⟨1, 1, []⟩, ⟨1, 1, []⟩]⟩ ∨ x = ⟨3, [⟨1, 1, []⟩, ⟨1, 2, []⟩]⟩ ∨ x = ⟨4, [⟨1, 2, []⟩, ⟨2, 0, [98]⟩]⟩ := by simpa [ex32] using hx
    have hv : ∀ v : Value, v = ⟨1, 1, []⟩ ∨ v = ⟨1, 2, []⟩ ∨ v = ⟨2, 0, [98]⟩ → okValue v := by
      rintro v (rfl | rfl | rfl)
      · exact ⟨by show Lit.wf _ = true; decide, by show Lit.wf _ = true; decide, by show okS _; unfold okS; decide⟩
      · exact ⟨by show Lit.wf _ = true; decide, by show Lit.wf _ = true; decide, by show okS _; unfold okS; decide⟩
      · exact ⟨by show Lit.wf _ = true; decide, by show Lit.wf _ = true; decide, by show okS _; unfold okS; decide⟩
    rcases hx' with rfl | rfl | rfl | rfl
    all_goals
      refine ⟨by show Lit.wf _ = true; decide, ⟨by decide, fun v h => hv v ?_⟩⟩
      simp only [List.mem_cons, List.not_mem_nil, or_false] at h
      rcases h with rfl | rfl <;> simp
theorem example32_eq : drosslaw32_example = some ex32 := by
  have h := LoopF_foldl (List.range 4) (fun (o : List Row) i => (o, i)) (drosslaw32_example_l1 [[1, 1], [1, 1], [1, 2], [2, 5]]) (fun o (k : Nat) => o ++ [⟨(k : Int) + 1, ((([[1, 1], [1, 1], [1, 2], [2, 5]] : List (List Int)).getD k []).map ofV)⟩]) id (fun k o => o.length = k) (b0 := []) (s0 := ([], 0)) rfl rfl
    (fun k o z hz hk hI => by
      obtain ⟨rfl, hk3⟩ := range_at hz
      refine ⟨?_, by simp [hI]⟩
      have hi : ([[1, 1], [1, 1], [1, 2], [2, 5]] : List (List Int))[z]? = some (([[1, 1], [1, 1], [1, 2], [2, 5]] : List (List Int)).getD z []) := by
        have : z < ([[1, 1], [1, 1], [1, 2], [2, 5]] : List (List Int)).length := hk3
        simp [List.getD, List.getElem?_eq_getElem this]
      have hl : (([[1, 1], [1, 1], [1, 2], [2, 5]] : List (List Int)).getD z []).length ≤ 1048576 := by
        rcases z with _ | _ | _ | _ | z
        · simp
        · simp
        · simp
        · simp
        · omega
      have hw : IntKind.i64.wrap ((z : Int) + 1) = (z : Int) + 1 := by rw [wrap_i64 (by omega) (by omega)]
      simp only [drosslaw32_example_l1, if_pos (show (z : Int) < 4 by omega), idx_get hi, Option.bind_some, List01_eq _ hl, room_le (show o.length + 1 ≤ 1073741824 by omega) (show 32 ≤ 65536 by omega), if_true, hw]
      rfl)
    (fun o _ => by simp [drosslaw32_example_l1])
  simp only [drosslaw32_example, Option.bind_some, h, id]
  simp only [ex32, List.range, List.range.loop, List.foldl_cons, List.foldl_nil, List.getD, List.getElem?_cons_zero, List.getElem?_cons_succ, Option.getD_some, List.map_cons, List.map_nil, ofV_1, ofV_2, ofV_5, List.nil_append, List.cons_append]
  rfl
theorem ok_f12 : okFD ⟨1, 2⟩ := ⟨by show Lit.wf _ = true; decide, by show Lit.wf _ = true; decide⟩
theorem awake32 : drosslaw32_awake = some true := by
  have h1 : ratioN 1 4 = ⟨1, 4⟩ := by decide +kernel
  have h3 : ratioN 3 4 = ⟨3, 4⟩ := by decide +kernel
  have r1 : drossref04_Of 1 4 = some ⟨1, 4⟩ := by rw [← h1]; exact ref_Of_nat 1 4 (by omega) (by omega) (by omega)
  have r3 : drossref04_Of 3 4 = some ⟨3, 4⟩ := by rw [← h3]; exact ref_Of_nat 3 4 (by omega) (by omega) (by omega)
  have hid := IDs_eq [3] [3] (by simp)
  simp only [drosslaw32_awake, example32_eq, Option.bind_some, Error_eq ex32 ok_ex32 _ ok_f12, Removal_eq ex32 ok_ex32 _ ok_f12, v32a, v32b, v32c, v32d, r1, r3, beq_self_eq_true, Bool.and_self, if_true, hid, decide_true]
end Go.Proofs.YtjcdclpfeflfkaaDoor
/- Tables of recipes; kept rows. -/
set_option linter.unusedVariables false
set_option linter.unusedSimpArgs false
namespace Go.Proofs.YtjcdclpfeflfkaaDoor
open Go Go.Ab

def vals12 : List Value := [⟨1, 0, []⟩, ⟨1, 1, []⟩, ⟨1, 2, []⟩, ⟨0, 0, []⟩, ⟨2, 0, [97]⟩, ⟨2, 0, [98]⟩, ⟨2, 0, []⟩, ⟨3, 1, []⟩, ⟨1, -1, []⟩, ⟨2, 0, [97, 98]⟩, ⟨3, 2, []⟩, ⟨1, 7, []⟩]
theorem Of_list (c : Int) : ∃ v, drossref01_Of c = some v ∧ v ∈ vals12 := by
  unfold drossref01_Of
  by_cases h0 : (Int.tmod c 12 == 0) = true
  · rw [if_pos h0]; exact ⟨_, rfl, by decide⟩
  rw [if_neg h0]
  by_cases h1 : (Int.tmod c 12 == 1) = true
  · rw [if_pos h1]; exact ⟨_, rfl, by decide⟩
  rw [if_neg h1]
  by_cases h2 : (Int.tmod c 12 == 2) = true
  · rw [if_pos h2]; exact ⟨_, rfl, by decide⟩
  rw [if_neg h2]
  by_cases h3 : (Int.tmod c 12 == 3) = true
  · rw [if_pos h3]; exact ⟨_, rfl, by decide⟩
  rw [if_neg h3]
  by_cases h4 : (Int.tmod c 12 == 4) = true
  · rw [if_pos h4]; exact ⟨_, rfl, by decide⟩
  rw [if_neg h4]
  by_cases h5 : (Int.tmod c 12 == 5) = true
  · rw [if_pos h5]; exact ⟨_, rfl, by decide⟩
  rw [if_neg h5]
  by_cases h6 : (Int.tmod c 12 == 6) = true
  · rw [if_pos h6]; exact ⟨_, rfl, by decide⟩
  rw [if_neg h6]
  by_cases h7 : (Int.tmod c 12 == 7) = true
  · rw [if_pos h7]; exact ⟨_, rfl, by decide⟩
  rw [if_neg h7]
  by_cases h8 : (Int.tmod c 12 == 8) = true
  · rw [if_pos h8]; exact ⟨_, rfl, by decide⟩
  rw [if_neg h8]
  by_cases h9 : (Int.tmod c 12 == 9) = true
  · rw [if_pos h9]; exact ⟨_, rfl, by decide⟩
  rw [if_neg h9]
  by_cases h10 : (Int.tmod c 12 == 10) = true
  · rw [if_pos h10]; exact ⟨_, rfl, by decide⟩
  rw [if_neg h10]
  exact ⟨_, rfl, by decide⟩
theorem ofV_ok (c : Int) : okValue (ofV c) := by
  obtain ⟨v, h1, h2⟩ := Of_list c
  have : ofV c = v := by unfold ofV; rw [h1]; rfl
  rw [this]
  have all : ∀ w ∈ vals12, ((Lit.int .i64 w.Kind).wf && (Lit.int .i64 w.Num).wf && decide (w.Str.length ≤ 1048576)) = true := by decide
  have := all v h2
  simp only [Bool.and_eq_true, decide_eq_true_eq] at this
  exact ⟨this.1.1, this.1.2, this.2⟩
theorem wf_i64 {n : Int} (h1 : -9223372036854775808 ≤ n) (h2 : n ≤ 9223372036854775807) : okI .i64 n := by
  show (decide (IntKind.min .i64 ≤ n) && decide (n ≤ IntKind.max .i64)) = true
  have e1 : IntKind.min .i64 = -9223372036854775808 := by decide
  have e2 : IntKind.max .i64 = 9223372036854775807 := by decide
  rw [e1, e2, Bool.and_eq_true, decide_eq_true_eq, decide_eq_true_eq]
  exact ⟨h1, h2⟩
theorem wf_u32 {n : Int} (h1 : 0 ≤ n) (h2 : n ≤ 4294967295) : okI .u32 n := by
  show (decide (IntKind.min .u32 ≤ n) && decide (n ≤ IntKind.max .u32)) = true
  have e1 : IntKind.min .u32 = 0 := by decide
  have e2 : IntKind.max .u32 = 4294967295 := by decide
  rw [e1, e2, Bool.and_eq_true, decide_eq_true_eq, decide_eq_true_eq]
  exact ⟨h1, h2⟩
theorem ok_fd {s r : Nat} (hs : s < 4294967296) (hr : r < 4294967296) : okFD ⟨(s : Int), (r : Int)⟩ := ⟨wf_u32 (by simp only; omega) (by simp only; omega), wf_u32 (by simp only; omega) (by simp only; omega)⟩
theorem wide_ok (x : Drossref03_Recipe) (n : Nat) (hn : n ≤ 8) (hr : x.Rows.length ≤ 8) : okTable (wide x n) := by
  refine ⟨by show okS [114]; unfold okS; decide, ⟨?_, fun s hs => ?_⟩, ⟨?_, fun r h => ?_⟩⟩
  · simp only [wide, List.length_take]; omega
  · have hm : s ∈ wnames := List.mem_of_mem_take hs
    have : ∀ w ∈ wnames, w.length ≤ 1048576 := by decide
    exact this s hm
  · simp only [wide, List.length_map, List.length_range]; omega
  · obtain ⟨i, hi, rfl⟩ := List.mem_map.1 h
    have hi' := List.mem_range.1 hi
    have hs : wstep x ≤ 3 := by unfold wstep; omega
    have hm : i * wstep x ≤ 8 * 3 := Nat.mul_le_mul (by omega) hs
    refine ⟨wf_i64 (by simp only [wrow]; omega) (by simp only [wrow]; omega), ?_, fun v hv => ?_⟩
    · simp only [wrow, List.length_map, List.length_range]; omega
    · obtain ⟨k, _, rfl⟩ := List.mem_map.1 hv
      exact ofV_ok _
theorem recipe32 (x : Drossref03_Recipe) (h : okDrossref03_Recipe x) : (∃ t, drossref03_Table x 8 = some (t, false)) ∨ ∃ t, drossref03_Table x 8 = some (t, true) ∧ okTable t ∧ Good t := by
  by_cases hr : x.Rows.length ≤ 8
  · exact .inr ⟨_, Table03_eq x h hr, wide_ok _ _ (by omega) hr, recipe_good x hr⟩
  · exact .inl (Table03_big x hr)
theorem Good.gt {t : Table} (G : Good t) (h : okTable t) : GT t := gt_of h G.err
/-- an argument, clipped to the attributes of a table -/
theorem clip_eq {n : Nat} (hn : n ≤ 16) {l : Int} (h : 0 ≤ l ∧ l ≤ 255) : IntKind.u32.wrap ((BitVec.ofInt 32 (IntKind.u32.wrap l) &&& (BitVec.ofInt 32 ((2 ^ n - 1 : Nat) : Int))).toNat : Int) = ((l.toNat % 2 ^ n : Nat) : Int) := by
  obtain ⟨k, rfl⟩ : ∃ k : Nat, l = (k : Int) := ⟨l.toNat, by omega⟩
  have hp : 2 ^ n < 4294967296 := pow_lt (by omega)
  rw [wrap_u32 (n := (k : Int)) (by omega) (by omega), w32_and (show k < 4294967296 by omega) (show 2 ^ n - 1 < 4294967296 by omega), Nat.and_two_pow_sub_one_eq_mod, Int.toNat_natCast]
theorem clip_lt (n : Nat) (k : Nat) : k % 2 ^ n < 2 ^ n := Nat.mod_lt _ (Nat.pow_pos (by omega))
theorem in_of {t : Table} {s r : Nat} (hs : s < 2 ^ t.Attrs.length) (hr : r < 2 ^ t.Attrs.length) : inB t ⟨(s : Int), (r : Int)⟩ = true := by
  simp only [inB, Int.toNat_natCast, decide_eq_true_eq]
  exact Nat.or_lt_two_pow hs hr
theorem fdErr_ok {t : Table} (G : GT t) {s r : Nat} (hs : s < 2 ^ t.Attrs.length) (hr : r < 2 ^ t.Attrs.length) : fdErr t ⟨(s : Int), (r : Int)⟩ = 0 := by
  unfold fdErr
  rw [if_pos G.err, if_pos (in_of hs hr)]

/-! ### some rows of a table -/
def subT (t : Table) (sel : List Nat) : Table := ⟨t.Name, t.Attrs, sel.map (rowN t)⟩
def satL (t : Table) (s r : Nat) (sel : List Nat) : Bool := allFrom (fun i x => (sel.take i).all fun y => !(agN t s x y) || agN t r x y) 0 sel
theorem Sat_eq {t : Table} (G : GT t) {s r : Nat} (hs : s < 2 ^ t.Attrs.length) (hr : r < 2 ^ t.Attrs.length) (sel : List Nat) (hsel : ∀ i ∈ sel, i < t.Rows.length) (hl : sel.length ≤ 1000000) :
    drossref08_Satisfies (subT t sel) ⟨(s : Int), (r : Int)⟩ = some (satL t s r sel) := by
  have hrow : ∀ (k : Nat) (y : Nat), sel[k]? = some y → (subT t sel).Rows[k]? = some (rowN t y) := by
    intro k y h
    simp [subT, h]
  have hlen : (subT t sel).Rows.length = sel.length := by simp [subT]
  have hin : ∀ (i x : Nat), sel[i]? = some x → i < sel.length → LoopF (drossref08_Satisfies_l3 (subT t sel) ⟨(s : Int), (r : Int)⟩ (i : Int)) 0 = some (if ((sel.take i).all fun y => !(agN t s x y) || agN t r x y) = true then .inl () else .inr false) := by
    intro i x hx hi
    have htl : (sel.take i).length = i := by rw [List.length_take]; omega
    refine LoopF_all (sel.take i) _ _ _ (fun k y hy hk hp => ?_) (fun k y hy hp => ?_) (by rw [htl]; simp [drossref08_Satisfies_l3])
    · have hki : k < i := by omega
      have hy' : sel[k]? = some y := by rw [List.getElem?_take, if_pos hki] at hy; exact hy
      have hw := wrap_nat (show k < 4611686018427387904 by omega)
      have a1 := Agree_agN G hs (hsel x (List.mem_of_getElem? hx)) (hsel y (List.mem_of_getElem? hy'))
      have a2 := Agree_agN G hr (hsel x (List.mem_of_getElem? hx)) (hsel y (List.mem_of_getElem? hy'))
      simp only [drossref08_Satisfies_l3, if_pos (show (k : Int) < (i : Int) by omega), idx_get (hrow i x hx), idx_get (hrow k y hy'), Option.bind_some, a1, a2, hw]
      by_cases h1 : agN t s x y = true
      · have h2 : agN t r x y = true := by simpa [h1] using hp
        simp only [h1, h2, if_true]
      · simp only [h1, if_false, Bool.false_eq_true]
    · have hki : k < i := by have := lt_of_get hy; omega
      have hy' : sel[k]? = some y := by rw [List.getElem?_take, if_pos hki] at hy; exact hy
      have a1 := Agree_agN G hs (hsel x (List.mem_of_getElem? hx)) (hsel y (List.mem_of_getElem? hy'))
      have a2 := Agree_agN G hr (hsel x (List.mem_of_getElem? hx)) (hsel y (List.mem_of_getElem? hy'))
      have h12 : agN t s x y = true ∧ agN t r x y = false := by simpa using hp
      simp only [drossref08_Satisfies_l3, if_pos (show (k : Int) < (i : Int) by omega), idx_get (hrow i x hx), idx_get (hrow k y hy'), Option.bind_some, a1, a2, h12.1, h12.2, if_true, Bool.false_eq_true, if_false]
  have hout := LoopF_allk sel (drossref08_Satisfies_l4 (subT t sel) ⟨(s : Int), (r : Int)⟩) (fun i x => (sel.take i).all fun y => !(agN t s x y) || agN t r x y) false
    (fun i x hx hi hp => by
      have hw := wrap_nat (show i < 4611686018427387904 by omega)
      simp only [drossref08_Satisfies_l4, hlen, if_pos (show (i : Int) < (sel.length : Int) by omega), hin i x hx hi, hp, if_true, Option.bind_some, hw])
    (fun i x hx hp => by
      have hi := lt_of_get hx
      simp only [drossref08_Satisfies_l4, hlen, if_pos (show (i : Int) < (sel.length : Int) by omega), hin i x hx hi, hp, Bool.false_eq_true, if_false, Option.bind_some])
    (by simp [drossref08_Satisfies_l4, hlen]) sel 0 rfl (Nat.zero_le _)
  simp only [Int.natCast_zero] at hout
  simp only [drossref08_Satisfies, hout, Option.bind_some]
  unfold satL
  cases allFrom (fun i x => (sel.take i).all fun y => !(agN t s x y) || agN t r x y) 0 sel <;> rfl
theorem satL_iff (t : Table) (s r : Nat) (sel : List Nat) : satL t s r sel = true ↔ ∀ x ∈ sel, ∀ y ∈ sel, agN t s x y = true → agN t r x y = true := by
  unfold satL
  constructor
  · intro h x hx y hy ha
    obtain ⟨i, hi⟩ := List.mem_iff_getElem?.1 hx
    obtain ⟨k, hk⟩ := List.mem_iff_getElem?.1 hy
    have key : ∀ (i k x y : Nat), sel[i]? = some x → sel[k]? = some y → k < i → agN t s x y = true → agN t r x y = true := by
      intro i k x y hi hk hki ha
      have := allFrom_get h hi
      rw [Nat.zero_add, List.all_eq_true] at this
      have hy : y ∈ sel.take i := by
        rw [List.mem_iff_getElem?]
        exact ⟨k, by rw [List.getElem?_take, if_pos hki]; exact hk⟩
      have := this y hy
      simpa [ha] using this
    rcases Nat.lt_trichotomy k i with h1 | h1 | h1
    · exact key i k x y hi hk h1 ha
    · subst h1
      rw [hi] at hk
      obtain rfl := Option.some.inj hk
      exact agN_refl t r x
    · rw [agN_comm]
      exact key k i y x hk hi h1 (by rw [agN_comm]; exact ha)
  · intro h
    have : ∀ (l : List Nat) (k : Nat), (∀ x ∈ l, x ∈ sel) → allFrom (fun i x => (sel.take i).all fun y => !(agN t s x y) || agN t r x y) k l = true := by
      intro l
      induction l with
      | nil => intro k _; rfl
      | cons x l ih =>
        intro k hx
        simp only [allFrom, Bool.and_eq_true]
        refine ⟨?_, ih (k + 1) fun y hy => hx y (by simp [hy])⟩
        rw [List.all_eq_true]
        intro y hy
        have := h x (hx x (by simp)) y (List.mem_of_mem_take hy)
        by_cases ha : agN t s x y = true
        · simp [ha, this ha]
        · simp [ha]
    exact this sel 0 fun x hx => hx
end Go.Proofs.YtjcdclpfeflfkaaDoor
/- The removal takes the least number of rows. -/
set_option linter.unusedVariables false
set_option linter.unusedSimpArgs false
namespace Go.Proofs.YtjcdclpfeflfkaaDoor
open Go Go.Ab

theorem bestRow_const {t : Table} {s p i k : Nat} (hi : i < t.Rows.length) (hk : k < t.Rows.length) (h : agN t s i k = true) : bestRow t s p i = bestRow t s p k := by
  obtain ⟨a1, a2, a3, a4⟩ := bestRow_spec (s := s) (p := p) hi
  obtain ⟨b1, b2, b3, b4⟩ := bestRow_spec (s := s) (p := p) hk
  generalize bestRow t s p i = a at *
  generalize bestRow t s p k = b at *
  have hkb : agN t s i b = true := agN_trans h b2
  have hka : agN t s k a = true := agN_trans (agN_symm h) a2
  rcases Nat.lt_trichotomy a b with h1 | h1 | h1
  · have := b4 a h1 hka
    have := a3 b b1 hkb; omega
  · exact h1
  · have := a4 b h1 hkb
    have := b3 a a1 hka; omega
theorem stay_ok {t : Table} (G : GT t) {s r : Nat} (hs : s < 2 ^ t.Attrs.length) (hr : r < 2 ^ t.Attrs.length) : satL t s r ((List.range t.Rows.length).filter fun i => !remB t s (s ||| r) i) = true := by
  rw [satL_iff]
  intro x hx y hy ha
  obtain ⟨hx1, hx2⟩ := List.mem_filter.1 hx
  obtain ⟨hy1, hy2⟩ := List.mem_filter.1 hy
  have hxn := List.mem_range.1 hx1
  have hyn := List.mem_range.1 hy1
  unfold remB at hx2 hy2
  rw [Bool.not_not] at hx2 hy2
  rw [bestRow_const hxn hyn ha] at hx2
  have h := agN_trans (agN_symm hx2) hy2
  rw [agN_or G hs hr hxn hyn, Bool.and_eq_true] at h
  exact h.2
end Go.Proofs.YtjcdclpfeflfkaaDoor
/- Fractions compared; the errors of a dependency that holds. -/
set_option linter.unusedVariables false
set_option linter.unusedSimpArgs false
namespace Go.Proofs.YtjcdclpfeflfkaaDoor
open Go Go.Ab

theorem fdiv32 {x : Nat} (h : x < 4294967296) : Int.fdiv (x : Int) (2 ^ (min 32 64)) = 0 := by
  rw [show min 32 64 = 32 from rfl, fdiv_pow, Nat.div_eq_of_lt h]; rfl
theorem mask32 {x : Nat} (h : x < 4294967296) : (BitVec.ofInt 64 (x : Int) &&& (4294967295#64)).toNat = x := by
  rw [BitVec.toNat_and, BitVec.toNat_ofInt, show (4294967295#64).toNat = 2 ^ 32 - 1 from rfl, Nat.and_two_pow_sub_one_eq_mod]
  have : ((x : Int) % ((2 ^ 64 : Nat) : Int)).toNat = x := by
    rw [show ((2 ^ 64 : Nat) : Int) = 18446744073709551616 by decide]
    omega
  rw [this, show (2 : Nat) ^ 32 = 4294967296 from rfl]
  omega
theorem mul64_small {x y : Nat} (hx : x < 65536) (hy : y < 65536) : bits_Mul64 (x : Int) (y : Int) = some (0, ((x * y : Nat) : Int)) := by
  have hxy : x * y < 4294967296 := Nat.lt_of_le_of_lt (Nat.mul_le_mul (show x ≤ 65535 by omega) (show y ≤ 65535 by omega)) (by omega)
  have h1 := fdiv32 (show x < 4294967296 by omega)
  have h2 := fdiv32 (show y < 4294967296 by omega)
  have m1 := mask32 (show x < 4294967296 by omega)
  have m2 := mask32 (show y < 4294967296 by omega)
  have w1 : IntKind.u64.wrap (x : Int) = (x : Int) := wrap_u64 (by omega) (by omega)
  have w2 : IntKind.u64.wrap (y : Int) = (y : Int) := wrap_u64 (by omega) (by omega)
  have e : (x : Int) * (y : Int) = ((x * y : Nat) : Int) := by simp
  generalize hq : x * y = q at *
  have w3 : IntKind.u64.wrap ((q : Nat) : Int) = (q : Int) := wrap_u64 (by omega) (by omega)
  have w0 : IntKind.u64.wrap 0 = 0 := by decide
  have h3 := fdiv32 hxy
  have h0 : Int.fdiv 0 (2 ^ (min 32 64)) = 0 := by rw [Int.zero_fdiv]
  have m0 : (BitVec.ofInt 64 0 &&& (4294967295#64)).toNat = 0 := by decide
  simp only [bits_Mul64, h1, h2, m1, m2, w1, w2, e, w3, h3, Int.zero_mul, Int.mul_zero, Int.add_zero, w0, h0, m0, Int.natCast_zero]
theorem size_nat {m : Nat} (h : m < 4611686018427387904) : drossref04_size (m : Int) = some ⟨0, (m : Int)⟩ := by
  simp only [drossref04_size]
  rw [if_neg (by omega), wrap_u64 (by omega) (by omega)]
theorem cmp_nat {a b c d : Nat} (ha : a < 65536) (hb : b < 65536) (hc : c < 65536) (hd : d < 65536) (h : a * d ≤ c * b) : ∃ z, drossref04_Cmp ⟨(a : Int), (b : Int)⟩ ⟨(c : Int), (d : Int)⟩ = some z ∧ z ≤ 0 := by
  have e1 : decide ((a : Int) < 0) = false := by simp
  have e2 : decide ((c : Int) < 0) = false := by simp
  have l1 := wide_less (a * d) (c * b)
  have l2 := wide_less (c * b) (a * d)
  have t1 : drossref04_times ⟨0, (a : Int)⟩ ⟨0, (d : Int)⟩ = some ⟨0, ((a * d : Nat) : Int)⟩ := by
    simp only [drossref04_times, mul64_small ha hd, Option.bind_some]
  have t2 : drossref04_times ⟨0, (c : Int)⟩ ⟨0, (b : Int)⟩ = some ⟨0, ((c * b : Nat) : Int)⟩ := by
    simp only [drossref04_times, mul64_small hc hb, Option.bind_some]
  simp only [drossref04_Cmp, e1, e2, beq_self_eq_true, if_true, size_nat (show a < 4611686018427387904 by omega), size_nat (show b < 4611686018427387904 by omega), size_nat (show c < 4611686018427387904 by omega), size_nat (show d < 4611686018427387904 by omega), Option.bind_some, t1, t2, if_neg (show ¬ ((a : Int) < 0) by omega), l1, l2]
  by_cases h1 : a * d < c * b
  · simp only [h1, decide_true, if_true]
    exact ⟨_, rfl, by omega⟩
  · have h2 : ¬ c * b < a * d := by omega
    simp only [h1, h2, decide_false, Bool.false_eq_true, if_false]
    exact ⟨_, rfl, by omega⟩
theorem cmp_ratio {n1 d1 n2 d2 : Nat} (h1 : n1 < 65536) (h2 : d1 < 65536) (h3 : n2 < 65536) (h4 : d2 < 65536) (p1 : 0 < d1) (p2 : 0 < d2) (h : n1 * d2 ≤ n2 * d1) : ∃ z, drossref04_Cmp (ratioN n1 d1) (ratioN n2 d2) = some z ∧ z ≤ 0 := by
  have g1 : 0 < Nat.gcd n1 d1 := Nat.gcd_pos_of_pos_right _ p1
  have g2 : 0 < Nat.gcd n2 d2 := Nat.gcd_pos_of_pos_right _ p2
  obtain ⟨a, ha⟩ := Nat.gcd_dvd_left n1 d1
  obtain ⟨b, hb⟩ := Nat.gcd_dvd_right n1 d1
  obtain ⟨c, hc⟩ := Nat.gcd_dvd_left n2 d2
  obtain ⟨d, hd⟩ := Nat.gcd_dvd_right n2 d2
  have ea : n1 / Nat.gcd n1 d1 = a := Nat.div_eq_of_eq_mul_right g1 ha
  have eb : d1 / Nat.gcd n1 d1 = b := Nat.div_eq_of_eq_mul_right g1 hb
  have ec : n2 / Nat.gcd n2 d2 = c := Nat.div_eq_of_eq_mul_right g2 hc
  have ed : d2 / Nat.gcd n2 d2 = d := Nat.div_eq_of_eq_mul_right g2 hd
  have la : n1 / Nat.gcd n1 d1 ≤ n1 := Nat.div_le_self _ _
  have lb : d1 / Nat.gcd n1 d1 ≤ d1 := Nat.div_le_self _ _
  have lc : n2 / Nat.gcd n2 d2 ≤ n2 := Nat.div_le_self _ _
  have ld : d2 / Nat.gcd n2 d2 ≤ d2 := Nat.div_le_self _ _
  unfold ratioN
  rw [ea, eb, ec, ed]
  rw [ea] at la
  rw [eb] at lb
  rw [ec] at lc
  rw [ed] at ld
  refine cmp_nat (by omega) (by omega) (by omega) (by omega) ?_
  generalize Nat.gcd n1 d1 = g at *
  generalize Nat.gcd n2 d2 = k at *
  have hk : (g * k) * (a * d) ≤ (g * k) * (c * b) := by
    have e1 : (g * k) * (a * d) = n1 * d2 := by rw [ha, hd]; simp only [Nat.mul_assoc, Nat.mul_left_comm, Nat.mul_comm]
    have e2 : (g * k) * (c * b) = n2 * d1 := by rw [hc, hb]; simp only [Nat.mul_assoc, Nat.mul_left_comm, Nat.mul_comm]
    rw [e1, e2]; exact h
  exact Nat.le_of_mul_le_mul_left hk (Nat.mul_pos g1 g2)
theorem num_zero {n d : Nat} (hd : 0 < d) : ((ratioN n d).Num == 0) = decide (n = 0) := by
  have hg : 0 < Nat.gcd n d := Nat.gcd_pos_of_pos_right _ hd
  unfold ratioN
  by_cases h : n = 0
  · subst h; simp
  · have : 0 < n / Nat.gcd n d := Nat.div_pos (Nat.le_of_dvd (by omega) (Nat.gcd_dvd_left n d)) hg
    simp only [h, decide_false]
    generalize n / Nat.gcd n d = z at *
    rw [beq_eq_false_iff_ne]; omega

/-- the denominator -/
def eD (t : Table) (m : Nat) : Nat := if t.Rows.length = 0 then 1 else if m = 1 then t.Rows.length * t.Rows.length else t.Rows.length
theorem eD_pos (t : Table) (m : Nat) : 0 < eD t m := by
  unfold eD
  split
  · omega
  · split
    · exact Nat.mul_pos (by omega) (by omega)
    · omega
theorem eD_le {t : Table} (hn : t.Rows.length ≤ 8) (m : Nat) : eD t m < 65536 := by
  have : t.Rows.length * t.Rows.length ≤ 8 * 8 := Nat.mul_le_mul hn hn
  unfold eD
  split
  · omega
  · split <;> omega
theorem errN_le {t : Table} (hn : t.Rows.length ≤ 8) (s p m : Nat) : errN t s p m < 65536 := by
  have h1 := err_le t s p m
  have : t.Rows.length * t.Rows.length ≤ 8 * 8 := Nat.mul_le_mul hn hn
  omega
theorem errR_ratio (t : Table) (s p m : Nat) : errR t s p m = ratioN (errN t s p m) (eD t m) := by
  unfold errR eD
  by_cases h : t.Rows.length = 0
  · rw [if_pos h, if_pos h]
    have : errN t s p m = 0 := by have := err_le t s p m; rw [h] at this; omega
    rw [this]; decide +kernel
  · rw [if_neg h, if_neg h]
theorem sum_zero {l : List Nat} (f : Nat → Nat) : (l.map f).sum = 0 ↔ ∀ x ∈ l, f x = 0 := by
  induction l with
  | nil => simp
  | cons x l ih => simp [ih]
theorem nviol_zero {t : Table} {s p i : Nat} : nviol t s p i = 0 ↔ ∀ k, k < t.Rows.length → agN t s k i = true → agN t p k i = true := by
  unfold nviol
  rw [List.countP_eq_zero]
  constructor
  · intro h k hk ha
    have := h k (List.mem_range.2 hk)
    simpa [ha] using this
  · intro h k hk
    have := h k (List.mem_range.1 hk)
    cases h1 : agN t s k i
    · simp
    · simp [this h1]
theorem sat_iff0 {t : Table} (G : GT t) {s r : Nat} (hs : s < 2 ^ t.Attrs.length) (hr : r < 2 ^ t.Attrs.length) : satL t s r (List.range t.Rows.length) = true ↔ ∀ i, i < t.Rows.length → nviol t s (s ||| r) i = 0 := by
  rw [satL_iff]
  constructor
  · intro h i hi
    rw [nviol_zero]
    intro k hk ha
    rw [agN_or G hs hr hk hi, ha, h k (List.mem_range.2 hk) i (List.mem_range.2 hi) ha]; rfl
  · intro h x hx y hy ha
    have hx' := List.mem_range.1 hx
    have hy' := List.mem_range.1 hy
    have := nviol_zero.1 (h y hy') x hx' ha
    rw [agN_or G hs hr hx' hy', Bool.and_eq_true] at this
    exact this.2
theorem rem_viol {t : Table} (G : GT t) {s r : Nat} (hs : s < 2 ^ t.Attrs.length) (hr : r < 2 ^ t.Attrs.length) {i : Nat} (hi : i < t.Rows.length) (h : nviol t s (s ||| r) i = 0) : remB t s (s ||| r) i = false := by
  obtain ⟨b1, b2, _, _⟩ := bestRow_spec (s := s) (p := s ||| r) hi
  have := nviol_zero.1 h _ b1 (agN_symm b2)
  unfold remB
  rw [this]; rfl
theorem err_zero {t : Table} (G : GT t) {s r : Nat} (hs : s < 2 ^ t.Attrs.length) (hr : r < 2 ^ t.Attrs.length) {m : Nat} (hm : m = 1 ∨ m = 2 ∨ m = 3) : errN t s (s ||| r) m = 0 ↔ satL t s r (List.range t.Rows.length) = true := by
  rw [sat_iff0 G hs hr]
  unfold errN
  rw [sum_zero]
  constructor
  · intro h i hi
    rcases hm with rfl | rfl | rfl
    · have := h i (List.mem_range.2 hi); simpa [phiN] using this
    · have := h i (List.mem_range.2 hi)
      simp [phiN] at this
      omega
    · have hall : ((List.range t.Rows.length).filter fun i => !remB t s (s ||| r) i) = List.range t.Rows.length := by
        rw [List.filter_eq_self]
        intro k hk
        have := h k hk
        simp [phiN] at this
        simp [this]
      have hs' := stay_ok G hs hr
      rw [hall, sat_iff0 G hs hr] at hs'
      exact hs' i hi
  · intro h i hi
    have hi' := List.mem_range.1 hi
    rcases hm with rfl | rfl | rfl
    · simp [phiN, h i hi']
    · simp [phiN, h i hi']
    · simp [phiN, rem_viol G hs hr hi' (h i hi')]
theorem e1_e2 (t : Table) (s p : Nat) : errN t s p 1 ≤ errN t s p 2 * t.Rows.length := by
  unfold errN
  have : ∀ l : List Nat, (l.map (phiN t s p 1)).sum ≤ (l.map (phiN t s p 2)).sum * t.Rows.length := by
    intro l
    induction l with
    | nil => simp
    | cons x l ih =>
      rw [List.map_cons, List.sum_cons, List.map_cons, List.sum_cons, Nat.add_mul]
      have hx : phiN t s p 1 x ≤ phiN t s p 2 x * t.Rows.length := by
        have h := nviol_le t s p x
        simp only [phiN, if_true, show ¬ ((2 : Nat) = 1) by omega, if_false]
        by_cases h0 : nviol t s p x = 0
        · rw [h0]; omega
        · rw [show min (nviol t s p x) 1 = 1 by omega, Nat.one_mul]; exact h
      omega
  exact this _
theorem e3_e2 {t : Table} (G : GT t) {s r : Nat} (hs : s < 2 ^ t.Attrs.length) (hr : r < 2 ^ t.Attrs.length) : errN t s (s ||| r) 3 ≤ errN t s (s ||| r) 2 := by
  unfold errN
  apply sum_le
  intro i hi
  have hi' := List.mem_range.1 hi
  simp only [phiN, show ¬ ((3 : Nat) = 1) by omega, show ¬ ((2 : Nat) = 1) by omega, show ¬ ((3 : Nat) = 2) by omega, if_false, if_true]
  by_cases h0 : nviol t s (s ||| r) i = 0
  · rw [rem_viol G hs hr hi' h0]; simp
  · split <;> omega
theorem subT_all (t : Table) : subT t (List.range t.Rows.length) = t := by
  unfold subT
  have : (List.range t.Rows.length).map (rowN t) = t.Rows := by
    apply List.ext_getElem?
    intro j
    rw [List.getElem?_map]
    by_cases h : j < t.Rows.length
    · rw [List.getElem?_range h, rowN_get h]; rfl
    · rw [List.getElem?_eq_none (by simp; omega), List.getElem?_eq_none (by omega)]; rfl
  rw [this]
theorem errA_ok {t : Table} (G : GT t) {s r : Nat} (hs : s < 2 ^ t.Attrs.length) (hr : r < 2 ^ t.Attrs.length) {m : Nat} (hm : m = 1 ∨ m = 2 ∨ m = 3) : errA t ⟨(s : Int), (r : Int)⟩ (m : Int) = (ratioN (errN t s (s ||| r) m) (eD t m), 0) := by
  unfold errA
  rw [if_pos (fdErr_ok G hs hr), if_pos (by omega)]
  simp only [Int.toNat_natCast, errR_ratio]
end Go.Proofs.YtjcdclpfeflfkaaDoor
/- ApproxMeasures. -/
set_option linter.unusedVariables false
set_option linter.unusedSimpArgs false
namespace Go.Proofs.YtjcdclpfeflfkaaDoor
open Go Go.Ab

theorem ApproxMeasures_holds (x : Drossref03_Recipe) (lhs rhs : Int) (h : okDrossref03_Recipe x) (h1 : okI .u8 lhs) (h2 : okI .u8 rhs) : drosslaw32_ApproxMeasures x lhs rhs = some true := by
  rcases recipe32 x h with ⟨t, ht⟩ | ⟨t, ht, hok, G⟩
  · simp only [drosslaw32_ApproxMeasures, ht, awake32, Option.bind_some, if_true, Bool.not_false]
  · have GG := G.gt hok
    have hn := G.rows
    have hs := clip_lt t.Attrs.length lhs.toNat
    have hr := clip_lt t.Attrs.length rhs.toNat
    have h1' := okI_u8 h1
    have h2' := okI_u8 h2
    have hE := fun m => Error_eq t hok _ (ok_fd (lt_u32 GG hs) (lt_u32 GG hr)) m
    have hS := Sat_eq GG hs hr (List.range t.Rows.length) (fun i hi => List.mem_range.1 hi) (by rw [List.length_range]; omega)
    rw [subT_all] at hS
    have hw : drosslaw32_ApproxMeasures x lhs rhs = drosslaw32_ApproxMeasures x lhs rhs := rfl
    generalize hse : lhs.toNat % 2 ^ t.Attrs.length = s at *
    generalize hre : rhs.toNat % 2 ^ t.Attrs.length = r at *
    have c1 := clip_eq GG.attrs h1'
    have c2 := clip_eq GG.attrs h2'
    rw [hse] at c1
    rw [hre] at c2
    have A1 := errA_ok GG hs hr (m := 1) (by omega)
    have A2 := errA_ok GG hs hr (m := 2) (by omega)
    have A3 := errA_ok GG hs hr (m := 3) (by omega)
    have z1 : ((ratioN (errN t s (s ||| r) 1) (eD t 1)).Num == 0) = satL t s r (List.range t.Rows.length) := by
      rw [num_zero (eD_pos t 1), Bool.eq_iff_iff, decide_eq_true_eq, err_zero GG hs hr (by omega)]
    have z2 : ((ratioN (errN t s (s ||| r) 2) (eD t 2)).Num == 0) = satL t s r (List.range t.Rows.length) := by
      rw [num_zero (eD_pos t 2), Bool.eq_iff_iff, decide_eq_true_eq, err_zero GG hs hr (by omega)]
    have z3 : ((ratioN (errN t s (s ||| r) 3) (eD t 3)).Num == 0) = satL t s r (List.range t.Rows.length) := by
      rw [num_zero (eD_pos t 3), Bool.eq_iff_iff, decide_eq_true_eq, err_zero GG hs hr (by omega)]
    have l12 : errN t s (s ||| r) 1 * eD t 2 ≤ errN t s (s ||| r) 2 * eD t 1 := by
      have h12 := e1_e2 t s (s ||| r)
      unfold eD
      by_cases h0 : t.Rows.length = 0
      · rw [if_pos h0, if_pos h0]
        rw [h0] at h12; omega
      · rw [if_neg h0, if_neg h0, if_neg (by omega), if_pos rfl, ← Nat.mul_assoc]
        exact Nat.mul_le_mul_right _ h12
    have l32 : errN t s (s ||| r) 3 * eD t 2 ≤ errN t s (s ||| r) 2 * eD t 3 := by
      have e : eD t 2 = eD t 3 := by unfold eD; split <;> rfl
      rw [e]
      exact Nat.mul_le_mul_right _ (e3_e2 GG hs hr)
    obtain ⟨a, ha, ha'⟩ := cmp_ratio (errN_le hn _ _ _) (eD_le hn _) (errN_le hn _ _ _) (eD_le hn _) (eD_pos t 1) (eD_pos t 2) l12
    obtain ⟨b, hb, hb'⟩ := cmp_ratio (errN_le hn _ _ _) (eD_le hn _) (errN_le hn _ _ _) (eD_le hn _) (eD_pos t 3) (eD_pos t 2) l32
    have E1 := hE 1
    have E2 := hE 2
    have E3 := hE 3
    rw [show (1 : Int) = ((1 : Nat) : Int) from rfl, A1] at E1
    rw [show (2 : Int) = ((2 : Nat) : Int) from rfl, A2] at E2
    rw [show (3 : Int) = ((3 : Nat) : Int) from rfl, A3] at E3
    have E1' : approx_Error t ⟨(s : Int), (r : Int)⟩ 1 = _ := E1
    have E2' : approx_Error t ⟨(s : Int), (r : Int)⟩ 2 = _ := E2
    have E3' : approx_Error t ⟨(s : Int), (r : Int)⟩ 3 = _ := E3
    simp only [drosslaw32_ApproxMeasures, ht, awake32, Option.bind_some, if_true, Bool.not_true, Bool.false_eq_true, if_false, Full_eq GG.attrs, c1, c2, E1', E2', E3', hS, beq_self_eq_true, z1, z2, z3, ha, hb, if_pos ha', hb', decide_true]
end Go.Proofs.YtjcdclpfeflfkaaDoor
