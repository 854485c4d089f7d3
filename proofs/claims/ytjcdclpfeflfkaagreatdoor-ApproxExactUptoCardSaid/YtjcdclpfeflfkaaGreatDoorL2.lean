/- The Lean functions that the program's functions are lifted to, and the plain laws about them. -/
import Derived.Test.YtjcdclpfeflfkaaGreatDoorL1
/- Counting in the groups of a dependency. -/
set_option linter.unusedVariables false
set_option linter.unusedSimpArgs false
namespace Go.Proofs.YtjcdclpfeflfkaaGreatDoor
open Go Go.Ab

/-- the size of the part of a row -/
def cntP (t : Table) (p i : Nat) : Nat := (List.range t.Rows.length).countP fun k => agN t p k i
/-- with how many rows a row violates the dependency -/
def nviol (t : Table) (s p i : Nat) : Nat := (List.range t.Rows.length).countP fun k => agN t s k i && !agN t p k i
theorem finer_of {t : Table} {s p : Nat} (h : ∀ k, s.testBit k = true → p.testBit k = true) (G : GT t) (hs : s < 2 ^ t.Attrs.length) (hp : p < 2 ^ t.Attrs.length) {i k : Nat} (hi : i < t.Rows.length) (hk : k < t.Rows.length) (ha : agN t p i k = true) : agN t s i k = true := by
  rw [agN_iff G hs hi hk]
  rw [agN_iff G hp hi hk] at ha
  exact fun a h1 h2 => ha a h1 (h a h2)
/-- .. of the rows -/
def FinerR (t : Table) (s p : Nat) : Prop := ∀ i k, i < t.Rows.length → k < t.Rows.length → agN t p i k = true → agN t s i k = true
theorem countP_split {α : Type} (p q : α → Bool) : ∀ l : List α, (l.countP fun x => p x && q x) + (l.countP fun x => p x && !q x) = l.countP p
  | [] => rfl
  | x :: l => by
    have := countP_split p q l
    simp only [List.countP_cons]
    cases p x <;> cases q x <;> simp <;> omega
theorem cnt_split {t : Table} {s p : Nat} (F : FinerR t s p) {i : Nat} (hi : i < t.Rows.length) : cntP t p i + nviol t s p i = cntP t s i := by
  unfold cntP nviol
  rw [← countP_split (fun k => agN t s k i) (fun k => agN t p k i)]
  congr 1
  apply List.countP_congr
  intro k hk
  rw [List.mem_range] at hk
  have := F k i hk hi
  rw [Bool.and_eq_true]
  exact ⟨fun e => ⟨this e, e⟩, fun e => e.2⟩
theorem cls_cnt {t : Table} {s : Nat} {c : List Nat} (h : c ∈ clsN t s) {i : Nat} (hi : i ∈ c) : c.length = cntP t s i := by
  conv => lhs; rw [(cls_self h hi).2]
  unfold cntP
  rw [List.countP_eq_length_filter]
theorem part_cnt {t : Table} {s p : Nat} (F : FinerR t s p) {c : List Nat} (h : c ∈ clsN t s) {i : Nat} (hi : i ∈ c) : (c.filter fun k => agN t p k i).length = cntP t p i := by
  have hin := (cls_self h hi).1
  conv => lhs; rw [(cls_self h hi).2]
  rw [List.filter_filter, ← List.countP_eq_length_filter]
  unfold cntP
  apply List.countP_congr
  intro k hk
  rw [List.mem_range] at hk
  have := F k i hk hin
  rw [Bool.and_eq_true]
  exact ⟨fun e => e.1, fun e => ⟨e, this e⟩⟩
theorem cntP_pos {t : Table} {p i : Nat} (hi : i < t.Rows.length) : 1 ≤ cntP t p i := by
  unfold cntP
  rw [Nat.succ_le_iff, List.countP_pos_iff]
  exact ⟨i, List.mem_range.2 hi, agN_refl t p i⟩
/-- a sum over the great classes -/
theorem big_sum {t : Table} {s : Nat} (φ : Nat → Nat) (h0 : ∀ i, i < t.Rows.length → cntP t s i = 1 → φ i = 0) : ((big (clsN t s)).map fun c => (c.map φ).sum).sum = ((List.range t.Rows.length).map φ).sum := by
  have h1 : ((clsN t s).map fun c => (c.map φ).sum).sum = ((List.range t.Rows.length).map φ).sum := classes_sum _ φ _
  rw [← h1]
  have h2 : ∀ c ∈ clsN t s, ¬ 2 ≤ c.length → (c.map φ).sum = 0 := by
    intro c hc hl
    match c, hc, hl with
    | [], _, _ => rfl
    | [i], hc, _ =>
      have hi : i ∈ [i] := by simp
      have := cls_cnt hc hi
      have h3 := h0 i (cls_self hc hi).1 (by simpa using this.symm)
      simp [h3]
    | _ :: _ :: _, _, hl => simp at hl
  generalize clsN t s = L at h2
  unfold big
  induction L with
  | nil => rfl
  | cons c L ih =>
    have ih' := ih fun d hd => h2 d (by simp [hd])
    by_cases hc : 2 ≤ c.length
    · rw [List.filter_cons_of_pos (by simpa using hc)]
      simp only [List.map_cons, List.sum_cons, ih']
    · rw [List.filter_cons_of_neg (by simpa using hc), ih']
      simp only [List.map_cons, List.sum_cons, h2 c (by simp) hc, Nat.zero_add]
theorem sum_const {α : Type} (n : Nat) : ∀ l : List α, (l.map fun _ => n).sum = l.length * n
  | [] => by simp
  | x :: l => by simp only [List.map_cons, List.sum_cons, sum_const n l, List.length_cons, Nat.succ_mul]; omega
theorem sum_add {α : Type} (f g : α → Nat) : ∀ l : List α, (l.map fun x => f x + g x).sum = (l.map f).sum + (l.map g).sum
  | [] => rfl
  | x :: l => by simp only [List.map_cons, List.sum_cons, sum_add f g l]; omega
theorem sum_le {α : Type} {f g : α → Nat} : ∀ {l : List α}, (∀ x ∈ l, f x ≤ g x) → (l.map f).sum ≤ (l.map g).sum
  | [], _ => Nat.le_refl _
  | x :: l, h => by
    simp only [List.map_cons, List.sum_cons]
    have := h x (by simp)
    have := sum_le (l := l) fun y hy => h y (by simp [hy])
    omega
/-- the parts of a class -/
def parts (t : Table) (p : Nat) (c : List Nat) : List (List Nat) := classes (fun i => rkey p (rowN t i)) c
theorem parts_size (t : Table) (p : Nat) (c : List Nat) : ((parts t p c).map fun d => d.length).sum = c.length := by
  have := classes_sum (fun i => rkey p (rowN t i)) (fun _ => 1) c
  simp only [sum_const, Nat.mul_one] at this
  exact this
theorem part_of {t : Table} {p : Nat} {c d : List Nat} (hd : d ∈ parts t p c) {i : Nat} (hi : i ∈ d) : i ∈ c ∧ d = c.filter fun k => agN t p k i := by
  have := class_self hd hi
  refine ⟨?_, this⟩
  rw [this] at hi
  exact (List.mem_filter.1 hi).1
/-- G1: the squares -/
theorem g1_class {t : Table} {s p : Nat} (F : FinerR t s p) {c : List Nat} (hc : c ∈ clsN t s) : ((parts t p c).map fun d => d.length * d.length).sum + (c.map (nviol t s p)).sum = c.length * c.length := by
  have h1 : ((parts t p c).map fun d => d.length * d.length).sum = (c.map (cntP t p)).sum := by
    refine classes_sum' _ _ _ c fun d hd => ?_
    have : ∀ x ∈ d, cntP t p x = d.length := fun x hx => by
      obtain ⟨q1, q2⟩ := part_of hd hx
      rw [← part_cnt F hc q1, ← q2]
    rw [← sum_const d.length d]
    congr 1
    exact (List.map_congr_left this).symm
  rw [h1, ← sum_add]
  have : ∀ x ∈ c, cntP t p x + nviol t s p x = c.length := fun x hx => by
    rw [cnt_split F (cls_self hc hx).1, cls_cnt hc hx]
  rw [List.map_congr_left this, sum_const]
/-- G2 -/
theorem g2_class {t : Table} {s p : Nat} (F : FinerR t s p) {c : List Nat} (hc : c ∈ clsN t s) : (if 1 < (parts t p c).length then c.length else 0) = (c.map fun i => min (nviol t s p i) 1).sum := by
  have hnv : ∀ i ∈ c, (1 ≤ nviol t s p i ↔ 1 < (parts t p c).length) := by
    intro i hi
    obtain ⟨hin, hce⟩ := cls_self hc hi
    have h1 : (parts t p c).length = (keysOf (fun i => rkey p (rowN t i)) c).length := by simp [parts, classes]
    constructor
    · intro h
      unfold nviol at h
      rw [Nat.succ_le_iff, List.countP_pos_iff] at h
      obtain ⟨k, hk, h2⟩ := h
      rw [Bool.and_eq_true] at h2
      have hkc : k ∈ c := by rw [hce]; exact List.mem_filter.2 ⟨hk, h2.1⟩
      have m1 := (mem_keysOf (fun i => rkey p (rowN t i)) c _).2 ⟨i, hi, rfl⟩
      have m2 := (mem_keysOf (fun i => rkey p (rowN t i)) c _).2 ⟨k, hkc, rfl⟩
      have hne : rkey p (rowN t i) ≠ rkey p (rowN t k) := by
        intro e
        have : agN t p k i = true := by unfold agN; rw [decide_eq_true_eq]; exact e.symm
        rw [this] at h2; simp at h2
      rw [h1]
      match hks : keysOf (fun i => rkey p (rowN t i)) c, m1, m2 with
      | [], m1, _ => cases m1
      | [x], m1, m2 => simp at m1 m2; exact absurd (m1.trans m2.symm) hne
      | _ :: _ :: _, _, _ => simp
    · intro h
      rw [h1] at h
      have hnd := keysOf_nodup (fun i => rkey p (rowN t i)) c
      have : ∃ x ∈ keysOf (fun i => rkey p (rowN t i)) c, x ≠ rkey p (rowN t i) := by
        match hks : keysOf (fun i => rkey p (rowN t i)) c, h, hnd with
        | x :: y :: r, _, hnd =>
          by_cases hx : x = rkey p (rowN t i)
          · refine ⟨y, by simp, ?_⟩
            rw [List.nodup_cons] at hnd
            intro e
            exact hnd.1 (by rw [hx, ← e]; simp)
          · exact ⟨x, by simp, hx⟩
      obtain ⟨x, hx, hxne⟩ := this
      obtain ⟨k, hk, hkx⟩ := (mem_keysOf _ _ _).1 hx
      unfold nviol
      rw [Nat.succ_le_iff, List.countP_pos_iff]
      obtain ⟨hkn, hka⟩ := (cls_iff hc hi k).1 hk
      refine ⟨k, List.mem_range.2 hkn, ?_⟩
      rw [Bool.and_eq_true]
      refine ⟨hka, ?_⟩
      have : agN t p k i = false := by
        unfold agN
        rw [decide_eq_false_iff_not]
        intro e
        exact hxne (by rw [← hkx]; exact e)
      rw [this]; rfl
  by_cases h : 1 < (parts t p c).length
  · rw [if_pos h]
    have : ∀ i ∈ c, min (nviol t s p i) 1 = 1 := fun i hi => by have := (hnv i hi).2 h; omega
    rw [List.map_congr_left this, sum_const]; omega
  · rw [if_neg h]
    have : ∀ i ∈ c, min (nviol t s p i) 1 = 0 := fun i hi => by
      have : ¬ 1 ≤ nviol t s p i := fun e => h ((hnv i hi).1 e)
      omega
    rw [List.map_congr_left this, sum_const]; omega

/-! ### the greatest part -/
/-- the place of the first one of the greatest parts -/
def bestN (g : List (List Nat)) : Nat := (List.range g.length).foldl (fun k i => if (g.getD k []).length < (g.getD i []).length then i else k) 0
theorem bestN_spec (g : List (List Nat)) (h : g ≠ []) : bestN g < g.length ∧ (∀ j, j < g.length → (g.getD j []).length ≤ (g.getD (bestN g) []).length) ∧ ∀ j, j < bestN g → (g.getD j []).length < (g.getD (bestN g) []).length := by
  have hl : 0 < g.length := List.length_pos_iff.2 h
  have key : ∀ m, m ≤ g.length → ∀ k, k = (List.range m).foldl (fun k i => if (g.getD k []).length < (g.getD i []).length then i else k) 0 → k < g.length ∧ (∀ j, j < m → (g.getD j []).length ≤ (g.getD k []).length) ∧ ∀ j, j < k → (g.getD j []).length < (g.getD k []).length := by
    intro m
    induction m with
    | zero => intro _ k hk; simp at hk; subst hk; exact ⟨hl, fun j hj => by omega, fun j hj => by omega⟩
    | succ m ih =>
      intro hm k hk
      obtain ⟨h1, h2, h3⟩ := ih (by omega) _ rfl
      rw [List.range_succ, List.foldl_append] at hk
      simp only [List.foldl_cons, List.foldl_nil] at hk
      generalize (List.range m).foldl (fun k i => if (g.getD k []).length < (g.getD i []).length then i else k) 0 = b at *
      by_cases hc : (g.getD b []).length < (g.getD m []).length
      · rw [if_pos hc] at hk
        subst hk
        refine ⟨by omega, fun j hj => ?_, fun j hj => ?_⟩
        · rcases Nat.lt_succ_iff_lt_or_eq.1 hj with hj | rfl
          · have := h2 j hj; omega
          · exact Nat.le_refl _
        · have := h2 j hj; omega
      · rw [if_neg hc] at hk
        subst hk
        refine ⟨h1, fun j hj => ?_, h3⟩
        rcases Nat.lt_succ_iff_lt_or_eq.1 hj with hj | rfl
        · exact h2 j hj
        · omega
  exact key g.length (Nat.le_refl _) _ rfl
/-- the row that is looked for among those that agree with row i -/
def stepB (t : Table) (s p i : Nat) (b : Nat × Nat) (k : Nat) : Nat × Nat := if agN t s i k then (if b.2 < cntP t p k then (k, cntP t p k) else b) else b
def bestRow (t : Table) (s p i : Nat) : Nat := ((List.range t.Rows.length).foldl (stepB t s p i) (i, 0)).1
theorem bestRow_spec {t : Table} {s p i : Nat} (hi : i < t.Rows.length) : bestRow t s p i < t.Rows.length ∧ agN t s i (bestRow t s p i) = true ∧ (∀ k, k < t.Rows.length → agN t s i k = true → cntP t p k ≤ cntP t p (bestRow t s p i)) ∧ ∀ k, k < bestRow t s p i → agN t s i k = true → cntP t p k < cntP t p (bestRow t s p i) := by
  have key : ∀ m, m ≤ t.Rows.length → ∀ b, b = (List.range m).foldl (stepB t s p i) (i, 0) →
      (b = (i, 0) ∧ ∀ k, k < m → agN t s i k = false) ∨ (b.1 < m ∧ b.2 = cntP t p b.1 ∧ agN t s i b.1 = true ∧ (∀ k, k < m → agN t s i k = true → cntP t p k ≤ b.2) ∧ ∀ k, k < b.1 → agN t s i k = true → cntP t p k < b.2) := by
    intro m
    induction m with
    | zero => intro _ b hb; left; exact ⟨by simpa using hb, fun k hk => by omega⟩
    | succ m ih =>
      intro hm b hb
      have h0 := ih (by omega) _ rfl
      rw [List.range_succ, List.foldl_append] at hb
      simp only [List.foldl_cons, List.foldl_nil] at hb
      generalize (List.range m).foldl (stepB t s p i) (i, 0) = b0 at *
      unfold stepB at hb
      by_cases ha : agN t s i m = true
      · rw [if_pos ha] at hb
        have hpos : 1 ≤ cntP t p m := cntP_pos (by omega)
        rcases h0 with ⟨rfl, h2⟩ | ⟨h1, h2, h3, h4, h5⟩
        · rw [if_pos (by show 0 < cntP t p m; omega)] at hb
          subst hb
          right
          refine ⟨Nat.lt_succ_self _, rfl, ha, fun k hk hak => ?_, fun k hk hak => ?_⟩
          · rcases Nat.lt_succ_iff_lt_or_eq.1 hk with hk | rfl
            · rw [h2 k hk] at hak; cases hak
            · exact Nat.le_refl _
          · rw [h2 k hk] at hak; cases hak
        · by_cases hc : b0.2 < cntP t p m
          · rw [if_pos hc] at hb
            subst hb
            right
            refine ⟨Nat.lt_succ_self _, rfl, ha, fun k hk hak => ?_, fun k hk hak => ?_⟩
            · rcases Nat.lt_succ_iff_lt_or_eq.1 hk with hk | rfl
              · have := h4 k hk hak; simp only; omega
              · exact Nat.le_refl _
            · have := h4 k hk hak; simp only; omega
          · rw [if_neg hc] at hb
            subst hb
            right
            refine ⟨by omega, h2, h3, fun k hk hak => ?_, h5⟩
            rcases Nat.lt_succ_iff_lt_or_eq.1 hk with hk | rfl
            · exact h4 k hk hak
            · omega
      · rw [if_neg ha] at hb
        subst hb
        rcases h0 with ⟨h1, h2⟩ | ⟨h1, h2, h3, h4, h5⟩
        · left
          refine ⟨h1, fun k hk => ?_⟩
          rcases Nat.lt_succ_iff_lt_or_eq.1 hk with hk | rfl
          · exact h2 k hk
          · simpa using ha
        · right
          refine ⟨by omega, h2, h3, fun k hk hak => ?_, h5⟩
          rcases Nat.lt_succ_iff_lt_or_eq.1 hk with hk | rfl
          · exact h4 k hk hak
          · exact absurd hak ha
  rcases key t.Rows.length (Nat.le_refl _) _ rfl with ⟨h1, h2⟩ | ⟨h1, h2, h3, h4, h5⟩
  · have := h2 i hi; rw [agN_refl] at this; cases this
  · unfold bestRow
    exact ⟨h1, h3, fun k hk ha => by rw [← h2]; exact h4 k hk ha, fun k hk ha => by rw [← h2]; exact h5 k hk ha⟩
/-- is row i removed? -/
def remB (t : Table) (s p i : Nat) : Bool := !agN t p (bestRow t s p i) i
theorem keys_before {κ : Type} [DecidableEq κ] (key : Nat → κ) (l : List Nat) (hl : l.Pairwise (· < ·)) : ∀ (j j' : Nat) (k k' : κ) (y : Nat), (keysOf key l)[j]? = some k → (keysOf key l)[j']? = some k' → j < j' → y ∈ l → key y = k' → ∃ x ∈ l, key x = k ∧ x < y := by
  induction l using snoc_ind with
  | h0 => intro j j' k k' y h; simp [keysOf_nil] at h
  | h1 l z ih =>
    intro j j' k k' y h1 h2 hj hy hk
    rw [List.pairwise_append] at hl
    obtain ⟨hl1, _, hl2⟩ := hl
    rw [keysOf_snoc] at h1 h2
    unfold keysF at h1 h2
    by_cases hz : key z ∈ keysOf key l
    · rw [if_pos hz] at h1 h2
      rcases List.mem_append.1 hy with hy | hy
      · obtain ⟨x, q1, q2, q3⟩ := ih hl1 j j' k k' y h1 h2 hj hy hk
        exact ⟨x, by simp [q1], q2, q3⟩
      · have hyz : y = z := by simpa using hy
        subst hyz
        obtain ⟨x, q1, q2⟩ := (mem_keysOf key l k).1 (List.mem_of_getElem? h1)
        exact ⟨x, by simp [q1], q2, hl2 x q1 y (by simp)⟩
    · rw [if_neg hz] at h1 h2
      have hj'l : j' < (keysOf key l ++ [key z]).length := (List.getElem?_eq_some_iff.1 h2).1
      have hjl : j < (keysOf key l).length := by simp at hj'l; omega
      rw [List.getElem?_append_left hjl] at h1
      obtain ⟨x, q1, q2⟩ := (mem_keysOf key l k).1 (List.mem_of_getElem? h1)
      rcases List.mem_append.1 hy with hy | hy
      · by_cases hj2 : j' < (keysOf key l).length
        · rw [List.getElem?_append_left hj2] at h2
          obtain ⟨x, q1, q2, q3⟩ := ih hl1 j j' k k' y h1 h2 hj hy hk
          exact ⟨x, by simp [q1], q2, q3⟩
        · exfalso
          rw [List.getElem?_append_right (by omega)] at h2
          have : j' - (keysOf key l).length = 0 := by simp at hj'l; omega
          rw [this] at h2
          simp only [List.getElem?_cons_zero, Option.some.injEq] at h2
          exact hz ((mem_keysOf key l _).2 ⟨y, hy, by rw [hk, ← h2]⟩)
      · have hyz : y = z := by simpa using hy
        subst hyz
        exact ⟨x, by simp [q1], q2, hl2 x q1 y (by simp)⟩
theorem cls_sorted {t : Table} {s : Nat} {c : List Nat} (h : c ∈ clsN t s) : c.Pairwise (· < ·) := by
  obtain ⟨x, _, rfl⟩ := mem_clsN.1 h
  exact List.Pairwise.sublist List.filter_sublist List.pairwise_lt_range
/-- a row is removed exactly if its part is not the best one -/
theorem rem_iff {t : Table} {s p : Nat} (F : FinerR t s p) {c : List Nat} (hc : c ∈ clsN t s) {j : Nat} {d : List Nat} (hj : (parts t p c)[j]? = some d) {i : Nat} (hi : i ∈ d) : remB t s p i = decide (j ≠ bestN (parts t p c)) := by
  obtain ⟨hic, hd⟩ := part_of (List.mem_of_getElem? hj) hi
  have hin := (cls_self hc hic).1
  obtain ⟨b1, b2, b3, b4⟩ := bestRow_spec (s := s) (p := p) hin
  generalize hh : bestRow t s p i = h at b1 b2 b3 b4
  have hhc : h ∈ c := (cls_iff hc hic h).2 ⟨b1, agN_symm b2⟩
  -- the part of h
  have hks : rkey p (rowN t h) ∈ keysOf (fun i => rkey p (rowN t i)) c := (mem_keysOf _ _ _).2 ⟨h, hhc, rfl⟩
  obtain ⟨jh, hjh⟩ := List.mem_iff_getElem?.1 hks
  have hpart : ∀ (j : Nat) (k : List UInt8), (keysOf (fun i => rkey p (rowN t i)) c)[j]? = some k → (parts t p c)[j]? = some (c.filter fun x => decide (rkey p (rowN t x) = k)) := by
    intro j k hk
    unfold parts classes
    rw [List.getElem?_map, hk]; rfl
  have hph := hpart jh _ hjh
  have hlen : ∀ x, x ∈ c → (c.filter fun y => decide (rkey p (rowN t y) = rkey p (rowN t x))).length = cntP t p x := fun x hx => part_cnt F hc hx
  have hne : parts t p c ≠ [] := by intro e; rw [e] at hj; simp at hj
  obtain ⟨s1, s2, s3⟩ := bestN_spec (parts t p c) hne
  have hgd : ∀ j d, (parts t p c)[j]? = some d → (parts t p c).getD j [] = d := fun j d h => by simp [List.getD, h]
  have hjhl : jh < (parts t p c).length := (List.getElem?_eq_some_iff.1 hph).1
  have key_at : ∀ j, j < (parts t p c).length → ∃ x, x ∈ c ∧ (keysOf (fun i => rkey p (rowN t i)) c)[j]? = some (rkey p (rowN t x)) ∧ ((parts t p c).getD j []).length = cntP t p x := by
    intro j hj
    have hl : (parts t p c).length = (keysOf (fun i => rkey p (rowN t i)) c).length := by simp [parts, classes]
    have hk : (keysOf (fun i => rkey p (rowN t i)) c)[j]? = some ((keysOf (fun i => rkey p (rowN t i)) c)[j]'(by omega)) := List.getElem?_eq_getElem _
    obtain ⟨x, hx, hxk⟩ := (mem_keysOf _ _ _).1 (List.mem_of_getElem? hk)
    rw [← hxk] at hk
    exact ⟨x, hx, hk, by rw [hgd _ _ (hpart _ _ hk), hlen x hx]⟩
  have hb : bestN (parts t p c) = jh := by
    rcases Nat.lt_trichotomy (bestN (parts t p c)) jh with hlt | heq | hgt
    · exfalso
      obtain ⟨x, hx, hxk, hxl⟩ := key_at _ s1
      obtain ⟨y, hy, hyk, hyh⟩ := keys_before (fun i => rkey p (rowN t i)) c (cls_sorted hc) _ _ _ _ h hxk hjh hlt hhc rfl
      have h1 := b4 y hyh (agN_symm ((cls_iff hc hic y).1 hy).2)
      have h2 := s2 jh hjhl
      rw [hgd _ _ hph, hlen h hhc] at h2
      have h3 : cntP t p y = cntP t p x := by
        rw [← hlen y hy, ← hlen x hx]
        rw [show rkey p (rowN t y) = rkey p (rowN t x) from hyk]
      omega
    · exact heq
    · exfalso
      have h1 := s3 jh hgt
      rw [hgd _ _ hph, hlen h hhc] at h1
      obtain ⟨x, hx, hxk, hxl⟩ := key_at _ s1
      have h2 := b3 x ((cls_iff hc hic x).1 hx).1 (agN_symm ((cls_iff hc hic x).1 hx).2)
      omega
  unfold remB
  rw [hh, hb]
  have hdj : ∀ x ∈ d, (keysOf (fun i => rkey p (rowN t i)) c)[j]? = some (rkey p (rowN t x)) := by
    intro x hx
    obtain ⟨x0, hx0, hk0, _⟩ := key_at j (List.getElem?_eq_some_iff.1 hj).1
    have := hpart _ _ hk0
    rw [hj] at this
    have e := Option.some.inj this
    rw [e] at hx
    have := (List.mem_filter.1 hx).2
    simp only [decide_eq_true_eq] at this
    rw [this]; exact hk0
  rw [Bool.eq_iff_iff]
  simp only [Bool.not_eq_true', decide_eq_true_eq, ne_eq]
  unfold agN
  rw [decide_eq_false_iff_not]
  constructor
  · intro h1 h2
    subst h2
    have := hdj i hi
    rw [hjh] at this
    exact h1 (Option.some.inj this)
  · intro h1 h2
    have h3 := hdj i hi
    rw [← h2] at h3
    exact h1 ((List.getElem?_inj (List.getElem?_eq_some_iff.1 h3).1 (keysOf_nodup _ c)).1 (h3.trans hjh.symm))
/-- G3 -/
theorem g3_class {t : Table} {s p : Nat} (F : FinerR t s p) {c : List Nat} (hc : c ∈ clsN t s) (h2 : c ≠ []) : (c.map fun i => if remB t s p i then 1 else 0).sum + ((parts t p c).getD (bestN (parts t p c)) []).length = c.length := by
  have hne : parts t p c ≠ [] := by
    intro e
    have := parts_size t p c
    rw [e] at this
    exact h2 (List.eq_nil_of_length_eq_zero (by simpa using this.symm))
  obtain ⟨s1, _, _⟩ := bestN_spec (parts t p c) hne
  have hsum : (c.map fun i => if remB t s p i then 1 else 0).sum = ((parts t p c).map fun d => (d.map fun i => if remB t s p i then 1 else 0).sum).sum := (classes_sum _ _ c).symm
  rw [hsum]
  have hsz := parts_size t p c
  have hd : ∀ j d, (parts t p c)[j]? = some d → (d.map fun i => if remB t s p i then 1 else 0).sum = if j = bestN (parts t p c) then 0 else d.length := by
    intro j d hj
    have : ∀ i ∈ d, (if remB t s p i then 1 else 0) = if j = bestN (parts t p c) then 0 else 1 := fun i hi => by
      rw [rem_iff F hc hj hi]
      by_cases e : j = bestN (parts t p c) <;> simp [e]
    rw [List.map_congr_left this, sum_const]
    by_cases e : j = bestN (parts t p c) <;> simp [e]
  generalize hB : bestN (parts t p c) = b at *
  generalize parts t p c = L at *
  clear hsum hc h2 hne hB
  -- sums over a list but for one place
  have key : ∀ (L : List (List Nat)) (o : Nat), (∀ j d, L[j]? = some d → (d.map fun i => if remB t s p i then 1 else 0).sum = if o + j = b then 0 else d.length) → o ≤ b → b < o + L.length →
      (L.map fun d => (d.map fun i => if remB t s p i then 1 else 0).sum).sum + (L.getD (b - o) []).length = (L.map fun d => d.length).sum := by
    intro L
    induction L with
    | nil => intro o _ h1 h2; simp at h2; omega
    | cons d L ih =>
      intro o h h1 h2
      have hd0 := h 0 d rfl
      simp only [List.map_cons, List.sum_cons]
      by_cases hob : o = b
      · subst hob
        rw [hd0, if_pos (by omega)]
        have : ∀ e ∈ L, (e.map fun i => if remB t s p i then 1 else 0).sum = e.length := by
          intro e he
          obtain ⟨j, hj⟩ := List.mem_iff_getElem?.1 he
          have := h (j + 1) e (by simpa using hj)
          rw [if_neg (by omega)] at this
          exact this
        have e1 : (L.map fun d => (d.map fun i => if remB t s p i then 1 else 0).sum).sum = (L.map fun d => d.length).sum := by rw [List.map_congr_left this]
        rw [e1, Nat.sub_self, List.getD_cons_zero]; omega
      · rw [hd0, if_neg (by omega)]
        have := ih (o + 1) (fun j e hj => by
          have := h (j + 1) e (by simpa using hj)
          rwa [show o + 1 + j = o + (j + 1) by omega]) (by omega) (by simp at h2; omega)
        have e : b - o = (b - (o + 1)) + 1 := by omega
        rw [e, List.getD_cons_succ]
        omega
  have := key L 0 (fun j d hj => by rw [Nat.zero_add]; exact hd j d hj) (Nat.zero_le _) (by omega)
  simp only [Nat.sub_zero] at this
  omega
end Go.Proofs.YtjcdclpfeflfkaaGreatDoor
/- Fractions: both layers make the reduced fraction (of numbers that are not negative). -/
set_option linter.unusedVariables false
set_option linter.unusedSimpArgs false
namespace Go.Proofs.YtjcdclpfeflfkaaGreatDoor
open Go Go.Ab

/-- the reduced fraction -/
def ratioN (n d : Nat) : Ratio := ⟨((n / Nat.gcd n d : Nat) : Int), ((d / Nat.gcd n d : Nat) : Int)⟩
theorem dmod {b y d c : Nat} (h : c + b * d = y) (hc : c < b) : y / b = d ∧ y % b = c := (Nat.div_mod_unique (by omega)).2 ⟨h, hc⟩
theorem ratio_abs_nat (n : Nat) (h : n < 4611686018427387904) : ratio_abs (n : Int) = some (n : Int) := by
  simp only [ratio_abs]
  rw [if_neg (by omega), wrap_u64 (by omega) (by omega)]
theorem ratio_gcd_loop : ∀ (b a : Nat), LoopF ratio_gcd_l1 ((a : Int), (b : Int)) = some ((Nat.gcd a b : Nat) : Int) := by
  intro b
  induction b using Nat.strongRecOn with
  | ind b ih =>
    intro a
    by_cases hb : b = 0
    · subst hb
      rw [Loop_done (t := (a : Int)) (by simp [ratio_gcd_l1]), Nat.gcd_zero_right]
    · have h1 : ((b : Int) > 0) := by omega
      have h2 : ¬ ((b : Int) = 0) := by omega
      have e : Int.tmod (a : Int) (b : Int) = ((a % b : Nat) : Int) := by rw [Int.ofNat_tmod]
      rw [Loop_next (s' := ((b : Int), ((a % b : Nat) : Int))) (by simp only [ratio_gcd_l1, if_pos h1, if_neg h2, e]), ih (a % b) (Nat.mod_lt _ (by omega)) b]
      rw [Nat.gcd_comm a b, Nat.gcd_rec b a, Nat.gcd_comm]
theorem ratio_gcd_nat (a b : Nat) : ratio_gcd (a : Int) (b : Int) = some ((Nat.gcd a b : Nat) : Int) := by
  simp only [ratio_gcd, ratio_gcd_loop, Option.bind_some]
theorem tdiv_nat (a b : Nat) : Int.tdiv (a : Int) (b : Int) = ((a / b : Nat) : Int) := Int.ofNat_tdiv a b
theorem ratio_Make_nat (n d : Nat) (hn : n < 4611686018427387904) (hd : 0 < d) (hd' : d < 4611686018427387904) : ratio_Make (n : Int) (d : Int) = some (ratioN n d, 0) := by
  have hg : 0 < Nat.gcd n d := Nat.gcd_pos_of_pos_right _ hd
  have h0 : ((d : Int) == 0) = false := by simp; omega
  have hdn : n / Nat.gcd n d ≤ n := Nat.div_le_self _ _
  have hdd : d / Nat.gcd n d ≤ d := Nat.div_le_self _ _
  have hg0 : ¬ ((Nat.gcd n d : Nat) : Int) = 0 := by omega
  have e1 : (decide ((n : Int) < 0)) = false := by simp
  have e2 : (decide ((d : Int) < 0)) = false := by simp
  simp only [ratio_Make, h0, Bool.false_eq_true, if_false, ratio_abs_nat n hn, ratio_abs_nat d hd', Option.bind_some, ratio_gcd_nat, if_neg hg0, tdiv_nat, e1, e2, ratioN]
  generalize n / Nat.gcd n d = p at *
  generalize d / Nat.gcd n d = q at *
  rw [wrap_u64 (n := (p : Int)) (by omega) (by omega), wrap_u64 (n := (q : Int)) (by omega) (by omega)]
  have c1 : ¬ ((p : Int) > 9223372036854775807) := by omega
  have c2 : ¬ ((q : Int) > 9223372036854775807) := by omega
  simp only [ratio_of, if_neg c1, if_neg c2, beq_self_eq_true, Bool.not_true, Bool.false_eq_true, if_false, Option.bind_some]
  rw [wrap_i64 (n := (p : Int)) (by omega) (by omega), wrap_i64 (n := (q : Int)) (by omega) (by omega)]

/-! ### the reference: division bit by bit -/
theorem wide_plus (a : Nat) (h : a < 4611686018427387904) : drossref04_plus ⟨0, (a : Int)⟩ ⟨0, (a : Int)⟩ = some ⟨0, ((2 * a : Nat) : Int)⟩ := by
  have e1 : addF (a : Int) (a : Int) 0 = some (((2 * a : Nat) : Int), 0) := by
    unfold addF
    rw [if_pos (by omega)]
    congr 2 <;> omega
  have e2 : addF 0 0 0 = some (0, 0) := by decide
  simp only [drossref04_plus, e1, e2, Option.bind_some]
theorem wide_minus (a b : Nat) (h : a < 9223372036854775808) (hb : b ≤ a) : drossref04_minus ⟨0, (a : Int)⟩ ⟨0, (b : Int)⟩ = some ⟨0, ((a - b : Nat) : Int)⟩ := by
  have e1 : subF (a : Int) (b : Int) 0 = some (((a - b : Nat) : Int), 0) := by
    unfold subF
    rw [if_pos (by omega), if_neg (by omega)]
    congr 2; omega
  have e2 : subF 0 0 0 = some (0, 0) := by decide
  simp only [drossref04_minus, e1, e2, Option.bind_some]
theorem wide_less (a b : Nat) : drossref04_less ⟨0, (a : Int)⟩ ⟨0, (b : Int)⟩ = some (decide (a < b)) := by
  simp only [drossref04_less]
  rw [if_neg (by omega), if_pos (by rfl)]
  simp
theorem parts_step0 (a b k : Nat) (hb : 0 < b) (hk : 64 ≤ k) (hk' : k < 128) : drossref04_parts_l1 ⟨0, (a : Int)⟩ ⟨0, (b : Int)⟩ (⟨0, 0⟩, ⟨0, 0⟩, (k : Int)) = some (.next (⟨0, 0⟩, ⟨0, 0⟩, (k : Int) - 1)) := by
  have h1 : (k : Int) ≥ 0 := by omega
  have h2 : (k : Int) ≥ 64 := by omega
  have h3 : Int.tmod (k : Int) 64 = ((k % 64 : Nat) : Int) := Int.ofNat_tmod k 64
  have h4 : ¬ ((k % 64 : Nat) : Int) < 0 := by omega
  have h5 : drossref04_plus ⟨0, 0⟩ ⟨0, 0⟩ = some ⟨0, 0⟩ := wide_plus 0 (by omega)
  have h6 : IntKind.u64.wrap ((0 : Int) + (Int.tmod (Int.fdiv 0 (2 ^ (min (((k % 64 : Nat) : Int)).toNat 64))) 2)) = 0 := by rw [Int.zero_fdiv]; rfl
  have h7 : drossref04_less ⟨0, 0⟩ ⟨0, (b : Int)⟩ = some true := by
    have := wide_less 0 b
    rw [show decide (0 < b) = true by simp [hb]] at this
    exact this
  have h8 : IntKind.i64.wrap ((k : Int) - 1) = (k : Int) - 1 := wrap_i64 (by omega) (by omega)
  simp only [drossref04_parts_l1, if_pos h1, if_pos h2, h3, if_neg h4, h5, Option.bind_some, h6, h7, if_true, h8]
theorem fdiv_pow (a k : Nat) : Int.fdiv (a : Int) (2 ^ k) = ((a / 2 ^ k : Nat) : Int) := by
  have e : (2 : Int) ^ k = ((2 ^ k : Nat) : Int) := by simp
  rw [e]; exact (Int.ofNat_fdiv a (2 ^ k)).symm
theorem parts_step1 (a b k : Nat) (ha : a < 4611686018427387904) (hb : 0 < b) (hb' : b < 2305843009213693952) (hk : k < 64) :
    drossref04_parts_l1 ⟨0, (a : Int)⟩ ⟨0, (b : Int)⟩ (⟨0, ((a / 2 ^ (k + 1) / b : Nat) : Int)⟩, ⟨0, ((a / 2 ^ (k + 1) % b : Nat) : Int)⟩, (k : Int)) =
      some (.next (⟨0, ((a / 2 ^ k / b : Nat) : Int)⟩, ⟨0, ((a / 2 ^ k % b : Nat) : Int)⟩, (k : Int) - 1)) := by
  have h1 : (k : Int) ≥ 0 := by omega
  have h2 : ¬ (k : Int) ≥ 64 := by omega
  have h3 : Int.tmod (k : Int) 64 = (k : Int) := by
    have : Int.tmod (k : Int) 64 = ((k % 64 : Nat) : Int) := Int.ofNat_tmod k 64
    rw [this]; omega
  have h4 : ¬ (k : Int) < 0 := by omega
  have hx : a / 2 ^ k = 2 * (a / 2 ^ (k + 1)) + a / 2 ^ k % 2 := by
    rw [Nat.pow_succ, ← Nat.div_div_eq_div_mul]; omega
  have hy : a / 2 ^ k ≤ a := Nat.div_le_self _ _
  have hbit : Int.tmod (Int.fdiv (a : Int) (2 ^ (min ((k : Int)).toNat 64))) 2 = ((a / 2 ^ k % 2 : Nat) : Int) := by
    rw [Int.toNat_natCast, Nat.min_eq_left (by omega), fdiv_pow]
    exact Int.ofNat_tmod _ 2
  have hbit2 : a / 2 ^ k % 2 < 2 := Nat.mod_lt _ (by omega)
  generalize a / 2 ^ k % 2 = bit at *
  generalize a / 2 ^ k = y at *
  generalize a / 2 ^ (k + 1) = x at *
  have hr : x % b < b := Nat.mod_lt _ hb
  have hq : x / b ≤ x := Nat.div_le_self _ _
  have hm := Nat.mod_add_div x b
  have p1 := wide_plus (x % b) (by omega)
  have p2 := wide_plus (x / b) (by omega)
  have h6 : IntKind.u64.wrap (((2 * (x % b) : Nat) : Int) + (bit : Int)) = ((2 * (x % b) + bit : Nat) : Int) := by
    rw [← Int.natCast_add]; exact wrap_u64 (by omega) (by omega)
  have h7 : IntKind.u64.wrap (((2 * (x / b) : Nat) : Int) + 1) = ((2 * (x / b) + 1 : Nat) : Int) := by
    rw [wrap_u64 (by omega) (by omega)]; omega
  have h8 : IntKind.i64.wrap ((k : Int) - 1) = (k : Int) - 1 := wrap_i64 (by omega) (by omega)
  simp only [drossref04_parts_l1, if_pos h1, if_neg h2, h3, if_neg h4, p1, p2, Option.bind_some, hbit, h6, h7, h8, wide_less]
  have hmul : b * (2 * (x / b)) = 2 * (b * (x / b)) := by rw [Nat.mul_left_comm]
  by_cases hl : 2 * (x % b) + bit < b
  · obtain ⟨e1, e2⟩ := dmod (b := b) (y := y) (d := 2 * (x / b)) (c := 2 * (x % b) + bit) (by rw [hmul]; omega) hl
    simp only [hl, decide_true, if_true, e1, e2]
  · obtain ⟨e1, e2⟩ := dmod (b := b) (y := y) (d := 2 * (x / b) + 1) (c := 2 * (x % b) + bit - b) (by rw [Nat.mul_add, hmul, Nat.mul_one]; omega) (by omega)
    have m1 := wide_minus (2 * (x % b) + bit) b (by omega) (by omega)
    simp only [hl, decide_false, Bool.false_eq_true, if_false, m1, Option.bind_some, e1, e2]
theorem parts_eq (a b : Nat) (ha : a < 4611686018427387904) (hb : 0 < b) (hb' : b < 2305843009213693952) : drossref04_parts ⟨0, (a : Int)⟩ ⟨0, (b : Int)⟩ = some (⟨0, ((a / b : Nat) : Int)⟩, ⟨0, ((a % b : Nat) : Int)⟩) := by
  have low : ∀ k : Nat, k ≤ 64 → LoopF (drossref04_parts_l1 ⟨0, (a : Int)⟩ ⟨0, (b : Int)⟩) (⟨0, ((a / 2 ^ k / b : Nat) : Int)⟩, ⟨0, ((a / 2 ^ k % b : Nat) : Int)⟩, (k : Int) - 1) = some (⟨0, ((a / b : Nat) : Int)⟩, ⟨0, ((a % b : Nat) : Int)⟩) := by
    intro k
    induction k with
    | zero =>
      intro _
      rw [Nat.pow_zero, Nat.div_one]
      exact Loop_done (by simp [drossref04_parts_l1])
    | succ k ih =>
      intro hk
      have e : ((k + 1 : Nat) : Int) - 1 = (k : Int) := by omega
      rw [e, Loop_next (parts_step1 a b k ha hb hb' (by omega))]
      exact ih (by omega)
  have hz : a / 2 ^ 64 = 0 := Nat.div_eq_of_lt (by omega)
  have high : ∀ k : Nat, k ≤ 64 → LoopF (drossref04_parts_l1 ⟨0, (a : Int)⟩ ⟨0, (b : Int)⟩) (⟨0, 0⟩, ⟨0, 0⟩, ((64 + k : Nat) : Int) - 1) = some (⟨0, ((a / b : Nat) : Int)⟩, ⟨0, ((a % b : Nat) : Int)⟩) := by
    intro k
    induction k with
    | zero =>
      intro _
      have := low 64 (Nat.le_refl _)
      rw [hz, Nat.zero_div, Nat.zero_mod] at this
      exact this
    | succ k ih =>
      intro hk
      have e : ((64 + (k + 1) : Nat) : Int) - 1 = ((64 + k : Nat) : Int) := by omega
      rw [e, Loop_next (parts_step0 a b (64 + k) hb (by omega) (by omega))]
      exact ih (by omega)
  have := high 64 (Nat.le_refl _)
  simp only [drossref04_parts]
  rw [show (127 : Int) = ((64 + 64 : Nat) : Int) - 1 by omega, this]
  rfl
theorem build_loop : ∀ (b a : Nat), a < 2305843009213693952 → b < 2305843009213693952 → LoopF drossref04_build_l1 (⟨0, (a : Int)⟩, ⟨0, (b : Int)⟩) = some ⟨0, ((Nat.gcd a b : Nat) : Int)⟩ := by
  intro b
  induction b using Nat.strongRecOn with
  | ind b ih =>
    intro a ha hb
    by_cases hz : b = 0
    · subst hz
      rw [Loop_done (t := ⟨0, (a : Int)⟩) (by simp [drossref04_build_l1, drossref04_zero]), Nat.gcd_zero_right]
    · have h1 : drossref04_zero ⟨0, (b : Int)⟩ = some false := by
        simp only [drossref04_zero]
        rw [if_pos (by rfl)]
        congr 1; simp; omega
      rw [Loop_next (s' := (⟨0, (b : Int)⟩, ⟨0, ((a % b : Nat) : Int)⟩)) (by simp only [drossref04_build_l1, h1, Option.bind_some, Bool.false_eq_true, if_false, parts_eq a b (by omega) (by omega) hb]), ih (a % b) (Nat.mod_lt _ (by omega)) b hb (Nat.lt_trans (Nat.mod_lt _ (by omega)) hb)]
      rw [Nat.gcd_comm a b, Nat.gcd_rec b a, Nat.gcd_comm]
theorem ref_Make_nat (n d : Nat) (hn : n < 2305843009213693952) (hd : 0 < d) (hd' : d < 2305843009213693952) : drossref04_Make (n : Int) (d : Int) = some (ratioN n d, 0) := by
  have hg : 0 < Nat.gcd n d := Nat.gcd_pos_of_pos_right _ hd
  have hgd : Nat.gcd n d ≤ d := Nat.gcd_le_right _ hd
  have h0 : ((d : Int) == 0) = false := by simp; omega
  have hdn : n / Nat.gcd n d ≤ n := Nat.div_le_self _ _
  have hdd : d / Nat.gcd n d ≤ d := Nat.div_le_self _ _
  have e1 : (decide ((n : Int) < 0)) = false := by simp
  have e2 : (decide ((d : Int) < 0)) = false := by simp
  have s1 : ∀ m : Nat, m < 2305843009213693952 → drossref04_size (m : Int) = some ⟨0, (m : Int)⟩ := by
    intro m hm
    simp only [drossref04_size]
    rw [if_neg (by omega), wrap_u64 (by omega) (by omega)]
  have l1 : ∀ m : Nat, m < 2305843009213693952 → drossref04_less ⟨0, 9223372036854775807⟩ ⟨0, (m : Int)⟩ = some false := by
    intro m hm
    have := wide_less 9223372036854775807 m
    rw [show decide (9223372036854775807 < m) = false by simp; omega] at this
    exact this
  simp only [drossref04_Make, h0, Bool.false_eq_true, if_false, s1 n hn, s1 d hd', Option.bind_some, drossref04_build, build_loop d n hn hd', parts_eq n _ (by omega) hg (by omega), parts_eq d _ (by omega) hg (by omega), l1 _ (show n / Nat.gcd n d < 2305843009213693952 by omega), l1 _ (show d / Nat.gcd n d < 2305843009213693952 by omega), e1, e2, beq_self_eq_true, Bool.not_true]
  simp only [ratioN]
  generalize n / Nat.gcd n d = p at *
  generalize d / Nat.gcd n d = q at *
  rw [wrap_i64 (n := (p : Int)) (by omega) (by omega), wrap_i64 (n := (q : Int)) (by omega) (by omega)]
theorem ref_Of_nat (n d : Nat) (hn : n < 2305843009213693952) (hd : 0 < d) (hd' : d < 2305843009213693952) : drossref04_Of (n : Int) (d : Int) = some (ratioN n d) := by
  simp only [drossref04_Of, ref_Make_nat n d hn hd hd', Option.bind_some]
  rfl
end Go.Proofs.YtjcdclpfeflfkaaGreatDoor
/- The errors that the program computes. -/
set_option linter.unusedVariables false
set_option linter.unusedSimpArgs false
namespace Go.Proofs.YtjcdclpfeflfkaaGreatDoor
open Go Go.Ab

theorem best_eq (g : List (List Nat)) (hl : g.length ≤ 1000000) (hb : ∀ d ∈ g, d.length ≤ 1000000) : approx_group_best (intLL g) = some ((bestN g : Nat) : Int) := by
  by_cases h0 : g = []
  · subst h0
    simp only [approx_group_best]
    rw [Loop_done (t := 0) (by simp [approx_group_best_l1, intLL])]
    rfl
  have hpos : 0 < g.length := List.length_pos_iff.2 h0
  have h := LoopF_foldl (List.range g.length) (fun (b : Nat) i => ((b : Int), i)) (approx_group_best_l1 (intLL g)) (fun k i => if (g.getD k []).length < (g.getD i []).length then i else k) (fun b => (b : Int)) (fun k b => b < g.length) (b0 := 0) (s0 := (0, 0)) rfl hpos
    (fun k b x hx hk hI => by
      have hxk : x = k ∧ k < g.length := by
        rw [List.length_range] at hk
        rw [List.getElem?_range hk] at hx
        exact ⟨(Option.some.inj hx).symm, hk⟩
      obtain ⟨rfl, hkl⟩ := hxk
      have hki : ((x : Int) < ((intLL g).length : Int)) := by rw [intLL_len]; omega
      have e1 : idx (intLL g) (x : Int) = some (intL (g.getD x [])) := by
        rw [idx_nat, intLL_get, List.getElem?_eq_getElem hkl]; simp [List.getD, List.getElem?_eq_getElem hkl]
      have e2 : idx (intLL g) (b : Int) = some (intL (g.getD b [])) := by
        rw [idx_nat, intLL_get, List.getElem?_eq_getElem hI]; simp [List.getD, List.getElem?_eq_getElem hI]
      have hw := wrap_nat (show x < 4611686018427387904 by omega)
      simp only [approx_group_best_l1, if_pos hki, e1, e2, Option.bind_some, intL_len, hw]
      by_cases hc : (g.getD b []).length < (g.getD x []).length
      · have hc' : ((g.getD x []).length : Int) > ((g.getD b []).length : Int) := by omega
        rw [if_pos hc', if_pos hc]
        exact ⟨rfl, hkl⟩
      · have hc' : ¬ ((g.getD x []).length : Int) > ((g.getD b []).length : Int) := by omega
        rw [if_neg hc', if_neg hc]
        exact ⟨rfl, hI⟩)
    (fun b _ => by simp [approx_group_best_l1, intLL_len])
  simp only [approx_group_best]
  rw [h]; rfl
theorem foldl_sum {α : Type} (f : α → Nat) : ∀ (l : List α) (a : Nat), l.foldl (fun n x => n + f x) a = a + (l.map f).sum
  | [], a => by simp
  | x :: l, a => by rw [List.foldl_cons, foldl_sum f l]; simp; omega
theorem le_sum {l : List Nat} {x : Nat} (h : x ∈ l) : x ≤ l.sum := by
  induction l with
  | nil => cases h
  | cons y l ih =>
    rcases List.mem_cons.1 h with rfl | h
    · simp
    · have := ih h; simp; omega
theorem take_sum (l : List Nat) (k : Nat) : (l.take k).sum ≤ l.sum := by
  conv => rhs; rw [← List.take_append_drop k l]
  rw [List.sum_append]; omega
/-- a loop over a list that adds numbers -/
theorem sum_loop {α : Type} (l : List α) (B : Int × Int → Option (LS (Int × Int) Int)) (f : α → Nat) (a : Nat)
    (hB : ∀ (k : Nat) (x : α) (s : Nat), l[k]? = some x → k < l.length → s ≤ a + (l.map f).sum → B ((s : Int), (k : Int)) = some (.next (((s + f x : Nat) : Int), ((k + 1 : Nat) : Int))))
    (hE : ∀ s : Int, B (s, (l.length : Int)) = some (.done s)) : LoopF B ((a : Int), 0) = some (((a + (l.map f).sum : Nat) : Int)) := by
  have h := LoopF_foldl l (fun (s : Nat) i => ((s : Int), i)) B (fun s x => s + f x) (fun s => (s : Int)) (fun k s => s = a + ((l.take k).map f).sum) (b0 := a) (s0 := ((a : Int), 0)) rfl (by simp)
    (fun k s x hx hk hI => by
      have hs : s ≤ a + (l.map f).sum := by
        rw [hI, List.map_take]
        have := take_sum (l.map f) k
        omega
      refine ⟨hB k x s hx hk hs, ?_⟩
      rw [hI, List.take_add_one, hx]
      simp; omega)
    (fun s _ => hE s)
  rw [h, foldl_sum]
theorem size_eq (g : List (List Nat)) (hl : g.length ≤ 1000000) (hs : (g.map fun d => d.length).sum ≤ 1000000) : approx_group_size (intLL g) = some (((g.map fun d => d.length).sum : Nat) : Int) := by
  have h := sum_loop g (approx_group_size_l1 (intLL g)) (fun d => d.length) 0
    (fun k d s hd hk hsl => by
      have hki : ((k : Int) < ((intLL g).length : Int)) := by rw [intLL_len]; omega
      have e1 : idx (intLL g) (k : Int) = some (intL d) := by rw [idx_nat, intLL_get, hd]; rfl
      have hdl : d.length ≤ (g.map fun d => d.length).sum := le_sum (List.mem_map.2 ⟨d, List.mem_of_getElem? hd, rfl⟩)
      have hw : IntKind.i64.wrap ((s : Int) + (d.length : Int)) = ((s + d.length : Nat) : Int) := by rw [wrap_i64 (by omega) (by omega)]; omega
      simp only [approx_group_size_l1, if_pos hki, e1, Option.bind_some, intL_len, hw, wrap_nat (show k < 4611686018427387904 by omega)])
    (fun s => by simp [approx_group_size_l1, intLL_len])
  simp only [approx_group_size]
  rw [show ((0 : Int), (0 : Int)) = (((0 : Nat) : Int), 0) from rfl, h]
  simp
theorem squares_loop (g : List (List Nat)) (hl : g.length ≤ 1000000) (A : Nat) (hA : (g.map fun d => d.length * d.length).sum ≤ A) (hA2 : A ≤ 1000000000000) (hd : ∀ d ∈ g, d.length ≤ 1000000) :
    LoopF (approx_measured_l3 (intLL g)) ((A : Int), 0) = some (((A - (g.map fun d => d.length * d.length).sum : Nat) : Int)) := by
  have h := LoopF_foldl g (fun (s : Nat) i => ((s : Int), i)) (approx_measured_l3 (intLL g)) (fun s d => s - d.length * d.length) (fun s => (s : Int)) (fun k s => s = A - ((g.take k).map fun d => d.length * d.length).sum) (b0 := A) (s0 := ((A : Int), 0)) rfl (by simp)
    (fun k s d hd' hk hI => by
      have hki : ((k : Int) < ((intLL g).length : Int)) := by rw [intLL_len]; omega
      have e1 : idx (intLL g) (k : Int) = some (intL d) := by rw [idx_nat, intLL_get, hd']; rfl
      have hdl := hd d (List.mem_of_getElem? hd')
      have hsq : d.length * d.length ≤ 1000000 * 1000000 := Nat.mul_le_mul hdl hdl
      have hts : ((g.take (k + 1)).map fun d => d.length * d.length).sum ≤ A := by
        rw [List.map_take]
        exact Nat.le_trans (take_sum _ _) hA
      have hts' : ((g.take (k + 1)).map fun d => d.length * d.length).sum = ((g.take k).map fun d => d.length * d.length).sum + d.length * d.length := by
        rw [List.take_add_one, hd']; simp
      generalize hsqe : d.length * d.length = q at *
      have hw1 : IntKind.i64.wrap ((d.length : Int) * (d.length : Int)) = (q : Int) := by
        have : (d.length : Int) * (d.length : Int) = (q : Int) := by rw [← hsqe]; simp
        rw [this, wrap_i64 (by omega) (by omega)]
      have hw2 : IntKind.i64.wrap ((s : Int) - (q : Int)) = ((s - q : Nat) : Int) := by rw [wrap_i64 (by omega) (by omega)]; omega
      refine ⟨?_, by rw [hts']; omega⟩
      simp only [approx_measured_l3, if_pos hki, e1, Option.bind_some, intL_len, hw1, hw2, wrap_nat (show k < 4611686018427387904 by omega)])
    (fun s _ => by simp [approx_measured_l3, intLL_len])
  rw [h]
  have : ∀ (l : List (List Nat)) (a : Nat), l.foldl (fun s d => s - d.length * d.length) a = a - (l.map fun d => d.length * d.length).sum := by
    intro l
    induction l with
    | nil => intro a; simp
    | cons d l ih => intro a; rw [List.foldl_cons, ih]; simp; omega
  rw [this]

/-- what a row adds to the error -/
def phiN (t : Table) (s p m i : Nat) : Nat := if m = 1 then nviol t s p i else if m = 2 then min (nviol t s p i) 1 else if remB t s p i then 1 else 0
def errN (t : Table) (s p m : Nat) : Nat := ((List.range t.Rows.length).map (phiN t s p m)).sum
theorem nviol_le (t : Table) (s p i : Nat) : nviol t s p i ≤ t.Rows.length := by
  unfold nviol
  exact Nat.le_trans List.countP_le_length (by rw [List.length_range]; exact Nat.le_refl _)
theorem phi_single {t : Table} {s p m i : Nat} (F : FinerR t s p) (hi : i < t.Rows.length) (h : cntP t s i = 1) : phiN t s p m i = 0 := by
  have h1 := cnt_split F hi
  have h2 := cntP_pos (p := p) hi
  have h3 : nviol t s p i = 0 := by omega
  have h4 : remB t s p i = false := by
    obtain ⟨b1, b2, _, _⟩ := bestRow_spec (s := s) (p := p) hi
    unfold remB
    by_cases e : bestRow t s p i = i
    · rw [e, agN_refl]; rfl
    · exfalso
      unfold cntP at h
      rw [List.countP_eq_length_filter] at h
      have hm1 : i ∈ (List.range t.Rows.length).filter fun k => agN t s k i := List.mem_filter.2 ⟨List.mem_range.2 hi, agN_refl t s i⟩
      have hm2 : bestRow t s p i ∈ (List.range t.Rows.length).filter fun k => agN t s k i := List.mem_filter.2 ⟨List.mem_range.2 b1, agN_symm b2⟩
      have := two_of (List.Nodup.sublist List.filter_sublist List.nodup_range) hm1 hm2 (fun e' => e e'.symm)
      omega
  unfold phiN
  rw [h3, h4]
  simp
theorem err_le (t : Table) (s p m : Nat) : errN t s p m ≤ t.Rows.length * t.Rows.length := by
  unfold errN
  have : ∀ i ∈ List.range t.Rows.length, phiN t s p m i ≤ t.Rows.length := by
    intro i hi
    have h := nviol_le t s p i
    have := List.mem_range.1 hi
    unfold phiN
    split
    · exact h
    · split
      · omega
      · split <;> omega
  have h2 := sum_le this
  rw [sum_const, List.length_range] at h2
  exact h2
/-- what a class adds -/
theorem group_val {t : Table} {s p : Nat} (F : FinerR t s p) {c : List Nat} (hc : c ∈ clsN t s) (h2 : 2 ≤ c.length) :
    (c.map (phiN t s p 1)).sum = c.length * c.length - ((parts t p c).map fun d => d.length * d.length).sum ∧
    (c.map (phiN t s p 2)).sum = (if 1 < (parts t p c).length then c.length else 0) ∧
    (c.map (phiN t s p 3)).sum = c.length - ((parts t p c).getD (bestN (parts t p c)) []).length := by
  have e1 : phiN t s p 1 = nviol t s p := by funext i; simp [phiN]
  have e2 : phiN t s p 2 = fun i => min (nviol t s p i) 1 := by funext i; simp [phiN]
  have e3 : phiN t s p 3 = fun i => if remB t s p i then 1 else 0 := by funext i; simp [phiN]
  have g1 := g1_class F hc
  have g2 := g2_class F hc
  have g3 := g3_class F hc (by intro e; subst e; simp at h2)
  rw [e1, e2, e3]
  refine ⟨by omega, g2.symm, by omega⟩
theorem measured_loop {t : Table} (hn : t.Rows.length ≤ 1000) {s p : Nat} (F : FinerR t s p) (m : Nat) (hm : m = 1 ∨ m = 2 ∨ m = 3) :
    LoopF (approx_measured_l4 (m : Int) (intG (grpN t s p))) (0, 0) = some ((errN t s p m : Nat) : Int) := by
  have hsum := big_sum (s := s) (phiN t s p m) (fun i hi h => phi_single F hi h)
  have hE := err_le t s p m
  have hnn : t.Rows.length * t.Rows.length ≤ 1000 * 1000 := Nat.mul_le_mul hn hn
  have hbl : (big (clsN t s)).length ≤ 1000000 := by
    have h2 := List.length_filter_le (fun c : List Nat => decide (2 ≤ c.length)) (clsN t s)
    have h3 := classes_len (List UInt8) (fun i => rkey s (rowN t i)) (List.range t.Rows.length)
    rw [List.length_range] at h3
    unfold big
    unfold clsN at h2 ⊢
    omega
  have h := sum_loop (big (clsN t s)) (approx_measured_l4 (m : Int) (intG (grpN t s p))) (fun c => (c.map (phiN t s p m)).sum) 0
    (fun k c a hc hk ha => by
      obtain ⟨hcm, hc2⟩ := big_mem.1 (List.mem_of_getElem? hc)
      obtain ⟨v1, v2, v3⟩ := group_val F hcm hc2
      have hcl : c.length ≤ 1000 := by
        have := class_len hcm
        rw [List.length_range] at this; omega
      have hg : (intG (grpN t s p))[k]? = some (intLL (parts t p c)) := by
        rw [intG_get]; unfold grpN; rw [List.getElem?_map, hc]; rfl
      have hki : ((k : Int) < ((intG (grpN t s p)).length : Int)) := by
        rw [intG_len]; unfold grpN; rw [List.length_map]; omega
      have hpl : (parts t p c).length ≤ 1000 := by
        have := classes_len (List UInt8) (fun i => rkey p (rowN t i)) c
        unfold parts; omega
      have hpd : ∀ d ∈ parts t p c, d.length ≤ 1000 := fun d hd => by
        have := class_len hd; omega
      have hsz := parts_size t p c
      have e1 := size_eq (parts t p c) (by omega) (by rw [hsz]; omega)
      rw [hsz] at e1
      have hmem : (c.map (phiN t s p m)).sum ≤ ((big (clsN t s)).map fun c => (c.map (phiN t s p m)).sum).sum := le_sum (List.mem_map.2 ⟨c, List.mem_of_getElem? hc, rfl⟩)
      rw [hsum] at ha hmem
      have hE' : ((List.range t.Rows.length).map (phiN t s p m)).sum ≤ 1000000 := by
        have : ((List.range t.Rows.length).map (phiN t s p m)).sum = errN t s p m := rfl
        omega
      have hw := wrap_nat (show k < 4611686018427387904 by omega)
      have hccl : c.length * c.length ≤ 1000 * 1000 := Nat.mul_le_mul hcl hcl
      have hsq := g1_class F hcm
      have hgb : ((parts t p c).getD (bestN (parts t p c)) []).length ≤ c.length := by
        have := g3_class F hcm (by intro e; subst e; simp at hc2); omega
      have hbest := best_eq (parts t p c) (by omega) (fun d hd => by have := hpd d hd; omega)
      have hne : parts t p c ≠ [] := by
        intro e; rw [e] at hsz; simp at hsz; omega
      have hgi : idx (intLL (parts t p c)) ((bestN (parts t p c) : Nat) : Int) = some (intL ((parts t p c).getD (bestN (parts t p c)) [])) := by
        have := (bestN_spec (parts t p c) hne).1
        rw [idx_nat, intLL_get, List.getElem?_eq_getElem this]; simp [List.getD, List.getElem?_eq_getElem this]
      simp only [approx_measured_l4, if_pos hki, idx_get hg, Option.bind_some, e1]
      rcases hm with rfl | rfl | rfl
      · generalize hq : c.length * c.length = q at *
        have w1 : IntKind.i64.wrap ((c.length : Int) * (c.length : Int)) = (q : Int) := by
          have : (c.length : Int) * (c.length : Int) = (q : Int) := by rw [← hq]; simp
          rw [this, wrap_i64 (by omega) (by omega)]
        have w2 : IntKind.i64.wrap ((a : Int) + (q : Int)) = ((a + q : Nat) : Int) := by rw [wrap_i64 (by omega) (by omega)]; omega
        have hl3 := squares_loop (parts t p c) (by omega) (a + q) (by omega) (by omega) (fun d hd => by have := hpd d hd; omega)
        have c1 : (((1 : Nat) : Int) == 1) = true := by decide
        simp only [c1, if_true, w1, w2, hl3, Option.bind_some, hw]
        congr 4
        omega
      · have c1 : (((2 : Nat) : Int) == 1) = false := by decide
        have c2 : (((2 : Nat) : Int) == 2) = true := by decide
        simp only [c1, Bool.false_eq_true, if_false, c2, if_true, intLL_len]
        by_cases hc1 : 1 < (parts t p c).length
        · have hc1' : ((parts t p c).length : Int) > 1 := by omega
          rw [if_pos hc1] at v2
          rw [if_pos hc1', v2]
          have w2 : IntKind.i64.wrap ((a : Int) + (c.length : Int)) = ((a + c.length : Nat) : Int) := by rw [wrap_i64 (by omega) (by omega)]; omega
          rw [w2, hw]
        · have hc1' : ¬ ((parts t p c).length : Int) > 1 := by omega
          rw [if_neg hc1] at v2
          rw [if_neg hc1', v2, hw]; rfl
      · have c1 : (((3 : Nat) : Int) == 1) = false := by decide
        have c2 : (((3 : Nat) : Int) == 2) = false := by decide
        simp only [c1, Bool.false_eq_true, if_false, c2, hbest, Option.bind_some, hgi, intL_len]
        have w1 : IntKind.i64.wrap ((c.length : Int) - (((parts t p c).getD (bestN (parts t p c)) []).length : Int)) = ((c.length - ((parts t p c).getD (bestN (parts t p c)) []).length : Nat) : Int) := by rw [wrap_i64 (by omega) (by omega)]; omega
        rw [w1, ← v3]
        have w2 : IntKind.i64.wrap ((a : Int) + (((c.map (phiN t s p 3)).sum : Nat) : Int)) = ((a + (c.map (phiN t s p 3)).sum : Nat) : Int) := by rw [wrap_i64 (by omega) (by omega)]; omega
        rw [w2, hw])
    (fun a => by
      have : (intG (grpN t s p)).length = (big (clsN t s)).length := by rw [intG_len]; simp [grpN]
      simp [approx_measured_l4, this])
  rw [show ((0 : Int), (0 : Int)) = (((0 : Nat) : Int), 0) from rfl, h, Nat.zero_add, hsum]
  rfl
theorem bits_or {s r : Nat} (k : Nat) (h : s.testBit k = true) : (s ||| r).testBit k = true := by rw [Nat.testBit_or, h]; rfl
theorem finerR_or {t : Table} (G : GT t) {s r : Nat} (hs : s < 2 ^ t.Attrs.length) (hr : r < 2 ^ t.Attrs.length) : FinerR t s (s ||| r) := fun i k hi hk ha => finer_of (fun k h => bits_or k h) G hs (Nat.or_lt_two_pow hs hr) hi hk ha
/-- the error -/
def errR (t : Table) (s p m : Nat) : Ratio := if t.Rows.length = 0 then ⟨0, 1⟩ else ratioN (errN t s p m) (if m = 1 then t.Rows.length * t.Rows.length else t.Rows.length)
theorem measured_eq {t : Table} (G : GT t) {s r : Nat} (hs : s < 2 ^ t.Attrs.length) (hr : r < 2 ^ t.Attrs.length) (m : Nat) (hm : m = 1 ∨ m = 2 ∨ m = 3) : approx_measured t ⟨(s : Int), (r : Int)⟩ (m : Int) = some (errR t s (s ||| r) m) := by
  have hn := G.rows
  unfold errR
  by_cases h0 : t.Rows.length = 0
  · have : ((t.Rows.length : Int) == 0) = true := by simp [h0]
    simp only [approx_measured, this, if_true, if_pos h0]
  · have hne : ((t.Rows.length : Int) == 0) = false := by simp; exact fun e => h0 (by rw [e]; rfl)
    have hE := err_le t s (s ||| r) m
    have hnn : t.Rows.length * t.Rows.length ≤ 1000 * 1000 := Nat.mul_le_mul hn hn
    have hpos : 0 < t.Rows.length * t.Rows.length := Nat.mul_pos (by omega) (by omega)
    simp only [approx_measured, hne, Bool.false_eq_true, if_false, groups_fd G hs hr, Option.bind_some, measured_loop hn (finerR_or G hs hr) m hm, if_neg h0]
    have hw : IntKind.i64.wrap ((t.Rows.length : Int) * (t.Rows.length : Int)) = ((t.Rows.length * t.Rows.length : Nat) : Int) := by
      have : (t.Rows.length : Int) * (t.Rows.length : Int) = ((t.Rows.length * t.Rows.length : Nat) : Int) := by simp
      rw [this, wrap_i64 (by omega) (by omega)]
    rcases hm with rfl | rfl | rfl
    · have c1 : (((1 : Nat) : Int) == 1) = true := by decide
      simp only [c1, if_true, hw, ratio_Make_nat _ _ (show errN t s (s ||| r) 1 < 4611686018427387904 by omega) hpos (by omega), Option.bind_some]
    · have c1 : (((2 : Nat) : Int) == 1) = false := by decide
      simp only [c1, Bool.false_eq_true, if_false, ratio_Make_nat _ _ (show errN t s (s ||| r) 2 < 4611686018427387904 by omega) (show 0 < t.Rows.length by omega) (by omega), Option.bind_some]
      simp
    · have c1 : (((3 : Nat) : Int) == 1) = false := by decide
      simp only [c1, Bool.false_eq_true, if_false, ratio_Make_nat _ _ (show errN t s (s ||| r) 3 < 4611686018427387904 by omega) (show 0 < t.Rows.length by omega) (by omega), Option.bind_some]
      simp
end Go.Proofs.YtjcdclpfeflfkaaGreatDoor
/- The reference of the errors, and the removal. -/
set_option linter.unusedVariables false
set_option linter.unusedSimpArgs false
namespace Go.Proofs.YtjcdclpfeflfkaaGreatDoor
open Go Go.Ab

theorem attrs_of {t : Table} (h : tableErr t = 0) : t.Attrs.length ≤ 16 := by
  unfold tableErr at h
  split at h
  · cases h
  · split at h
    · cases h
    · omega
/-- a dependency within the table -/
def inB (t : Table) (f : FD) : Bool := decide ((f.Lhs.toNat ||| f.Rhs.toNat) < 2 ^ t.Attrs.length)
theorem okI_u32 {n : Int} (h : okI .u32 n) : 0 ≤ n ∧ n ≤ 4294967295 := by
  have h' : (decide (IntKind.min .u32 ≤ n) && decide (n ≤ IntKind.max .u32)) = true := h
  simp only [Bool.and_eq_true, decide_eq_true_eq] at h'
  have e1 : IntKind.min .u32 = 0 := by decide
  have e2 : IntKind.max .u32 = 4294967295 := by decide
  rw [e1, e2] at h'
  exact h'
theorem okI_i64 {n : Int} (h : okI .i64 n) : -9223372036854775808 ≤ n ∧ n ≤ 9223372036854775807 := by
  have h' : (decide (IntKind.min .i64 ≤ n) && decide (n ≤ IntKind.max .i64)) = true := h
  simp only [Bool.and_eq_true, decide_eq_true_eq] at h'
  have e1 : IntKind.min .i64 = -9223372036854775808 := by decide
  have e2 : IntKind.max .i64 = 9223372036854775807 := by decide
  rw [e1, e2] at h'
  exact h'
theorem fd_of {f : FD} (h : okFD f) : ∃ s r : Nat, f = ⟨(s : Int), (r : Int)⟩ ∧ s < 4294967296 ∧ r < 4294967296 := by
  obtain ⟨h1, h2⟩ := h
  obtain ⟨L, R⟩ := f
  have q1 := okI_u32 h1
  have q2 := okI_u32 h2
  simp only at q1 q2
  refine ⟨L.toNat, R.toNat, ?_, by omega, by omega⟩
  congr 1 <;> omega
theorem shift_zero {n s : Nat} (hn : n ≤ 16) (hs : s < 4294967296) : ((Int.fdiv (IntKind.u64.wrap (s : Int)) (2 ^ (min ((n : Int)).toNat 64))) != 0) = !decide (s < 2 ^ n) := by
  rw [Int.toNat_natCast, Nat.min_eq_left (show n ≤ 64 by omega), wrap_u64 (n := (s : Int)) (by omega) (by omega), fdiv_pow]
  have hp : 0 < 2 ^ n := Nat.pow_pos (by omega)
  by_cases h : s < 2 ^ n
  · rw [Nat.div_eq_of_lt h]; simp [h]
  · have h2 := Nat.div_pos (show 2 ^ n ≤ s by omega) hp
    have : ¬ ((s / 2 ^ n : Nat) : Int) = 0 := by omega
    simp only [h, decide_false, Bool.not_false, bne_iff_ne, ne_eq]
    exact this
theorem known_list (t : Table) (T : TableOk t) (fds : List FD) (hl : fds.length ≤ 1000000) (h : ∀ f ∈ fds, okFD f) : approx_known t fds = some (if tableErr t = 0 then (if fds.all (inB t) then 0 else 6) else tableErr t) := by
  by_cases he : tableErr t = 0
  · have hn := attrs_of he
    have hb : ∀ (k : Nat) (f : FD), fds[k]? = some f → k < fds.length → approx_known_l1 t fds (k : Int) = some (if inB t f then .next ((k : Int) + 1) else .done (.inr 6)) := by
      intro k f hf hk
      obtain ⟨s, r, rfl, hs, hr⟩ := fd_of (h f (List.mem_of_getElem? hf))
      have h1 : ¬ ((t.Attrs.length : Int) < 0) := by omega
      have h2 := shift_zero hn (or_lt hs hr)
      have hw : IntKind.i64.wrap ((k : Int) + 1) = (k : Int) + 1 := by rw [wrap_i64 (by omega) (by omega)]
      have h3 : inB t ⟨(s : Int), (r : Int)⟩ = decide ((s ||| r) < 2 ^ t.Attrs.length) := by simp [inB]
      simp only [approx_known_l1, if_pos (lt_true hf), idx_get hf, Option.bind_some, if_neg h1, w32_or hs hr, h2, h3, hw]
      by_cases hc : (s ||| r) < 2 ^ t.Attrs.length <;> simp [hc]
    have hall := LoopF_all fds (approx_known_l1 t fds) (inB t) 6
      (fun k f hf hk hp => by rw [hb k f hf hk, if_pos hp]; rfl)
      (fun k f hf hp => by rw [hb k f hf (lt_of_get hf), if_neg (by simp [hp])])
      (by simp [approx_known_l1])
    simp only [approx_known, table_Valid_table t T, Option.bind_some, he, bne_self_eq_false, Bool.false_eq_true, if_false, hall, if_true]
    by_cases hc : fds.all (inB t) = true <;> simp [hc]
  · have hne : (tableErr t != 0) = true := by simp [he]
    simp only [approx_known, table_Valid_table t T, Option.bind_some, hne, if_true, if_neg he]
def fdErr (t : Table) (f : FD) : Int := if tableErr t = 0 then (if inB t f then 0 else 6) else tableErr t
theorem known_eq (t : Table) (T : TableOk t) (f : FD) (h : okFD f) : approx_known t [f] = some (fdErr t f) := by
  rw [known_list t T [f] (by simp) (fun g hg => by rw [List.mem_singleton.1 hg]; exact h)]
  simp [fdErr]
theorem agN_comm (t : Table) (p i k : Nat) : agN t p i k = agN t p k i := by
  unfold agN; rw [decide_eq_decide]; exact eq_comm
theorem agN_or {t : Table} (G : GT t) {s r : Nat} (hs : s < 2 ^ t.Attrs.length) (hr : r < 2 ^ t.Attrs.length) {i k : Nat} (hi : i < t.Rows.length) (hk : k < t.Rows.length) : agN t (s ||| r) i k = (agN t s i k && agN t r i k) := by
  rw [Bool.eq_iff_iff, Bool.and_eq_true, agN_iff G hs hi hk, agN_iff G hr hi hk, agN_iff G (Nat.or_lt_two_pow hs hr) hi hk]
  unfold AgreeN
  constructor
  · intro h
    exact ⟨fun a ha hb => h a ha (by rw [Nat.testBit_or, hb]; rfl), fun a ha hb => h a ha (by rw [Nat.testBit_or, hb, Bool.or_true])⟩
  · rintro ⟨h1, h2⟩ a ha hb
    rw [Nat.testBit_or, Bool.or_eq_true] at hb
    rcases hb with hb | hb
    · exact h1 a ha hb
    · exact h2 a ha hb
theorem sum_ite {α : Type} (p : α → Bool) : ∀ l : List α, (l.map fun x => if p x = true then 1 else 0).sum = l.countP p
  | [] => rfl
  | x :: l => by
    rw [List.map_cons, List.sum_cons, sum_ite p l, List.countP_cons]
    by_cases h : p x = true <;> simp [h] <;> omega
theorem range_at {n k z : Nat} (h : (List.range n)[k]? = some z) : z = k ∧ k < n := by
  have hk : k < n := by have := lt_of_get h; simpa using this
  rw [List.getElem?_range hk] at h
  exact ⟨(Option.some.inj h).symm, hk⟩
/-! ### the reference's removal -/
/-- the rows that are removed -/
def remL (t : Table) (s p : Nat) : List Nat := (List.range t.Rows.length).filter fun i => remB t s p i
def remIDs (t : Table) (s p : Nat) : List Int := (remL t s p).map fun i => (rowN t i).ID
theorem foldl_keepM {α β : Type} (p : α → Bool) (f : α → β) : ∀ (l : List α) (o : List β), l.foldl (fun o x => if p x = true then o ++ [f x] else o) o = o ++ (l.filter p).map f
  | [], o => by simp
  | x :: l, o => by
    rw [List.foldl_cons, foldl_keepM p f l]
    by_cases h : p x = true <;> simp [h]
theorem lt_in {t : Table} {s r : Nat} (h : inB t ⟨(s : Int), (r : Int)⟩ = true) : s < 2 ^ t.Attrs.length ∧ r < 2 ^ t.Attrs.length := by
  simp only [inB, Int.toNat_natCast, decide_eq_true_eq] at h
  exact ⟨Nat.lt_of_le_of_lt Nat.left_le_or h, Nat.lt_of_le_of_lt Nat.right_le_or h⟩
/-- the rows that the program and the reference remove -/
def remR (t : Table) (f : FD) : List Int × Int := if fdErr t f = 0 then (remIDs t f.Lhs.toNat (f.Lhs.toNat ||| f.Rhs.toNat), 0) else ([], fdErr t f)
theorem gt_of {t : Table} (h : okTable t) (he : tableErr t = 0) : GT t := by
  refine ⟨tabOk_of h, he, fun r hr v hv => ?_⟩
  exact okI_i64 ((h.2.2.2 r hr).2.2 v hv).2.1
theorem fdErr_zero {t : Table} {f : FD} (h : fdErr t f = 0) : tableErr t = 0 ∧ inB t f = true := by
  unfold fdErr at h
  by_cases he : tableErr t = 0
  · rw [if_pos he] at h
    by_cases hi : inB t f = true
    · exact ⟨he, hi⟩
    · rw [if_neg hi] at h; cases h
  · rw [if_neg he] at h; exact absurd h he
/-! ### the reference's errors -/
/-- the answer of Error -/
def errA (t : Table) (f : FD) (m : Int) : Ratio × Int :=
  if fdErr t f = 0 then (if 1 ≤ m ∧ m ≤ 3 then (errR t f.Lhs.toNat (f.Lhs.toNat ||| f.Rhs.toNat) m.toNat, 0) else (⟨0, 0⟩, 1)) else (⟨0, 0⟩, fdErr t f)
theorem Error_eq (t : Table) (ht : okTable t) (f : FD) (h : okFD f) (m : Int) : approx_Error t f m = some (errA t f m) := by
  unfold errA
  by_cases he : fdErr t f = 0
  · obtain ⟨h0, hi⟩ := fdErr_zero he
    have G := gt_of ht h0
    obtain ⟨s, r, rfl, hs, hr⟩ := fd_of h
    obtain ⟨hs', hr'⟩ := lt_in hi
    simp only [approx_Error, known_eq t (tabOk_of ht) _ h, Option.bind_some, he, bne_self_eq_false, Bool.false_eq_true, if_false, if_true, Int.toNat_natCast, approx_measures]
    by_cases h1 : m ≥ 1
    · by_cases h3 : m ≤ 3
      · obtain ⟨k, rfl⟩ : ∃ k : Nat, m = (k : Int) := ⟨m.toNat, by omega⟩
        have hm := measured_eq G hs' hr' k (by omega)
        simp only [if_pos h1, h3, decide_true, if_true, Option.bind_some, hm, if_pos (show (1 : Int) ≤ (k : Int) ∧ True by exact ⟨by omega, trivial⟩), Int.toNat_natCast]
      · simp only [if_pos h1, h3, decide_false, Bool.false_eq_true, if_false, Option.bind_some, and_false]
    · simp only [if_neg h1, Bool.false_eq_true, if_false, Option.bind_some, if_neg (show ¬ ((1 : Int) ≤ m ∧ m ≤ 3) by omega)]
  · have hne : (fdErr t f != 0) = true := by simp [he]
    simp only [approx_Error, known_eq t (tabOk_of ht) _ h, Option.bind_some, hne, if_true, if_neg he]
end Go.Proofs.YtjcdclpfeflfkaaGreatDoor
/- The program's removal; the chapter's example; Error. -/
set_option linter.unusedVariables false
set_option linter.unusedSimpArgs false
namespace Go.Proofs.YtjcdclpfeflfkaaGreatDoor
open Go Go.Ab

theorem intL_get (l : List Nat) (j : Nat) : (intL l)[j]? = (l[j]?).map (fun n : Nat => (n : Int)) := by simp [intL]
def idN (t : Table) (i : Nat) : Int := (rowN t i).ID
theorem foldl_app {α β : Type} (f : α → List β) : ∀ (l : List α) (o : List β), l.foldl (fun o x => o ++ f x) o = o ++ l.flatMap f
  | [], o => by simp
  | x :: l, o => by rw [List.foldl_cons, foldl_app f l]; simp
theorem flat_one {α β : Type} (f : α → β) : ∀ l : List α, (l.flatMap fun i => [f i]) = l.map f
  | [] => rfl
  | x :: l => by rw [List.flatMap_cons, flat_one f l]; rfl
theorem rem_l11 (t : Table) (b j : Nat) (d : List Nat) (hd : ∀ i ∈ d, i < t.Rows.length) (hl : d.length ≤ 1000000) (out : List Int) (ho : out.length ≤ 1000000000000) :
    LoopF (approx_Removal_l11 t (b : Int) (j : Int) (intL d)) (out, 0) = some (out ++ if j = b then [] else d.map (idN t)) := by
  have h := LoopF_foldl d (fun (o : List Int) k => (o, k)) (approx_Removal_l11 t (b : Int) (j : Int) (intL d)) (fun o i => o ++ if j = b then [] else [idN t i]) id (fun k o => o.length ≤ out.length + k) (b0 := out) (s0 := (out, 0)) rfl (by simp)
    (fun k o x hx hk hI => by
      have hki : ((k : Int) < ((intL d).length : Int)) := by rw [intL_len]; omega
      have e1 : idx (intL d) (k : Int) = some (x : Int) := by rw [idx_nat, intL_get, hx]; rfl
      have e2 := idx_get (rowN_get (hd x (List.mem_of_getElem? hx)))
      have hw := wrap_nat (show k < 4611686018427387904 by omega)
      have hr : roomB (o.length + 1) 8 = true := room8 (by omega)
      by_cases hj : j = b
      · have hne : ((j : Int) != (b : Int)) = false := by simp [hj]
        simp only [approx_Removal_l11, if_pos hki, e1, Option.bind_some, hne, Bool.false_eq_true, if_false, hw, if_pos hj, List.append_nil]
        exact ⟨trivial, by omega⟩
      · have hne : ((j : Int) != (b : Int)) = true := by simp; omega
        simp only [approx_Removal_l11, if_pos hki, e1, e2, hr, Option.bind_some, hne, if_true, hw, if_neg hj]
        exact ⟨rfl, by simp; omega⟩)
    (fun o _ => by simp [approx_Removal_l11, intL_len])
  rw [h, foldl_app]
  by_cases hj : j = b
  · simp only [if_pos hj, id]
    congr 2
    simp
  · simp only [if_neg hj, id]
    congr 2
    exact flat_one (idN t) d
/-- the rows of the parts that are not the best one -/
def outN (g : List (List Nat)) : List Nat := (List.range g.length).flatMap fun j => if j = bestN g then [] else g.getD j []
theorem map_outN (t : Table) (g : List (List Nat)) : (outN g).map (idN t) = (List.range g.length).flatMap fun j => if j = bestN g then [] else (g.getD j []).map (idN t) := by
  unfold outN
  rw [List.map_flatMap]
  congr 1
  funext j
  split <;> simp
theorem rem_l12 (t : Table) (g : List (List Nat)) (hg : g.length ≤ 1000) (hd : ∀ d ∈ g, (∀ i ∈ d, i < t.Rows.length) ∧ d.length ≤ 1000) (out : List Int) (ho : out.length ≤ 1000000000) :
    LoopF (approx_Removal_l12 t (intLL g) (bestN g : Nat)) (out, 0) = some (out ++ (outN g).map (idN t)) := by
  have h := LoopF_foldl (List.range g.length) (fun (o : List Int) k => (o, k)) (approx_Removal_l12 t (intLL g) (bestN g : Nat)) (fun o j => o ++ if j = bestN g then [] else (g.getD j []).map (idN t)) id (fun k o => o.length ≤ out.length + k * 1000) (b0 := out) (s0 := (out, 0)) rfl (by simp)
    (fun k o x hx hk hI => by
      obtain ⟨rfl, hxl⟩ := range_at hx
      have hki : ((x : Int) < ((intLL g).length : Int)) := by rw [intLL_len]; omega
      have hgx : g[x]? = some (g.getD x []) := by simp [List.getD, List.getElem?_eq_getElem hxl]
      have e1 : idx (intLL g) (x : Int) = some (intL (g.getD x [])) := by rw [idx_nat, intLL_get, hgx]; rfl
      obtain ⟨d1, d2⟩ := hd _ (List.mem_of_getElem? hgx)
      have hw := wrap_nat (show x < 4611686018427387904 by omega)
      refine ⟨?_, ?_⟩
      · simp only [approx_Removal_l12, if_pos hki, e1, Option.bind_some, rem_l11 t (bestN g) x _ d1 (by omega) o (by omega), hw]
      · rw [List.length_append]
        split
        · rename_i e; clear e; simp only [List.length_nil, Nat.add_zero, Nat.succ_mul]; exact Nat.le_trans hI (by omega)
        · rw [List.length_map]; omega)
    (fun o _ => by simp [approx_Removal_l12, intLL_len])
  rw [h, foldl_app, map_outN]; rfl
theorem outN_len (g : List (List Nat)) (hd : ∀ d ∈ g, d.length ≤ 1000) : (outN g).length ≤ g.length * 1000 := by
  unfold outN
  have key : ∀ m, m ≤ g.length → ((List.range m).flatMap fun j => if j = bestN g then [] else g.getD j []).length ≤ m * 1000 := by
    intro m
    induction m with
    | zero => intro _; simp
    | succ m ih =>
      intro hm
      have h1 := ih (by omega)
      have hgx : g[m]? = some (g.getD m []) := by simp [List.getD, List.getElem?_eq_getElem (show m < g.length by omega)]
      have h2 := hd _ (List.mem_of_getElem? hgx)
      rw [List.range_succ, List.flatMap_append, List.length_append]
      simp only [List.flatMap_cons, List.flatMap_nil, List.append_nil]
      by_cases e : m = bestN g
      · simp only [if_pos e, List.length_nil, Nat.add_zero]; clear e; exact Nat.le_trans h1 (by omega)
      · rw [if_neg e]; omega
  exact key _ (Nat.le_refl _)
theorem parts_bd {t : Table} (hn : t.Rows.length ≤ 1000) {s : Nat} (p : Nat) {c : List Nat} (hc : c ∈ clsN t s) : (parts t p c).length ≤ 1000 ∧ ∀ d ∈ parts t p c, (∀ i ∈ d, i < t.Rows.length) ∧ d.length ≤ 1000 := by
  have hcl : c.length ≤ 1000 := by
    have := class_len hc
    rw [List.length_range] at this; omega
  refine ⟨?_, fun d hd => ⟨fun i hi => (cls_self hc (part_of hd hi).1).1, ?_⟩⟩
  · have := classes_len (List UInt8) (fun i => rkey p (rowN t i)) c
    unfold parts; omega
  · have := class_len hd; omega
/-- what the program gathers -/
def outG (t : Table) (s p : Nat) : List Nat := (big (clsN t s)).flatMap fun c => outN (parts t p c)
theorem rem_l13 {t : Table} (hn : t.Rows.length ≤ 1000) (s p : Nat) : LoopF (approx_Removal_l13 t (intG (grpN t s p))) ([], 0) = some ((outG t s p).map (idN t)) := by
  have hbl : (big (clsN t s)).length ≤ 1000 := by
    have h2 := List.length_filter_le (fun c : List Nat => decide (2 ≤ c.length)) (clsN t s)
    have h3 := classes_len (List UInt8) (fun i => rkey s (rowN t i)) (List.range t.Rows.length)
    rw [List.length_range] at h3
    unfold big
    unfold clsN at h2 ⊢
    omega
  have h := LoopF_foldl (big (clsN t s)) (fun (o : List Int) k => (o, k)) (approx_Removal_l13 t (intG (grpN t s p))) (fun o c => o ++ (outN (parts t p c)).map (idN t)) id (fun k o => o.length ≤ k * 1000000) (b0 := []) (s0 := ([], 0)) rfl (by simp)
    (fun k o c hc hk hI => by
      obtain ⟨hcm, hc2⟩ := big_mem.1 (List.mem_of_getElem? hc)
      obtain ⟨b1, b2⟩ := parts_bd hn p hcm
      have hg : (intG (grpN t s p))[k]? = some (intLL (parts t p c)) := by
        rw [intG_get]; unfold grpN; rw [List.getElem?_map, hc]; rfl
      have hki : ((k : Int) < ((intG (grpN t s p)).length : Int)) := by
        rw [intG_len]; unfold grpN; rw [List.length_map]; omega
      have hbest := best_eq (parts t p c) (by omega) (fun d hd => by have := (b2 d hd).2; omega)
      have hw := wrap_nat (show k < 4611686018427387904 by omega)
      have hl := outN_len (parts t p c) (fun d hd => (b2 d hd).2)
      refine ⟨?_, ?_⟩
      · simp only [approx_Removal_l13, if_pos hki, idx_get hg, hbest, Option.bind_some, rem_l12 t (parts t p c) b1 b2 o (by omega), hw]
      · rw [List.length_append, List.length_map]; omega)
    (fun o _ => by
      have : (intG (grpN t s p)).length = (big (clsN t s)).length := by rw [intG_len]; simp [grpN]
      simp [approx_Removal_l13, this])
  rw [h, foldl_app]
  unfold outG
  rw [List.map_flatMap]
  simp
/-! ### the same rows, in order -/
theorem count_sum (a : Nat) (l : List Nat) : l.count a = (l.map fun x => if (x == a) = true then 1 else 0).sum := by
  rw [sum_ite]; rfl
theorem count_flat {α : Type} (a : Nat) (f : α → List Nat) : ∀ l : List α, (l.flatMap f).count a = (l.map fun x => (f x).count a).sum
  | [] => rfl
  | x :: l => by simp [List.count_append, count_flat a f l]
theorem range_map_getD {α β : Type} (g : List α) (z : α) (f : α → β) : ((List.range g.length).map fun j => f (g.getD j z)) = g.map f := by
  apply List.ext_getElem?
  intro j
  rw [List.getElem?_map, List.getElem?_map]
  by_cases h : j < g.length
  · rw [List.getElem?_range h, List.getElem?_eq_getElem h]
    simp [List.getD, List.getElem?_eq_getElem h]
  · rw [List.getElem?_eq_none (by simp; omega), List.getElem?_eq_none (by omega)]; rfl
theorem outN_count {t : Table} {s p : Nat} (F : FinerR t s p) {c : List Nat} (hc : c ∈ clsN t s) (a : Nat) : (outN (parts t p c)).count a = (c.map fun i => if (i == a) = true then (if remB t s p i then 1 else 0) else 0).sum := by
  have hsum := classes_sum (fun i => rkey p (rowN t i)) (fun i => if (i == a) = true then (if remB t s p i then 1 else 0) else 0) c
  rw [← hsum, show classes (fun i => rkey p (rowN t i)) c = parts t p c from rfl]
  unfold outN
  rw [count_flat]
  rw [← range_map_getD (parts t p c) [] (fun d => (d.map fun i => if (i == a) = true then (if remB t s p i then 1 else 0) else 0).sum)]
  congr 1
  apply List.map_congr_left
  intro j hj
  have hjl : j < (parts t p c).length := by simpa using hj
  have hgx : (parts t p c)[j]? = some ((parts t p c).getD j []) := by simp [List.getD, List.getElem?_eq_getElem hjl]
  have hr : ∀ i ∈ (parts t p c).getD j [], remB t s p i = decide (j ≠ bestN (parts t p c)) := fun i hi => rem_iff F hc hgx hi
  by_cases e : j = bestN (parts t p c)
  · rw [if_pos e]
    have : ((parts t p c).getD j []).map (fun i => if (i == a) = true then (if remB t s p i then 1 else 0) else 0) = ((parts t p c).getD j []).map fun _ => 0 := by
      apply List.map_congr_left
      intro i hi
      rw [hr i hi]; simp [e]
    rw [this, sum_const]; simp
  · rw [if_neg e, count_sum]
    congr 1
    apply List.map_congr_left
    intro i hi
    rw [hr i hi]; simp [e]
theorem outG_perm {t : Table} {s p : Nat} (F : FinerR t s p) : (outG t s p).Perm (remL t s p) := by
  rw [List.perm_iff_count]
  intro a
  unfold outG
  rw [count_flat]
  have h1 : (big (clsN t s)).map (fun c => (outN (parts t p c)).count a) = (big (clsN t s)).map fun c => (c.map fun i => if (i == a) = true then (if remB t s p i then 1 else 0) else 0).sum := by
    apply List.map_congr_left
    intro c hc
    exact outN_count F (big_mem.1 hc).1 a
  rw [h1, big_sum (s := s) (fun i => if (i == a) = true then (if remB t s p i then 1 else 0) else 0) (fun i hi h => by
    have := phi_single (m := 3) F hi h
    simp only [phiN] at this
    have h2 : (if remB t s p i then 1 else 0) = 0 := by simpa using this
    rw [h2]; simp)]
  unfold remL
  rw [count_sum]
  have : ∀ l : List Nat, (l.map fun i => if (i == a) = true then (if remB t s p i then 1 else 0) else 0).sum = ((l.filter fun i => remB t s p i).map fun x => if (x == a) = true then 1 else 0).sum := by
    intro l
    induction l with
    | nil => rfl
    | cons x l ih =>
      rw [List.map_cons, List.sum_cons, ih]
      by_cases h : remB t s p x = true
      · simp [h]
      · simp [h]
  exact this _
theorem rows_asc : ∀ (rows : List Row) (n : Nat) (b : Int), rowsCode n b rows = 0 → (∀ r ∈ rows, b < r.ID) ∧ rows.Pairwise fun x y => x.ID < y.ID
  | [], _, _, _ => by simp
  | r :: rows, n, b, h => by
    simp only [rowsCode] at h
    by_cases h1 : r.ID ≤ b
    · rw [if_pos h1] at h; cases h
    · rw [if_neg h1] at h
      by_cases h2 : r.Values.length = n
      · by_cases h3 : r.Values.all valid = true
        · simp only [h2, h3, ne_eq, not_true_eq_false, if_false, if_true, Bool.not_true, Bool.false_eq_true, Bool.true_eq_false] at h
          obtain ⟨p1, p2⟩ := rows_asc rows n _ h
          refine ⟨fun x hx => ?_, List.pairwise_cons.2 ⟨p1, p2⟩⟩
          rcases List.mem_cons.1 hx with rfl | hx
          · omega
          · have := p1 x hx; omega
        · simp [h2, h3] at h
      · simp [h2] at h
theorem idN_asc {t : Table} (G : GT t) {i k : Nat} (h : i < k) (hk : k < t.Rows.length) : idN t i < idN t k := by
  have := (rows_asc _ _ _ G.code).2
  have h2 := List.pairwise_iff_getElem.1 this i k (by omega) hk h
  have e1 : rowN t i = t.Rows[i] := by simp [rowN, List.getD, List.getElem?_eq_getElem (show i < t.Rows.length by omega)]
  have e2 : rowN t k = t.Rows[k] := by simp [rowN, List.getD, List.getElem?_eq_getElem hk]
  unfold idN
  rw [e1, e2]; exact h2
theorem remIDs_sorted {t : Table} (G : GT t) (s p : Nat) : (remIDs t s p).Pairwise (· < ·) := by
  unfold remIDs
  rw [List.pairwise_map]
  have h : (remL t s p).Pairwise (· < ·) := List.Pairwise.sublist List.filter_sublist List.pairwise_lt_range
  have h2 : ∀ i ∈ remL t s p, i < t.Rows.length := fun i hi => by
    have := (List.mem_filter.1 hi).1
    simpa using this
  exact List.Pairwise.imp_of_mem (fun {a b} ha hb hab => idN_asc G hab (h2 b hb)) h
theorem sorted_unique {l l' : List Int} (hp : l.Perm l') (h1 : l.Pairwise (· ≤ ·)) (h2 : l'.Pairwise (· < ·)) : l = l' :=
  List.Perm.eq_of_pairwise (le := (· ≤ ·)) (fun a b _ _ h1 h2 => Int.le_antisymm h1 h2) h1 (h2.imp fun {a b} h => Int.le_of_lt h) hp
theorem Removal_eq (t : Table) (ht : okTable t) (f : FD) (h : okFD f) : approx_Removal t f = some (remR t f) := by
  unfold remR
  by_cases he : fdErr t f = 0
  · obtain ⟨h0, hi⟩ := fdErr_zero he
    have G := gt_of ht h0
    obtain ⟨s, r, rfl, hs, hr⟩ := fd_of h
    obtain ⟨hs', hr'⟩ := lt_in hi
    have hn := G.rows
    have hperm : ((outG t s (s ||| r)).map (idN t)).Perm (remIDs t s (s ||| r)) := (outG_perm (finerR_or G hs' hr')).map _
    have hlen : (remIDs t s (s ||| r)).length ≤ 1000 := by
      unfold remIDs remL
      have := List.length_filter_le (fun i => remB t s (s ||| r) i) (List.range t.Rows.length)
      rw [List.length_range] at this
      rw [List.length_map]; omega
    have hs : srtIF ((outG t s (s ||| r)).map (idN t)) = some (remIDs t s (s ||| r)) := by
      unfold srtIF
      rw [if_pos (by rw [hperm.length_eq]; omega)]
      exact congrArg some (sorted_unique ((srtI_perm _).trans hperm) (srtI_sorted _) (remIDs_sorted G _ _))
    simp only [approx_Removal, known_eq t (tabOk_of ht) _ h, Option.bind_some, he, bne_self_eq_false, Bool.false_eq_true, if_false, if_true, Int.toNat_natCast, groups_fd G hs' hr', rem_l13 hn, hs]
  · have hne : (fdErr t f != 0) = true := by simp [he]
    simp only [approx_Removal, known_eq t (tabOk_of ht) _ h, Option.bind_some, hne, if_true, if_neg he]
end Go.Proofs.YtjcdclpfeflfkaaGreatDoor
/- Approx: the chapter's example. -/
set_option linter.unusedVariables false
set_option linter.unusedSimpArgs false
namespace Go.Proofs.YtjcdclpfeflfkaaGreatDoor
open Go Go.Ab

def ex32 : Table := ⟨[114], [[97], [98]], [⟨1, [⟨1, 1, []⟩, ⟨1, 1, []⟩]⟩, ⟨2, [⟨1, 1, []⟩, ⟨1, 1, []⟩]⟩, ⟨3, [⟨1, 1, []⟩, ⟨1, 2, []⟩]⟩, ⟨4, [⟨1, 2, []⟩, ⟨2, 0, [98]⟩]⟩]⟩
theorem v32a : errA ex32 ⟨1, 2⟩ 1 = (⟨1, 4⟩, 0) := by decide +kernel
theorem v32b : errA ex32 ⟨1, 2⟩ 2 = (⟨3, 4⟩, 0) := by decide +kernel
theorem v32c : errA ex32 ⟨1, 2⟩ 3 = (⟨1, 4⟩, 0) := by decide +kernel
theorem v32d : remR ex32 ⟨1, 2⟩ = ([3], 0) := by decide +kernel
theorem ofV_5 : ofV 5 = ⟨2, 0, [98]⟩ := by simp [ofV, drossref01_Of]
theorem ok_ex32 : okTable ex32 := by
  refine ⟨by show okS _; unfold okS; decide, ⟨by decide, ?_⟩, ⟨by decide, ?_⟩⟩
  · intro x hx
    have : x = [97] ∨ x = [98] := by simpa [ex32] using hx
    rcases this with rfl | rfl <;> (unfold okS; decide)
  · intro x hx
    have hx' : x = ⟨1, [⟨1, 1, []⟩, ⟨1, 1, []⟩]⟩ ∨ x = ⟨2, [⟨1, 1, []⟩, ⟨1, 1, []⟩]⟩ ∨ x = ⟨3, [⟨1, 1, []⟩, ⟨1, 2, []⟩]⟩ ∨ x = ⟨4, [⟨1, 2, []⟩, ⟨2, 0, [98]⟩]⟩ := by simpa [ex32] using hx
    have hv : ∀ v : Value, v = ⟨1, 1, []⟩ ∨ v = ⟨1, 2, []⟩ ∨ v = ⟨2, 0, [98]⟩ → okValue v := by
      rintro v (rfl | rfl | rfl)
      · exact ⟨by show Lit.wf _ = true; decide, by show Lit.wf _ = true; decide, by show okS _; unfold okS; decide⟩
      · exact ⟨by show Lit.wf _ = true; decide, by show Lit.wf _ = true; decide, by show okS _; unfold okS; decide⟩
      · exact ⟨by show Lit.wf _ = true; decide, by show Lit.wf _ = true; decide, by show okS _; unfold okS; decide⟩
    rcases hx' with rfl | rfl | rfl | rfl
    all_goals
      refine ⟨by show Lit.wf _ = true; decide, ⟨by decide, fun v h => hv v ?_⟩⟩
      simp only [List.mem_cons, List.not_mem_nil, or_false] at h
      rcases h with rfl | rfl <;> simp
theorem example32_eq : drosslaw32_example = some ex32 := by
  have h := LoopF_foldl (List.range 4) (fun (o : List Row) i => (o, i)) (drosslaw32_example_l1 [[1, 1], [1, 1], [1, 2], [2, 5]]) (fun o (k : Nat) => o ++ [⟨(k : Int) + 1, ((([[1, 1], [1, 1], [1, 2], [2, 5]] : List (List Int)).getD k []).map ofV)⟩]) id (fun k o => o.length = k) (b0 := []) (s0 := ([], 0)) rfl rfl
    (fun k o z hz hk hI => by
      obtain ⟨rfl, hk3⟩ := range_at hz
      refine ⟨?_, by simp [hI]⟩
      have hi : ([[1, 1], [1, 1], [1, 2], [2, 5]] : List (List Int))[z]? = some (([[1, 1], [1, 1], [1, 2], [2, 5]] : List (List Int)).getD z []) := by
        have : z < ([[1, 1], [1, 1], [1, 2], [2, 5]] : List (List Int)).length := hk3
        simp [List.getD, List.getElem?_eq_getElem this]
      have hl : (([[1, 1], [1, 1], [1, 2], [2, 5]] : List (List Int)).getD z []).length ≤ 1048576 := by
        rcases z with _ | _ | _ | _ | z
        · simp
        · simp
        · simp
        · simp
        · omega
      have hw : IntKind.i64.wrap ((z : Int) + 1) = (z : Int) + 1 := by rw [wrap_i64 (by omega) (by omega)]
      simp only [drosslaw32_example_l1, if_pos (show (z : Int) < 4 by omega), idx_get hi, Option.bind_some, List01_eq _ hl, room_le (show o.length + 1 ≤ 1073741824 by omega) (show 32 ≤ 65536 by omega), if_true, hw]
      rfl)
    (fun o _ => by simp [drosslaw32_example_l1])
  simp only [drosslaw32_example, Option.bind_some, h, id]
  simp only [ex32, List.range, List.range.loop, List.foldl_cons, List.foldl_nil, List.getD, List.getElem?_cons_zero, List.getElem?_cons_succ, Option.getD_some, List.map_cons, List.map_nil, ofV_1, ofV_2, ofV_5, List.nil_append, List.cons_append]
  rfl
theorem ok_f12 : okFD ⟨1, 2⟩ := ⟨by show Lit.wf _ = true; decide, by show Lit.wf _ = true; decide⟩
theorem awake32 : drosslaw32_awake = some true := by
  have h1 : ratioN 1 4 = ⟨1, 4⟩ := by decide +kernel
  have h3 : ratioN 3 4 = ⟨3, 4⟩ := by decide +kernel
  have r1 : drossref04_Of 1 4 = some ⟨1, 4⟩ := by rw [← h1]; exact ref_Of_nat 1 4 (by omega) (by omega) (by omega)
  have r3 : drossref04_Of 3 4 = some ⟨3, 4⟩ := by rw [← h3]; exact ref_Of_nat 3 4 (by omega) (by omega) (by omega)
  have hid := IDs_eq [3] [3] (by simp)
  simp only [drosslaw32_awake, example32_eq, Option.bind_some, Error_eq ex32 ok_ex32 _ ok_f12, Removal_eq ex32 ok_ex32 _ ok_f12, v32a, v32b, v32c, v32d, r1, r3, beq_self_eq_true, Bool.and_self, if_true, hid, decide_true]
end Go.Proofs.YtjcdclpfeflfkaaGreatDoor
/- Tables of recipes; kept rows. -/
set_option linter.unusedVariables false
set_option linter.unusedSimpArgs false
namespace Go.Proofs.YtjcdclpfeflfkaaGreatDoor
open Go Go.Ab

def vals12 : List Value := [⟨1, 0, []⟩, ⟨1, 1, []⟩, ⟨1, 2, []⟩, ⟨0, 0, []⟩, ⟨2, 0, [97]⟩, ⟨2, 0, [98]⟩, ⟨2, 0, []⟩, ⟨3, 1, []⟩, ⟨1, -1, []⟩, ⟨2, 0, [97, 98]⟩, ⟨3, 2, []⟩, ⟨1, 7, []⟩]
theorem Of_list (c : Int) : ∃ v, drossref01_Of c = some v ∧ v ∈ vals12 := by
  unfold drossref01_Of
  by_cases h0 : (Int.tmod c 12 == 0) = true
  · rw [if_pos h0]; exact ⟨_, rfl, by decide⟩
  rw [if_neg h0]
  by_cases h1 : (Int.tmod c 12 == 1) = true
  · rw [if_pos h1]; exact ⟨_, rfl, by decide⟩
  rw [if_neg h1]
  by_cases h2 : (Int.tmod c 12 == 2) = true
  · rw [if_pos h2]; exact ⟨_, rfl, by decide⟩
  rw [if_neg h2]
  by_cases h3 : (Int.tmod c 12 == 3) = true
  · rw [if_pos h3]; exact ⟨_, rfl, by decide⟩
  rw [if_neg h3]
  by_cases h4 : (Int.tmod c 12 == 4) = true
  · rw [if_pos h4]; exact ⟨_, rfl, by decide⟩
  rw [if_neg h4]
  by_cases h5 : (Int.tmod c 12 == 5) = true
  · rw [if_pos h5]; exact ⟨_, rfl, by decide⟩
  rw [if_neg h5]
  by_cases h6 : (Int.tmod c 12 == 6) = true
  · rw [if_pos h6]; exact ⟨_, rfl, by decide⟩
  rw [if_neg h6]
  by_cases h7 : (Int.tmod c 12 == 7) = true
  · rw [if_pos h7]; exact ⟨_, rfl, by decide⟩
  rw [if_neg h7]
  by_cases h8 : (Int.tmod c 12 == 8) = true
  · rw [if_pos h8]; exact ⟨_, rfl, by decide⟩
  rw [if_neg h8]
  by_cases h9 : (Int.tmod c 12 == 9) = true
  · rw [if_pos h9]; exact ⟨_, rfl, by decide⟩
  rw [if_neg h9]
  by_cases h10 : (Int.tmod c 12 == 10) = true
  · rw [if_pos h10]; exact ⟨_, rfl, by decide⟩
  rw [if_neg h10]
  exact ⟨_, rfl, by decide⟩
theorem ofV_ok (c : Int) : okValue (ofV c) := by
  obtain ⟨v, h1, h2⟩ := Of_list c
  have : ofV c = v := by unfold ofV; rw [h1]; rfl
  rw [this]
  have all : ∀ w ∈ vals12, ((Lit.int .i64 w.Kind).wf && (Lit.int .i64 w.Num).wf && decide (w.Str.length ≤ 1048576)) = true := by decide
  have := all v h2
  simp only [Bool.and_eq_true, decide_eq_true_eq] at this
  exact ⟨this.1.1, this.1.2, this.2⟩
theorem wf_i64 {n : Int} (h1 : -9223372036854775808 ≤ n) (h2 : n ≤ 9223372036854775807) : okI .i64 n := by
  show (decide (IntKind.min .i64 ≤ n) && decide (n ≤ IntKind.max .i64)) = true
  have e1 : IntKind.min .i64 = -9223372036854775808 := by decide
  have e2 : IntKind.max .i64 = 9223372036854775807 := by decide
  rw [e1, e2, Bool.and_eq_true, decide_eq_true_eq, decide_eq_true_eq]
  exact ⟨h1, h2⟩
theorem wide_ok (x : Drossref03_Recipe) (n : Nat) (hn : n ≤ 8) (hr : x.Rows.length ≤ 8) : okTable (wide x n) := by
  refine ⟨by show okS [114]; unfold okS; decide, ⟨?_, fun s hs => ?_⟩, ⟨?_, fun r h => ?_⟩⟩
  · simp only [wide, List.length_take]; omega
  · have hm : s ∈ wnames := List.mem_of_mem_take hs
    have : ∀ w ∈ wnames, w.length ≤ 1048576 := by decide
    exact this s hm
  · simp only [wide, List.length_map, List.length_range]; omega
  · obtain ⟨i, hi, rfl⟩ := List.mem_map.1 h
    have hi' := List.mem_range.1 hi
    have hs : wstep x ≤ 3 := by unfold wstep; omega
    have hm : i * wstep x ≤ 8 * 3 := Nat.mul_le_mul (by omega) hs
    refine ⟨wf_i64 (by simp only [wrow]; omega) (by simp only [wrow]; omega), ?_, fun v hv => ?_⟩
    · simp only [wrow, List.length_map, List.length_range]; omega
    · obtain ⟨k, _, rfl⟩ := List.mem_map.1 hv
      exact ofV_ok _
theorem Good.gt {t : Table} (G : Good t) (h : okTable t) : GT t := gt_of h G.err
/-! ### some rows of a table -/
def subT (t : Table) (sel : List Nat) : Table := ⟨t.Name, t.Attrs, sel.map (rowN t)⟩
def satL (t : Table) (s r : Nat) (sel : List Nat) : Bool := allFrom (fun i x => (sel.take i).all fun y => !(agN t s x y) || agN t r x y) 0 sel
theorem Sat_eq {t : Table} (G : GT t) {s r : Nat} (hs : s < 2 ^ t.Attrs.length) (hr : r < 2 ^ t.Attrs.length) (sel : List Nat) (hsel : ∀ i ∈ sel, i < t.Rows.length) (hl : sel.length ≤ 1000000) :
    drossref08_Satisfies (subT t sel) ⟨(s : Int), (r : Int)⟩ = some (satL t s r sel) := by
  have hrow : ∀ (k : Nat) (y : Nat), sel[k]? = some y → (subT t sel).Rows[k]? = some (rowN t y) := by
    intro k y h
    simp [subT, h]
  have hlen : (subT t sel).Rows.length = sel.length := by simp [subT]
  have hin : ∀ (i x : Nat), sel[i]? = some x → i < sel.length → LoopF (drossref08_Satisfies_l3 (subT t sel) ⟨(s : Int), (r : Int)⟩ (i : Int)) 0 = some (if ((sel.take i).all fun y => !(agN t s x y) || agN t r x y) = true then .inl () else .inr false) := by
    intro i x hx hi
    have htl : (sel.take i).length = i := by rw [List.length_take]; omega
    refine LoopF_all (sel.take i) _ _ _ (fun k y hy hk hp => ?_) (fun k y hy hp => ?_) (by rw [htl]; simp [drossref08_Satisfies_l3])
    · have hki : k < i := by omega
      have hy' : sel[k]? = some y := by rw [List.getElem?_take, if_pos hki] at hy; exact hy
      have hw := wrap_nat (show k < 4611686018427387904 by omega)
      have a1 := Agree_agN G hs (hsel x (List.mem_of_getElem? hx)) (hsel y (List.mem_of_getElem? hy'))
      have a2 := Agree_agN G hr (hsel x (List.mem_of_getElem? hx)) (hsel y (List.mem_of_getElem? hy'))
      simp only [drossref08_Satisfies_l3, if_pos (show (k : Int) < (i : Int) by omega), idx_get (hrow i x hx), idx_get (hrow k y hy'), Option.bind_some, a1, a2, hw]
      by_cases h1 : agN t s x y = true
      · have h2 : agN t r x y = true := by simpa [h1] using hp
        simp only [h1, h2, if_true]
      · simp only [h1, if_false, Bool.false_eq_true]
    · have hki : k < i := by have := lt_of_get hy; omega
      have hy' : sel[k]? = some y := by rw [List.getElem?_take, if_pos hki] at hy; exact hy
      have a1 := Agree_agN G hs (hsel x (List.mem_of_getElem? hx)) (hsel y (List.mem_of_getElem? hy'))
      have a2 := Agree_agN G hr (hsel x (List.mem_of_getElem? hx)) (hsel y (List.mem_of_getElem? hy'))
      have h12 : agN t s x y = true ∧ agN t r x y = false := by simpa using hp
      simp only [drossref08_Satisfies_l3, if_pos (show (k : Int) < (i : Int) by omega), idx_get (hrow i x hx), idx_get (hrow k y hy'), Option.bind_some, a1, a2, h12.1, h12.2, if_true, Bool.false_eq_true, if_false]
  have hout := LoopF_allk sel (drossref08_Satisfies_l4 (subT t sel) ⟨(s : Int), (r : Int)⟩) (fun i x => (sel.take i).all fun y => !(agN t s x y) || agN t r x y) false
    (fun i x hx hi hp => by
      have hw := wrap_nat (show i < 4611686018427387904 by omega)
      simp only [drossref08_Satisfies_l4, hlen, if_pos (show (i : Int) < (sel.length : Int) by omega), hin i x hx hi, hp, if_true, Option.bind_some, hw])
    (fun i x hx hp => by
      have hi := lt_of_get hx
      simp only [drossref08_Satisfies_l4, hlen, if_pos (show (i : Int) < (sel.length : Int) by omega), hin i x hx hi, hp, Bool.false_eq_true, if_false, Option.bind_some])
    (by simp [drossref08_Satisfies_l4, hlen]) sel 0 rfl (Nat.zero_le _)
  simp only [Int.natCast_zero] at hout
  simp only [drossref08_Satisfies, hout, Option.bind_some]
  unfold satL
  cases allFrom (fun i x => (sel.take i).all fun y => !(agN t s x y) || agN t r x y) 0 sel <;> rfl
theorem satL_iff (t : Table) (s r : Nat) (sel : List Nat) : satL t s r sel = true ↔ ∀ x ∈ sel, ∀ y ∈ sel, agN t s x y = true → agN t r x y = true := by
  unfold satL
  constructor
  · intro h x hx y hy ha
    obtain ⟨i, hi⟩ := List.mem_iff_getElem?.1 hx
    obtain ⟨k, hk⟩ := List.mem_iff_getElem?.1 hy
    have key : ∀ (i k x y : Nat), sel[i]? = some x → sel[k]? = some y → k < i → agN t s x y = true → agN t r x y = true := by
      intro i k x y hi hk hki ha
      have := allFrom_get h hi
      rw [Nat.zero_add, List.all_eq_true] at this
      have hy : y ∈ sel.take i := by
        rw [List.mem_iff_getElem?]
        exact ⟨k, by rw [List.getElem?_take, if_pos hki]; exact hk⟩
      have := this y hy
      simpa [ha] using this
    rcases Nat.lt_trichotomy k i with h1 | h1 | h1
    · exact key i k x y hi hk h1 ha
    · subst h1
      rw [hi] at hk
      obtain rfl := Option.some.inj hk
      exact agN_refl t r x
    · rw [agN_comm]
      exact key k i y x hk hi h1 (by rw [agN_comm]; exact ha)
  · intro h
    have : ∀ (l : List Nat) (k : Nat), (∀ x ∈ l, x ∈ sel) → allFrom (fun i x => (sel.take i).all fun y => !(agN t s x y) || agN t r x y) k l = true := by
      intro l
      induction l with
      | nil => intro k _; rfl
      | cons x l ih =>
        intro k hx
        simp only [allFrom, Bool.and_eq_true]
        refine ⟨?_, ih (k + 1) fun y hy => hx y (by simp [hy])⟩
        rw [List.all_eq_true]
        intro y hy
        have := h x (hx x (by simp)) y (List.mem_of_mem_take hy)
        by_cases ha : agN t s x y = true
        · simp [ha, this ha]
        · simp [ha]
    exact this sel 0 fun x hx => hx
end Go.Proofs.YtjcdclpfeflfkaaGreatDoor
/- The removal takes the least number of rows. -/
set_option linter.unusedVariables false
set_option linter.unusedSimpArgs false
namespace Go.Proofs.YtjcdclpfeflfkaaGreatDoor
open Go Go.Ab

theorem bestRow_const {t : Table} {s p i k : Nat} (hi : i < t.Rows.length) (hk : k < t.Rows.length) (h : agN t s i k = true) : bestRow t s p i = bestRow t s p k := by
  obtain ⟨a1, a2, a3, a4⟩ := bestRow_spec (s := s) (p := p) hi
  obtain ⟨b1, b2, b3, b4⟩ := bestRow_spec (s := s) (p := p) hk
  generalize bestRow t s p i = a at *
  generalize bestRow t s p k = b at *
  have hkb : agN t s i b = true := agN_trans h b2
  have hka : agN t s k a = true := agN_trans (agN_symm h) a2
  rcases Nat.lt_trichotomy a b with h1 | h1 | h1
  · have := b4 a h1 hka
    have := a3 b b1 hkb; omega
  · exact h1
  · have := a4 b h1 hkb
    have := b3 a a1 hka; omega
theorem stay_ok {t : Table} (G : GT t) {s r : Nat} (hs : s < 2 ^ t.Attrs.length) (hr : r < 2 ^ t.Attrs.length) : satL t s r ((List.range t.Rows.length).filter fun i => !remB t s (s ||| r) i) = true := by
  rw [satL_iff]
  intro x hx y hy ha
  obtain ⟨hx1, hx2⟩ := List.mem_filter.1 hx
  obtain ⟨hy1, hy2⟩ := List.mem_filter.1 hy
  have hxn := List.mem_range.1 hx1
  have hyn := List.mem_range.1 hy1
  unfold remB at hx2 hy2
  rw [Bool.not_not] at hx2 hy2
  rw [bestRow_const hxn hyn ha] at hx2
  have h := agN_trans (agN_symm hx2) hy2
  rw [agN_or G hs hr hxn hyn, Bool.and_eq_true] at h
  exact h.2
end Go.Proofs.YtjcdclpfeflfkaaGreatDoor
/- Fractions compared; the errors of a dependency that holds. -/
set_option linter.unusedVariables false
set_option linter.unusedSimpArgs false
namespace Go.Proofs.YtjcdclpfeflfkaaGreatDoor
open Go Go.Ab

theorem fdiv32 {x : Nat} (h : x < 4294967296) : Int.fdiv (x : Int) (2 ^ (min 32 64)) = 0 := by
  rw [show min 32 64 = 32 from rfl, fdiv_pow, Nat.div_eq_of_lt h]; rfl
theorem mask32 {x : Nat} (h : x < 4294967296) : (BitVec.ofInt 64 (x : Int) &&& (4294967295#64)).toNat = x := by
  rw [BitVec.toNat_and, BitVec.toNat_ofInt, show (4294967295#64).toNat = 2 ^ 32 - 1 from rfl, Nat.and_two_pow_sub_one_eq_mod]
  have : ((x : Int) % ((2 ^ 64 : Nat) : Int)).toNat = x := by
    rw [show ((2 ^ 64 : Nat) : Int) = 18446744073709551616 by decide]
    omega
  rw [this, show (2 : Nat) ^ 32 = 4294967296 from rfl]
  omega
theorem mul64_small {x y : Nat} (hx : x < 65536) (hy : y < 65536) : bits_Mul64 (x : Int) (y : Int) = some (0, ((x * y : Nat) : Int)) := by
  have hxy : x * y < 4294967296 := Nat.lt_of_le_of_lt (Nat.mul_le_mul (show x ≤ 65535 by omega) (show y ≤ 65535 by omega)) (by omega)
  have h1 := fdiv32 (show x < 4294967296 by omega)
  have h2 := fdiv32 (show y < 4294967296 by omega)
  have m1 := mask32 (show x < 4294967296 by omega)
  have m2 := mask32 (show y < 4294967296 by omega)
  have w1 : IntKind.u64.wrap (x : Int) = (x : Int) := wrap_u64 (by omega) (by omega)
  have w2 : IntKind.u64.wrap (y : Int) = (y : Int) := wrap_u64 (by omega) (by omega)
  have e : (x : Int) * (y : Int) = ((x * y : Nat) : Int) := by simp
  generalize hq : x * y = q at *
  have w3 : IntKind.u64.wrap ((q : Nat) : Int) = (q : Int) := wrap_u64 (by omega) (by omega)
  have w0 : IntKind.u64.wrap 0 = 0 := by decide
  have h3 := fdiv32 hxy
  have h0 : Int.fdiv 0 (2 ^ (min 32 64)) = 0 := by rw [Int.zero_fdiv]
  have m0 : (BitVec.ofInt 64 0 &&& (4294967295#64)).toNat = 0 := by decide
  simp only [bits_Mul64, h1, h2, m1, m2, w1, w2, e, w3, h3, Int.zero_mul, Int.mul_zero, Int.add_zero, w0, h0, m0, Int.natCast_zero]
theorem size_nat {m : Nat} (h : m < 4611686018427387904) : drossref04_size (m : Int) = some ⟨0, (m : Int)⟩ := by
  simp only [drossref04_size]
  rw [if_neg (by omega), wrap_u64 (by omega) (by omega)]
theorem num_zero {n d : Nat} (hd : 0 < d) : ((ratioN n d).Num == 0) = decide (n = 0) := by
  have hg : 0 < Nat.gcd n d := Nat.gcd_pos_of_pos_right _ hd
  unfold ratioN
  by_cases h : n = 0
  · subst h; simp
  · have : 0 < n / Nat.gcd n d := Nat.div_pos (Nat.le_of_dvd (by omega) (Nat.gcd_dvd_left n d)) hg
    simp only [h, decide_false]
    generalize n / Nat.gcd n d = z at *
    rw [beq_eq_false_iff_ne]; omega

/-- the denominator -/
def eD (t : Table) (m : Nat) : Nat := if t.Rows.length = 0 then 1 else if m = 1 then t.Rows.length * t.Rows.length else t.Rows.length
theorem eD_pos (t : Table) (m : Nat) : 0 < eD t m := by
  unfold eD
  split
  · omega
  · split
    · exact Nat.mul_pos (by omega) (by omega)
    · omega
theorem eD_le {t : Table} (hn : t.Rows.length ≤ 8) (m : Nat) : eD t m < 65536 := by
  have : t.Rows.length * t.Rows.length ≤ 8 * 8 := Nat.mul_le_mul hn hn
  unfold eD
  split
  · omega
  · split <;> omega
theorem errN_le {t : Table} (hn : t.Rows.length ≤ 8) (s p m : Nat) : errN t s p m < 65536 := by
  have h1 := err_le t s p m
  have : t.Rows.length * t.Rows.length ≤ 8 * 8 := Nat.mul_le_mul hn hn
  omega
theorem errR_ratio (t : Table) (s p m : Nat) : errR t s p m = ratioN (errN t s p m) (eD t m) := by
  unfold errR eD
  by_cases h : t.Rows.length = 0
  · rw [if_pos h, if_pos h]
    have : errN t s p m = 0 := by have := err_le t s p m; rw [h] at this; omega
    rw [this]; decide +kernel
  · rw [if_neg h, if_neg h]
theorem sum_zero {l : List Nat} (f : Nat → Nat) : (l.map f).sum = 0 ↔ ∀ x ∈ l, f x = 0 := by
  induction l with
  | nil => simp
  | cons x l ih => simp [ih]
theorem nviol_zero {t : Table} {s p i : Nat} : nviol t s p i = 0 ↔ ∀ k, k < t.Rows.length → agN t s k i = true → agN t p k i = true := by
  unfold nviol
  rw [List.countP_eq_zero]
  constructor
  · intro h k hk ha
    have := h k (List.mem_range.2 hk)
    simpa [ha] using this
  · intro h k hk
    have := h k (List.mem_range.1 hk)
    cases h1 : agN t s k i
    · simp
    · simp [this h1]
theorem sat_iff0 {t : Table} (G : GT t) {s r : Nat} (hs : s < 2 ^ t.Attrs.length) (hr : r < 2 ^ t.Attrs.length) : satL t s r (List.range t.Rows.length) = true ↔ ∀ i, i < t.Rows.length → nviol t s (s ||| r) i = 0 := by
  rw [satL_iff]
  constructor
  · intro h i hi
    rw [nviol_zero]
    intro k hk ha
    rw [agN_or G hs hr hk hi, ha, h k (List.mem_range.2 hk) i (List.mem_range.2 hi) ha]; rfl
  · intro h x hx y hy ha
    have hx' := List.mem_range.1 hx
    have hy' := List.mem_range.1 hy
    have := nviol_zero.1 (h y hy') x hx' ha
    rw [agN_or G hs hr hx' hy', Bool.and_eq_true] at this
    exact this.2
theorem rem_viol {t : Table} (G : GT t) {s r : Nat} (hs : s < 2 ^ t.Attrs.length) (hr : r < 2 ^ t.Attrs.length) {i : Nat} (hi : i < t.Rows.length) (h : nviol t s (s ||| r) i = 0) : remB t s (s ||| r) i = false := by
  obtain ⟨b1, b2, _, _⟩ := bestRow_spec (s := s) (p := s ||| r) hi
  have := nviol_zero.1 h _ b1 (agN_symm b2)
  unfold remB
  rw [this]; rfl
theorem err_zero {t : Table} (G : GT t) {s r : Nat} (hs : s < 2 ^ t.Attrs.length) (hr : r < 2 ^ t.Attrs.length) {m : Nat} (hm : m = 1 ∨ m = 2 ∨ m = 3) : errN t s (s ||| r) m = 0 ↔ satL t s r (List.range t.Rows.length) = true := by
  rw [sat_iff0 G hs hr]
  unfold errN
  rw [sum_zero]
  constructor
  · intro h i hi
    rcases hm with rfl | rfl | rfl
    · have := h i (List.mem_range.2 hi); simpa [phiN] using this
    · have := h i (List.mem_range.2 hi)
      simp [phiN] at this
      omega
    · have hall : ((List.range t.Rows.length).filter fun i => !remB t s (s ||| r) i) = List.range t.Rows.length := by
        rw [List.filter_eq_self]
        intro k hk
        have := h k hk
        simp [phiN] at this
        simp [this]
      have hs' := stay_ok G hs hr
      rw [hall, sat_iff0 G hs hr] at hs'
      exact hs' i hi
  · intro h i hi
    have hi' := List.mem_range.1 hi
    rcases hm with rfl | rfl | rfl
    · simp [phiN, h i hi']
    · simp [phiN, h i hi']
    · simp [phiN, rem_viol G hs hr hi' (h i hi')]
theorem subT_all (t : Table) : subT t (List.range t.Rows.length) = t := by
  unfold subT
  have : (List.range t.Rows.length).map (rowN t) = t.Rows := by
    apply List.ext_getElem?
    intro j
    rw [List.getElem?_map]
    by_cases h : j < t.Rows.length
    · rw [List.getElem?_range h, rowN_get h]; rfl
    · rw [List.getElem?_eq_none (by simp; omega), List.getElem?_eq_none (by omega)]; rfl
  rw [this]
end Go.Proofs.YtjcdclpfeflfkaaGreatDoor
/- Comparison of fractions: both layers alike; sorting by insertion, stably. -/
set_option linter.unusedVariables false
set_option linter.unusedSimpArgs false
namespace Go.Ab
open Go
/-- insertion into a list that is kept in reverse -/
def insV {α : Type} (lt : α → α → Bool) (x : α) : List α → List α
  | [] => [x]
  | y :: p => if lt x y then y :: insV lt x p else x :: y :: p
theorem insV_mem {α : Type} (lt : α → α → Bool) (x : α) : ∀ (p : List α) (z : α), z ∈ insV lt x p ↔ z = x ∨ z ∈ p
  | [], z => by simp [insV]
  | y :: p, z => by
    simp only [insV]
    split
    · rw [List.mem_cons, insV_mem lt x p z, List.mem_cons]
      constructor
      · rintro (h | h | h)
        · exact .inr (.inl h)
        · exact .inl h
        · exact .inr (.inr h)
      · rintro (h | h | h)
        · exact .inr (.inl h)
        · exact .inl h
        · exact .inr (.inr h)
    · rw [List.mem_cons]
theorem insV_sorted {α : Type} (lt : α → α → Bool) (asym : ∀ x y, lt x y = true → lt y x = false) (ntr : ∀ x y z, lt x y = false → lt y z = false → lt x z = false) (x : α) : ∀ p : List α, p.Pairwise (fun a b => lt a b = false) → (insV lt x p).Pairwise (fun a b => lt a b = false)
  | [], _ => by simp [insV]
  | y :: p, h => by
    obtain ⟨h1, h2⟩ := List.pairwise_cons.1 h
    simp only [insV]
    by_cases hc : lt x y = true
    · rw [if_pos hc]
      refine List.pairwise_cons.2 ⟨fun z hz => ?_, insV_sorted lt asym ntr x p h2⟩
      rcases (insV_mem lt x p z).1 hz with rfl | hz
      · exact asym _ _ hc
      · exact h1 z hz
    · rw [if_neg hc]
      have hc' : lt x y = false := by simpa using hc
      refine List.pairwise_cons.2 ⟨fun z hz => ?_, h⟩
      rcases List.mem_cons.1 hz with rfl | hz
      · exact hc'
      · exact ntr _ _ _ hc' (h1 z hz)
/-- the loop that inserts and stops -/
theorem insV_loop {α : Type} (lt : α → α → Bool) (ok : α → Prop) (N : Nat) (B : List α × Int → Option (LS (List α × Int) (List α)))
    (hB : ∀ (p : List α) (y x : α) (suf : List α), p.length + suf.length + 2 ≤ N → (∀ z ∈ p, ok z) → ok y → ok x → B (p.reverse ++ y :: x :: suf, ((p.length + 1 : Nat) : Int)) = if lt x y = true then some (.next (p.reverse ++ x :: y :: suf, (p.length : Int))) else some (.done (p.reverse ++ y :: x :: suf)))
    (hB0 : ∀ data, B (data, 0) = some (.done data)) :
    ∀ (p : List α) (x : α) (suf : List α), p.length + suf.length + 1 ≤ N → (∀ z ∈ p, ok z) → ok x → LoopF B (p.reverse ++ x :: suf, (p.length : Int)) = some ((insV lt x p).reverse ++ suf)
  | [], x, suf, _, _, _ => by
    rw [show (([] : List α).length : Int) = 0 from rfl, Loop_done (hB0 _)]; rfl
  | y :: p, x, suf, hn, hp, hx => by
    have e : (y :: p).reverse ++ x :: suf = p.reverse ++ y :: x :: suf := by simp
    rw [e, show (((y :: p).length : Nat) : Int) = ((p.length + 1 : Nat) : Int) from rfl]
    have hb := hB p y x suf (by simp at hn; omega) (fun z hz => hp z (by simp [hz])) (hp y (by simp)) hx
    by_cases hc : lt x y = true
    · rw [if_pos hc] at hb
      rw [Loop_next hb, insV_loop lt ok N B hB hB0 p x (y :: suf) (by simp at hn ⊢; omega) (fun z hz => hp z (by simp [hz])) hx]
      simp [insV, hc]
    · rw [if_neg hc] at hb
      rw [Loop_done hb]
      simp [insV, hc]
end Go.Ab
namespace Go.Proofs.YtjcdclpfeflfkaaGreatDoor
open Go Go.Ab
def absU (n : Int) : Int := if n < 0 then IntKind.u64.wrap (0 - IntKind.u64.wrap n) else IntKind.u64.wrap n
theorem abs_U (n : Int) : ratio_abs n = some (absU n) := by unfold ratio_abs absU; split <;> rfl
theorem size_U (n : Int) : drossref04_size n = some ⟨0, absU n⟩ := by unfold drossref04_size absU; split <;> rfl
theorem Cmp_same (a b : Ratio) : ratio_Cmp a b = drossref04_Cmp a b := by
  have hm : ∀ x y, ∃ h l, bits_Mul64 x y = some (h, l) := fun x y => ⟨_, _, rfl⟩
  obtain ⟨h1, l1, m1⟩ := hm (absU a.Num) (absU b.Den)
  obtain ⟨h2, l2, m2⟩ := hm (absU b.Num) (absU a.Den)
  have t1 : ratio_times (absU a.Num) (absU b.Den) = some ⟨h1, l1⟩ := by simp only [ratio_times, m1, Option.bind_some]
  have t2 : ratio_times (absU b.Num) (absU a.Den) = some ⟨h2, l2⟩ := by simp only [ratio_times, m2, Option.bind_some]
  have t3 : drossref04_times ⟨0, absU a.Num⟩ ⟨0, absU b.Den⟩ = some ⟨h1, l1⟩ := by simp only [drossref04_times, m1, Option.bind_some]
  have t4 : drossref04_times ⟨0, absU b.Num⟩ ⟨0, absU a.Den⟩ = some ⟨h2, l2⟩ := by simp only [drossref04_times, m2, Option.bind_some]
  have w0 : IntKind.i64.wrap (0 - 0) = 0 := by decide
  have w1 : IntKind.i64.wrap (0 - -1) = 1 := by decide
  have w2 : IntKind.i64.wrap (0 - 1) = -1 := by decide
  simp only [ratio_Cmp, drossref04_Cmp, abs_U, size_U, Option.bind_some, t1, t2, t3, t4, ratio_wide_cmp, drossref04_less]
  by_cases hs : (decide (a.Num < 0) == decide (b.Num < 0)) = true
  · rw [if_pos hs, if_pos hs]
    rcases Int.lt_trichotomy h1 h2 with q | q | q
    · have e1 : (h1 == h2) = false := by simp; omega
      have e2 : (h2 == h1) = false := by simp; omega
      simp only [e1, e2, Bool.false_and, Bool.false_eq_true, if_false, if_pos q, if_neg (show ¬ h2 < h1 by omega), Option.bind_some, if_true, w1]
    · subst q
      have e1 : (h1 == h1) = true := by simp
      simp only [e1, Bool.true_and, if_neg (show ¬ h1 < h1 by omega), if_true, Option.bind_some]
      rcases Int.lt_trichotomy l1 l2 with q | q | q
      · have f1 : (l1 == l2) = false := by simp; omega
        simp only [f1, Bool.false_eq_true, if_false, if_pos q, if_neg (show ¬ l2 < l1 by omega), Option.bind_some, decide_true, decide_false, if_true, w1, q, show (l2 < l1) = False from eq_false (by omega)]
      · subst q
        simp only [beq_self_eq_true, if_true, Option.bind_some, show (l1 < l1) = False from eq_false (by omega), decide_false, Bool.false_eq_true, if_false, w0]
      · have f1 : (l1 == l2) = false := by simp; omega
        simp only [f1, Bool.false_eq_true, if_false, if_neg (show ¬ l1 < l2 by omega), Option.bind_some, decide_true, decide_false, if_true, w2, q, show (l1 < l2) = False from eq_false (by omega)]
    · have e1 : (h1 == h2) = false := by simp; omega
      have e2 : (h2 == h1) = false := by simp; omega
      simp only [e1, e2, Bool.false_and, Bool.false_eq_true, if_false, if_pos q, if_neg (show ¬ h1 < h2 by omega), Option.bind_some, if_true, w2]
  · rw [if_neg hs, if_neg hs]
theorem cmp_natF {a b c d : Nat} (ha : a < 65536) (hb : b < 65536) (hc : c < 65536) (hd : d < 65536) : drossref04_Cmp ⟨(a : Int), (b : Int)⟩ ⟨(c : Int), (d : Int)⟩ = some (if a * d < c * b then -1 else if c * b < a * d then 1 else 0) := by
  have e1 : decide ((a : Int) < 0) = false := by simp
  have e2 : decide ((c : Int) < 0) = false := by simp
  have l1 := wide_less (a * d) (c * b)
  have l2 := wide_less (c * b) (a * d)
  have t1 : drossref04_times ⟨0, (a : Int)⟩ ⟨0, (d : Int)⟩ = some ⟨0, ((a * d : Nat) : Int)⟩ := by
    simp only [drossref04_times, mul64_small ha hd, Option.bind_some]
  have t2 : drossref04_times ⟨0, (c : Int)⟩ ⟨0, (b : Int)⟩ = some ⟨0, ((c * b : Nat) : Int)⟩ := by
    simp only [drossref04_times, mul64_small hc hb, Option.bind_some]
  simp only [drossref04_Cmp, e1, e2, beq_self_eq_true, if_true, size_nat (show a < 4611686018427387904 by omega), size_nat (show b < 4611686018427387904 by omega), size_nat (show c < 4611686018427387904 by omega), size_nat (show d < 4611686018427387904 by omega), Option.bind_some, t1, t2, if_neg (show ¬ ((a : Int) < 0) by omega), l1, l2, decide_eq_true_eq]
  by_cases h1 : a * d < c * b
  · simp only [h1, if_true]
  · by_cases h2 : c * b < a * d <;> simp only [h1, h2, if_true, if_false]
end Go.Proofs.YtjcdclpfeflfkaaGreatDoor
/- Ranks: both layers sort stably by the error. -/
set_option linter.unusedVariables false
set_option linter.unusedSimpArgs false
namespace Go.Ab
open Go
theorem two_x {α : Type} (q : List α) (y x : α) (suf : List α) (n : Nat) (h : q.length = n) : (q ++ y :: x :: suf)[n + 1]? = some x := by
  subst h; rw [List.getElem?_append_right (by omega)]; simp
theorem two_y {α : Type} (q : List α) (y x : α) (suf : List α) (n : Nat) (h : q.length = n) : (q ++ y :: x :: suf)[n]? = some y := by
  subst h; rw [List.getElem?_append_right (by omega)]; simp
theorem two_set {α : Type} (q : List α) (y x : α) (suf : List α) (n : Nat) (h : q.length = n) : ((q ++ y :: x :: suf).set (n + 1) y).set n x = q ++ x :: y :: suf := by
  subst h
  rw [List.set_append_right _ _ (by omega), List.set_append_right _ _ (by omega)]
  simp
theorem two_set1 {α : Type} (q : List α) (y x : α) (suf : List α) (n : Nat) (h : q.length = n) : ((q ++ y :: x :: suf).set (n + 1) y)[n]? = some y := by
  subst h
  rw [List.set_append_right _ _ (by omega), List.getElem?_append_right (by omega)]
  simp
end Go.Ab
namespace Go.Proofs.YtjcdclpfeflfkaaGreatDoor
open Go Go.Ab
end Go.Proofs.YtjcdclpfeflfkaaGreatDoor
/- Validity of a fraction: both layers alike. -/
set_option linter.unusedVariables false
set_option linter.unusedSimpArgs false
namespace Go.Proofs.YtjcdclpfeflfkaaGreatDoor
open Go Go.Ab

theorem absU_nat {x : Int} (h1 : -9223372036854775808 < x) (h2 : x ≤ 9223372036854775807) : absU x = ((x.natAbs : Nat) : Int) := by
  unfold absU
  simp only [IntKind.wrap, IntKind.signed, IntKind.bits, Bool.false_and, Bool.false_eq_true, if_false]
  rw [show ((2 : Int) ^ 64) = 18446744073709551616 from rfl]
  split <;> omega
def validR (r : Ratio) : Bool := decide (0 < r.Den) && (decide (-9223372036854775808 < r.Num) && decide (Nat.gcd r.Num.natAbs r.Den.natAbs = 1))
theorem Valid_p (r : Ratio) (h : okRatio r) : ratio_Valid r = some (validR r) := by
  have q1 := okI_i64 h.1
  have q2 := okI_i64 h.2
  simp only [ratio_Valid, validR]
  by_cases h1 : r.Den > 0
  · by_cases h2 : r.Num > -9223372036854775808
    · have a1 := absU_nat (x := r.Num) (by omega) q1.2
      have w : IntKind.u64.wrap r.Den = ((r.Den.natAbs : Nat) : Int) := by rw [wrap_u64 (by omega) (by omega)]; omega
      simp only [if_pos h1, if_pos h2, abs_U, a1, w, Option.bind_some, ratio_gcd_nat]
      have d1 : decide (0 < r.Den) = true := by simp; omega
      have d2 : decide (-9223372036854775808 < r.Num) = true := by simp; omega
      rw [d1, d2, Bool.true_and, Bool.true_and]
      congr 1
      rw [Bool.eq_iff_iff, beq_iff_eq, decide_eq_true_eq]
      omega
    · have d2 : decide (-9223372036854775808 < r.Num) = false := by simp; omega
      simp only [if_pos h1, if_neg h2, d2, Bool.false_and, Bool.and_false]
  · have d1 : decide (0 < r.Den) = false := by simp; omega
    simp only [if_neg h1, d1, Bool.false_and]
end Go.Proofs.YtjcdclpfeflfkaaGreatDoor
/- The reference's subsets. -/
set_option linter.unusedVariables false
set_option linter.unusedSimpArgs false
namespace Go.Proofs.YtjcdclpfeflfkaaGreatDoor
open Go Go.Ab
theorem Has_nat {s k : Nat} (hs : s < 4294967296) (hk : k < 32) : drossref02_Has (s : Int) (k : Int) = some (s.testBit k) := by
  rw [Has02_eq', hasB_nat hs (by omega), decide_eq_true (show 0 ≤ (k : Int) by omega), decide_eq_true (show (k : Int) < 32 by omega)]; rfl
def membN (s : Nat) : List Int := ((List.range 32).filter s.testBit).map fun (k : Nat) => (k : Int)
theorem Members_eq {s : Nat} (hs : s < 4294967296) : drossref02_Members (s : Int) = some (membN s) := by
  have hlen : (List.range 32).length = 32 := List.length_range
  have hl := LoopF_foldl (List.range 32) (fun (o : List Int) i => (o, i)) (drossref02_Members_l1 (s : Int)) (fun o (k : Nat) => if s.testBit k then o ++ [(k : Int)] else o) id (fun k o => o.length ≤ k) (b0 := []) (s0 := ([], 0)) rfl (Nat.le_refl 0)
    (fun k o z hz hk hI => by
      have hzk : z = k := by
        have := (List.getElem?_eq_some_iff.1 hz).2
        simpa using this.symm
      subst hzk
      rw [hlen] at hk
      refine ⟨?_, by cases s.testBit z <;> simp <;> omega⟩
      simp only [drossref02_Members_l1, if_pos (show (z : Int) < 32 by omega), Has_nat hs hk, Option.bind_some, room_le (show o.length + 1 ≤ 1073741824 by omega) (show 8 ≤ 65536 by omega), if_true, wrap_nat (show z < 4611686018427387904 by omega)]
      cases s.testBit z <;> rfl)
    (fun o _ => by rw [hlen]; simp [drossref02_Members_l1])
  simp only [drossref02_Members, hl, id, Option.bind_some]
  rw [foldl_keep]; rfl
def sizeN (s : Nat) : Nat := ((List.range 32).filter s.testBit).length
theorem ref_Size_eq {s : Nat} (hs : s < 4294967296) : drossref02_Size (s : Int) = some ((sizeN s : Nat) : Int) := by
  simp only [drossref02_Size, Members_eq hs, Option.bind_some, membN, List.length_map, sizeN]
/-- the next subset -/
def nxtN (x s : Nat) : Nat := if x = s then s + 1 else ((x + 18446744073709551616 - s) % 18446744073709551616) &&& s
theorem next_eq {x s : Nat} (hs : s < 4294967296) (hx : x ≤ s) : drossref02_next (x : Int) (s : Int) = some ((nxtN x s : Nat) : Int) := by
  unfold drossref02_next nxtN
  by_cases h : x = s
  · subst h
    rw [if_pos (by simp), if_pos rfl, wrap_u64 (by omega) (by omega)]; rfl
  · rw [if_neg (by simp; omega), if_neg h]
    have e : IntKind.u64.wrap ((x : Int) - (s : Int)) = (((x + 18446744073709551616 - s) % 18446744073709551616 : Nat) : Int) := by
      simp only [IntKind.wrap, IntKind.signed, IntKind.bits, Bool.false_and, Bool.false_eq_true, if_false]
      rw [show ((2 : Int) ^ 64) = 18446744073709551616 from rfl]
      omega
    have b1 : ∀ m : Nat, m < 18446744073709551616 → (BitVec.ofInt 64 (m : Int)).toNat = m := fun m hm => by
      rw [BitVec.ofInt_natCast, BitVec.toNat_ofNat]; exact Nat.mod_eq_of_lt hm
    have hm : (x + 18446744073709551616 - s) % 18446744073709551616 < 18446744073709551616 := Nat.mod_lt _ (by omega)
    rw [e, BitVec.toNat_and, b1 _ hm, b1 s (by omega)]
    have hle : ((x + 18446744073709551616 - s) % 18446744073709551616) &&& s ≤ s := Nat.and_le_right
    rw [wrap_u64 (by omega) (by omega)]
/-- the walk through the subsets -/
def walkN (s : Nat) : Nat → Nat → List Nat
  | 0, _ => []
  | f + 1, x => if x ≤ s then x :: walkN s f (nxtN x s) else []
def endN (s : Nat) : Nat → Nat → Bool
  | 0, x => decide (s < x)
  | f + 1, x => if x ≤ s then endN s f (nxtN x s) else true
theorem walk_loop (s k : Nat) (hs : s < 64) : ∀ (f x : Nat) (out : List Int), endN s f x = true → x ≤ 64 → out.length + f ≤ 100000 → LoopF (drossref02_Subsets_l3 (s : Int) (k : Int)) (out, (x : Int)) = some (out ++ ((walkN s f x).filter fun y => sizeN y == k).map fun (y : Nat) => (y : Int))
  | 0, x, out, h, hx, ho => by
    have h' : s < x := by simpa [endN] using h
    refine Loop_done ?_
    simp only [drossref02_Subsets_l3]
    rw [wrap_u64 (by omega) (by omega), if_neg (by omega)]
    simp [walkN]
  | f + 1, x, out, h, hx, ho => by
    by_cases hc : x ≤ s
    · have h' : endN s f (nxtN x s) = true := by simpa [endN, hc] using h
      have hnx : nxtN x s ≤ 64 := by
        unfold nxtN
        split
        · omega
        · have : ((x + 18446744073709551616 - s) % 18446744073709551616) &&& s ≤ s := Nat.and_le_right
          omega
      have e1 : IntKind.u64.wrap (s : Int) = (s : Int) := wrap_u64 (by omega) (by omega)
      have e2 : IntKind.u32.wrap (x : Int) = (x : Int) := wrap_u32 (by omega) (by omega)
      have hroom : roomB (out.length + 1) 4 = true := room_le (by omega) (by omega)
      have hstep : drossref02_Subsets_l3 (s : Int) (k : Int) (out, (x : Int)) = some (.next ((if sizeN x == k then out ++ [(x : Int)] else out), ((nxtN x s : Nat) : Int))) := by
        simp only [drossref02_Subsets_l3, e1, e2, ref_Size_eq (show x < 4294967296 by omega), next_eq (show s < 4294967296 by omega) hc, Option.bind_some, hroom, if_true]
        rw [if_pos (by omega)]
        have eb : (((sizeN x : Nat) : Int) == (k : Int)) = (sizeN x == k) := by
          rw [Bool.eq_iff_iff, beq_iff_eq, beq_iff_eq]; omega
        rw [eb]
        cases sizeN x == k <;> rfl
      have hol : (if (sizeN x == k) = true then out ++ [(x : Int)] else out).length ≤ out.length + 1 := by split <;> simp
      rw [Loop_next hstep, walk_loop s k hs f (nxtN x s) _ h' hnx (by omega)]
      have ew : walkN s (f + 1) x = x :: walkN s f (nxtN x s) := by simp [walkN, hc]
      rw [ew, List.filter_cons]
      by_cases hk : (sizeN x == k) = true
      · rw [if_pos hk, if_pos hk]; simp
      · rw [if_neg hk, if_neg hk]
    · refine Loop_done ?_
      simp only [drossref02_Subsets_l3]
      rw [wrap_u64 (by omega) (by omega), if_neg (by omega)]
      simp [walkN, hc]
/-- the subsets in order -/
def subsR (s : Nat) : List Nat := (List.range (sizeN s + 1)).flatMap fun k => (walkN s 70 0).filter fun y => sizeN y == k
theorem subs_ok : ∀ s ∈ List.range 64, endN s 70 0 = true ∧ sizeN s ≤ 6 ∧ (walkN s 70 0) = (List.range 64).filter (fun x => x &&& s == x) := by decide +kernel
theorem walk_len {s : Nat} (hs : s < 64) : (walkN s 70 0).length ≤ 64 := by
  rw [(subs_ok s (by rw [List.mem_range]; exact hs)).2.2]
  exact Nat.le_trans (List.length_filter_le _ _) (by simp)
theorem ref_Subsets_eq {s : Nat} (hs : s < 64) : drossref02_Subsets (s : Int) = some ((subsR s).map fun (y : Nat) => (y : Int)) := by
  obtain ⟨h1, h2, h3⟩ := subs_ok s (by rw [List.mem_range]; exact hs)
  have hwl := walk_len hs
  have hlen : (List.range (sizeN s + 1)).length = sizeN s + 1 := List.length_range
  have hl := LoopF_foldl (List.range (sizeN s + 1)) (fun (o : List Int) i => (o, i)) (drossref02_Subsets_l4 (s : Int)) (fun o (k : Nat) => o ++ ((walkN s 70 0).filter fun y => sizeN y == k).map fun (y : Nat) => (y : Int)) id (fun k o => o.length ≤ k * 64) (b0 := []) (s0 := ([], 0)) rfl (by simp)
    (fun k o z hz hk hI => by
      have hzk : z = k := by
        have := (List.getElem?_eq_some_iff.1 hz).2
        simpa using this.symm
      subst hzk
      rw [hlen] at hk
      have hfl : ((walkN s 70 0).filter fun y => sizeN y == z).length ≤ 64 := Nat.le_trans (List.length_filter_le _ _) hwl
      refine ⟨?_, by rw [List.length_append, List.length_map, Nat.add_mul]; omega⟩
      have hw := walk_loop s z hs 70 0 o h1 (by omega) (by omega)
      rw [show ((0 : Nat) : Int) = 0 from rfl] at hw
      simp only [drossref02_Subsets_l4, ref_Size_eq (show s < 4294967296 by omega), Option.bind_some, if_pos (show (z : Int) ≤ ((sizeN s : Nat) : Int) by omega), hw, wrap_nat (show z < 4611686018427387904 by omega)])
    (fun o _ => by
      rw [hlen]
      simp only [drossref02_Subsets_l4, ref_Size_eq (show s < 4294967296 by omega), Option.bind_some]
      rw [if_neg (by omega)]; rfl)
  simp only [drossref02_Subsets, ref_Size_eq (show s < 4294967296 by omega), Option.bind_some, hl, id]
  rw [if_neg (by omega)]
  congr 1
  have : ∀ (l : List Nat) (o : List Int), l.foldl (fun o (k : Nat) => o ++ ((walkN s 70 0).filter fun y => sizeN y == k).map fun (y : Nat) => (y : Int)) o = o ++ (l.flatMap fun k => (walkN s 70 0).filter fun y => sizeN y == k).map fun (y : Nat) => (y : Int) := by
    intro l
    induction l with
    | nil => intro o; simp
    | cons k l ih => intro o; rw [List.foldl_cons, ih]; simp
  rw [this]; rfl
theorem subsR_mem {s : Nat} (hs : s < 64) (x : Nat) : x ∈ subsR s ↔ ∀ k, x.testBit k = true → s.testBit k = true := by
  obtain ⟨h1, h2, h3⟩ := subs_ok s (by rw [List.mem_range]; exact hs)
  unfold subsR
  rw [List.mem_flatMap]
  have sub : (x &&& s == x) = true ↔ ∀ k, x.testBit k = true → s.testBit k = true := by
    rw [beq_iff_eq]
    constructor
    · intro h k hk
      rw [← h, Nat.testBit_and, Bool.and_eq_true] at hk
      exact hk.2
    · intro h
      apply Nat.eq_of_testBit_eq
      intro k
      rw [Nat.testBit_and]
      cases hb : x.testBit k with
      | false => rfl
      | true => rw [h k hb]; rfl
  rw [← sub, h3]
  constructor
  · rintro ⟨k, _, hx⟩
    exact (List.mem_filter.1 (List.mem_filter.1 hx).1).2
  · intro hx
    have hlt : x < 64 := by
      have : x ≤ s := by rw [← beq_iff_eq.1 hx]; exact Nat.and_le_right
      omega
    have hsz : sizeN x ≤ sizeN s := by
      unfold sizeN
      have hsub := sub.1 hx
      have e : (List.range 32).filter x.testBit = ((List.range 32).filter s.testBit).filter x.testBit := by
        rw [List.filter_filter]
        apply List.filter_congr
        intro i _
        cases hb : x.testBit i with
        | false => rfl
        | true => rw [hsub i hb]; rfl
      rw [e]; exact List.length_filter_le _ _
    exact ⟨sizeN x, by rw [List.mem_range]; omega, List.mem_filter.2 ⟨List.mem_filter.2 ⟨by rw [List.mem_range]; exact hlt, hx⟩, by simp⟩⟩
end Go.Proofs.YtjcdclpfeflfkaaGreatDoor
/- Least sets of a family: the program's walk. -/
set_option linter.unusedVariables false
set_option linter.unusedSimpArgs false
namespace Go.Proofs.YtjcdclpfeflfkaaGreatDoor
open Go Go.Ab

def subB (y x : Nat) : Bool := decide (y &&& x = y)
theorem subB_iff (y x : Nat) : subB y x = true ↔ ∀ k, y.testBit k = true → x.testBit k = true := by
  unfold subB
  rw [decide_eq_true_eq]
  constructor
  · intro h k hk
    rw [← h, Nat.testBit_and, Bool.and_eq_true] at hk
    exact hk.2
  · intro h
    apply Nat.eq_of_testBit_eq
    intro k
    rw [Nat.testBit_and]
    cases hb : y.testBit k with
    | false => rfl
    | true => rw [h k hb]; rfl
theorem subB_refl (x : Nat) : subB x x = true := (subB_iff x x).2 fun k h => h
theorem subB_trans {x y z : Nat} (h1 : subB x y = true) (h2 : subB y z = true) : subB x z = true := by
  rw [subB_iff] at *
  exact fun k h => h2 k (h1 k h)
theorem subB_le {y x : Nat} (h : subB y x = true) : y ≤ x := by
  unfold subB at h
  rw [decide_eq_true_eq] at h
  rw [← h]; exact Nat.and_le_right
theorem sub_lex_all : ∀ x ∈ List.range 16, ∀ y ∈ List.range 16, subB y x = true → y ≠ x → lexN y x := by decide +kernel
theorem sub_lex {x y : Nat} (hx : x < 16) (h : subB y x = true) (hne : y ≠ x) : lexN y x :=
  sub_lex_all x (List.mem_range.2 hx) y (List.mem_range.2 (Nat.lt_of_le_of_lt (subB_le h) hx)) h hne
theorem ndiff_sub {y x : Nat} : (((ndiff y x : Nat) : Int) == 0) = subB y x := by
  rw [Bool.eq_iff_iff, beq_iff_eq, subB_iff]
  constructor
  · intro h k hk
    have h0 : ndiff y x = 0 := by omega
    have := ndiff_bit y x k
    rw [h0, hk, Nat.zero_testBit] at this
    cases hb : x.testBit k with
    | true => rfl
    | false => rw [hb] at this; cases this
  · intro h
    have : ndiff y x = 0 := by
      apply Nat.eq_of_testBit_eq
      intro k
      rw [ndiff_bit, Nat.zero_testBit]
      cases hb : y.testBit k with
      | false => rfl
      | true => rw [h k hb]; rfl
    rw [this]; rfl

/-! ### the family -/
def goodB (P : Nat → Nat → Bool) (n : Nat) (q : Nat × Nat) : Bool := !(q.1.testBit q.2) && (P q.1 q.2 && (List.range (2 ^ n)).all fun y => !(subB y q.1 && (decide (y ≠ q.1) && P y q.2)))
def stepA (P : Nat → Nat → Bool) (acc : List (Nat × Nat)) (q : Nat × Nat) : List (Nat × Nat) :=
  if q.1.testBit q.2 = true then acc else if (acc.any fun z => z.2 == q.2 && subB z.1 q.1) = true then acc else if P q.1 q.2 = true then acc ++ [q] else acc
def pairsN (n : Nat) : List (Nat × Nat) := (ordL n).flatMap fun x => (List.range n).map fun a => (x, a)
def befN (q z : Nat × Nat) : Prop := lexN q.1 z.1 ∨ (q.1 = z.1 ∧ q.2 < z.2)
instance instDecBefN (q z : Nat × Nat) : Decidable (befN q z) := by unfold befN; exact inferInstance
theorem pairs_all : ∀ n ∈ List.range 5, (pairsN n).Pairwise befN := by decide +kernel
theorem pairs_sorted {n : Nat} (h : n ≤ 4) : (pairsN n).Pairwise befN := pairs_all n (List.mem_range.2 (by omega))
theorem pairs_mem {n : Nat} (h : n ≤ 4) (q : Nat × Nat) : q ∈ pairsN n ↔ q.1 < 2 ^ n ∧ q.2 < n := by
  unfold pairsN
  rw [List.mem_flatMap]
  constructor
  · rintro ⟨x, hx, hq⟩
    obtain ⟨a, ha, rfl⟩ := List.mem_map.1 hq
    exact ⟨(ordL_mem (by omega) x).1 hx, List.mem_range.1 ha⟩
  · rintro ⟨h1, h2⟩
    exact ⟨q.1, (ordL_mem (by omega) q.1).2 h1, List.mem_map.2 ⟨q.2, List.mem_range.2 h2, rfl⟩⟩
theorem lexN_irr (x : Nat) : ¬ lexN x x := by unfold lexN; omega
theorem lexN_asym {x y : Nat} (h : lexN x y) : ¬ lexN y x := by unfold lexN at *; omega
theorem good_iff {P : Nat → Nat → Bool} {n : Nat} {q : Nat × Nat} : goodB P n q = true ↔ q.1.testBit q.2 = false ∧ P q.1 q.2 = true ∧ ∀ y, y < 2 ^ n → subB y q.1 = true → y ≠ q.1 → P y q.2 = false := by
  unfold goodB
  rw [Bool.and_eq_true, Bool.and_eq_true, List.all_eq_true, Bool.not_eq_true']
  constructor
  · rintro ⟨h1, h2, h3⟩
    refine ⟨h1, h2, fun y hy hs hne => ?_⟩
    have := h3 y (List.mem_range.2 hy)
    simpa [hs, hne] using this
  · rintro ⟨h1, h2, h3⟩
    refine ⟨h1, h2, fun y hy => ?_⟩
    have hy' := List.mem_range.1 hy
    by_cases hs : subB y q.1 = true
    · by_cases hne : y ≠ q.1
      · rw [h3 y hy' hs hne]; simp
      · simp [hne]
    · simp [hs]
theorem exists_least {P : Nat → Nat → Bool} {n a : Nat} : ∀ y, y < 2 ^ n → P y a = true → ∃ z, subB z y = true ∧ P z a = true ∧ ∀ w, w < 2 ^ n → subB w z = true → w ≠ z → P w a = false := by
  intro y
  induction y using Nat.strongRecOn with
  | ind y ih =>
    intro hy hp
    by_cases h : ∃ w, subB w y = true ∧ w ≠ y ∧ P w a = true
    · obtain ⟨w, h1, h2, h3⟩ := h
      have hle := subB_le h1
      obtain ⟨z, q1, q2, q3⟩ := ih w (by omega) (by omega) h3
      exact ⟨z, subB_trans q1 h1, q2, q3⟩
    · refine ⟨y, subB_refl y, hp, fun w hw hs hne => ?_⟩
      cases hc : P w a with
      | false => rfl
      | true => exact absurd ⟨w, hs, hne, hc⟩ h
theorem walk_good (P : Nat → Nat → Bool) {n : Nat} (hn : n ≤ 4) : ∀ (pre suf : List (Nat × Nat)), pairsN n = pre ++ suf → pre.foldl (stepA P) [] = pre.filter (goodB P n) := by
  have h16 : 2 ^ n ≤ 16 := by
    have : 2 ^ n ≤ 2 ^ 4 := Nat.pow_le_pow_right (by omega) hn
    omega
  intro pre
  induction pre using snoc_ind with
  | h0 => intro suf _; rfl
  | h1 pre q ih =>
    intro suf hs
    have hs' : pairsN n = pre ++ (q :: suf) := by rw [hs]; simp
    have hsort := pairs_sorted hn
    rw [hs'] at hsort
    obtain ⟨s1, s2, s3⟩ := List.pairwise_append.1 hsort
    obtain ⟨s4, s5⟩ := List.pairwise_cons.1 s2
    have hq : q ∈ pairsN n := by rw [hs']; simp
    obtain ⟨hq1, hq2⟩ := (pairs_mem hn q).1 hq
    rw [List.foldl_append, ih _ hs']
    simp only [List.foldl_cons, List.foldl_nil]
    rw [List.filter_append]
    unfold stepA
    by_cases hb : q.1.testBit q.2 = true
    · have hg : goodB P n q = false := by
        cases h : goodB P n q with
        | false => rfl
        | true => have := (good_iff.1 h).1; rw [hb] at this; cases this
      rw [if_pos hb]; simp [hg]
    · rw [if_neg hb]
      by_cases hany : ((pre.filter (goodB P n)).any fun z => z.2 == q.2 && subB z.1 q.1) = true
      · rw [if_pos hany]
        have hg : goodB P n q = false := by
          cases h : goodB P n q with
          | false => rfl
          | true =>
            exfalso
            obtain ⟨z, hz, hzq⟩ := List.any_eq_true.1 hany
            rw [Bool.and_eq_true, beq_iff_eq] at hzq
            obtain ⟨hz1, hz2⟩ := List.mem_filter.1 hz
            have hzp : z ∈ pairsN n := by rw [hs']; simp [hz1]
            have hzl := ((pairs_mem hn z).1 hzp).1
            obtain ⟨_, g2, _⟩ := good_iff.1 hz2
            have hne : z.1 ≠ q.1 := by
              intro e
              have := s3 z hz1 q (by simp)
              rcases this with h | ⟨_, h⟩
              · rw [e] at h; exact lexN_irr _ h
              · rw [hzq.1] at h; exact Nat.lt_irrefl _ h
            have := (good_iff.1 h).2.2 z.1 hzl hzq.2 hne
            rw [← hzq.1, g2] at this; cases this
        simp [hg]
      · rw [if_neg hany]
        by_cases hp : P q.1 q.2 = true
        · rw [if_pos hp]
          have hg : goodB P n q = true := by
            rw [good_iff]
            refine ⟨by simpa using hb, hp, fun y hy hsub hne => ?_⟩
            cases hpy : P y q.2 with
            | false => rfl
            | true =>
              exfalso
              obtain ⟨z, z1, z2, z3⟩ := exists_least y hy hpy
              have hzx : subB z q.1 = true := subB_trans z1 hsub
              have hzl : z ≤ y := subB_le z1
              have hyl := subB_le hsub
              have hzq : (z, q.2) ∈ pairsN n := (pairs_mem hn _).2 ⟨by simp only; omega, hq2⟩
              have hzg : goodB P n (z, q.2) = true := by
                rw [good_iff]
                refine ⟨?_, z2, z3⟩
                cases hc : z.testBit q.2 with
                | false => simp [hc]
                | true => exact absurd ((subB_iff z q.1).1 hzx _ hc) hb
              have hlex : lexN z q.1 := sub_lex (by omega) hzx (by omega)
              rw [hs'] at hzq
              rcases List.mem_append.1 hzq with h | h
              · apply hany
                rw [List.any_eq_true]
                exact ⟨(z, q.2), List.mem_filter.2 ⟨h, hzg⟩, by simp [hzx]⟩
              · rcases List.mem_cons.1 h with h | h
                · have : z = q.1 := congrArg Prod.fst h
                  rw [this] at hlex; exact lexN_irr _ hlex
                · rcases s4 _ h with h | ⟨h, h'⟩
                  · exact lexN_asym hlex h
                  · exact Nat.lt_irrefl _ h'
          simp [hg]
        · rw [if_neg hp]
          have hg : goodB P n q = false := by
            cases h : goodB P n q with
            | false => rfl
            | true => exact absurd (good_iff.1 h).2.1 hp
          simp [hg]
/-- the answer, as pairs -/
def ansN (P : Nat → Nat → Bool) (n : Nat) : List (Nat × Nat) := (pairsN n).filter (goodB P n)
def fdQ (q : Nat × Nat) : FD := ⟨(q.1 : Int), ((2 ^ q.2 : Nat) : Int)⟩
theorem foldl_pairs {γ : Type} (f : γ → Nat × Nat → γ) (n : Nat) : ∀ (l : List Nat) (o : γ), (l.flatMap fun x => (List.range n).map fun a => (x, a)).foldl f o = l.foldl (fun o x => (List.range n).foldl (fun o a => f o (x, a)) o) o
  | [], o => rfl
  | x :: l, o => by
    rw [List.flatMap_cons, List.foldl_append, foldl_pairs f n l, List.foldl_cons, List.foldl_map]
/-! ### the program -/
def foundQ (n : Nat) (acc : List (Nat × Nat)) : List (List Int) := (List.range n).map fun a => (acc.filter fun q => q.2 == a).map fun q => (q.1 : Int)
theorem foundQ_get {n : Nat} (acc : List (Nat × Nat)) {a : Nat} (h : a < n) : (foundQ n acc)[a]? = some ((acc.filter fun q => q.2 == a).map fun q => (q.1 : Int)) := by
  unfold foundQ; rw [List.getElem?_map, List.getElem?_range h]; rfl
theorem foundQ_set {n : Nat} (acc : List (Nat × Nat)) {x a : Nat} (h : a < n) : (foundQ n acc).set a (((acc.filter fun q => q.2 == a).map fun q => (q.1 : Int)) ++ [(x : Int)]) = foundQ n (acc ++ [(x, a)]) := by
  apply List.ext_getElem?
  intro j
  have hl : (foundQ n acc).length = n := by simp [foundQ]
  by_cases hj : j < n
  · have hR := foundQ_get (acc ++ [(x, a)]) hj
    have hL := foundQ_get acc hj
    rw [hR, List.getElem?_set]
    by_cases e : a = j
    · subst e
      rw [if_pos rfl, if_pos (by rw [hl]; exact hj)]
      simp
    · rw [if_neg e, hL]
      have : (a == j) = false := by simp [e]
      simp [this]
  · rw [List.getElem?_eq_none (by rw [List.length_set, hl]; omega), List.getElem?_eq_none (by simp [foundQ]; omega)]
theorem contains_eq (l : List (Nat × Nat)) (hl : l.length ≤ 1000000) (a x : Nat) (hq : ∀ q ∈ l, q.1 < 4294967296) (hx : x < 4294967296) :
    slices_ContainsFunc_Set ((l.filter fun q => q.2 == a).map fun q => (q.1 : Int)) (fun y => approx_Minimal_1 y (x : Int)) = some (l.any fun z => z.2 == a && subB z.1 x) := by
  have hm : ∀ y : Nat, y < 4294967296 → approx_Minimal_1 (y : Int) (x : Int) = some (subB y x) := fun y hy => by
    simp only [approx_Minimal_1, w32_diff hy hx, ndiff_sub]
  have hll : ((l.filter fun q => q.2 == a).map fun q => (q.1 : Int)).length ≤ 1000000 := by
    rw [List.length_map]
    have := List.length_filter_le (fun q : Nat × Nat => q.2 == a) l
    omega
  have hmem : ∀ z ∈ ((l.filter fun q => q.2 == a).map fun q => (q.1 : Int)), ∃ y : Nat, z = (y : Int) ∧ y < 4294967296 := by
    intro z hz
    obtain ⟨q, hq', rfl⟩ := List.mem_map.1 hz
    exact ⟨q.1, rfl, hq q (List.mem_filter.1 hq').1⟩
  have hany : (((l.filter fun q => q.2 == a).map fun q => (q.1 : Int)).any fun z => subB z.toNat x) = l.any fun z => z.2 == a && subB z.1 x := by
    rw [List.any_map, List.any_filter]
    simp
  generalize ((l.filter fun q => q.2 == a).map fun q => (q.1 : Int)) = L at *
  have h := LoopF_find L (slices_IndexFunc_Set_l1 L fun y => approx_Minimal_1 y (x : Int)) (fun z => subB z.toNat x)
    (fun k z hz hk hp => by
      obtain ⟨y, rfl, hy⟩ := hmem z (List.mem_of_getElem? hz)
      rw [Int.toNat_natCast] at hp
      simp only [slices_IndexFunc_Set_l1, if_pos (lt_true hz), idx_get hz, Option.bind_some, hm y hy, hp, Bool.false_eq_true, if_false, wrap_nat (show k < 4611686018427387904 by omega)])
    (fun k z hz hp => by
      obtain ⟨y, rfl, hy⟩ := hmem z (List.mem_of_getElem? hz)
      rw [Int.toNat_natCast] at hp
      simp only [slices_IndexFunc_Set_l1, if_pos (lt_true hz), idx_get hz, Option.bind_some, hm y hy, hp, if_true])
    (by simp [slices_IndexFunc_Set_l1])
  have hfind := posI_any (fun z : Int => subB z.toNat x) L
  rw [hany] at hfind
  simp only [slices_ContainsFunc_Set, slices_IndexFunc_Set, h, Option.bind_some]
  cases hc : L.findIdx? (fun z => subB z.toNat x) with
  | none => rw [hc] at hfind; simp only [posI] at hfind; simp only [Option.bind_some]; rw [← hfind]; rfl
  | some i => rw [hc] at hfind; simp only [posI] at hfind; simp only [Option.bind_some]; rw [← hfind]; rfl
end Go.Proofs.YtjcdclpfeflfkaaGreatDoor
/- Least sets: the program's loops; the reference's least sets and its sorting. -/
set_option linter.unusedVariables false
set_option linter.unusedSimpArgs false
namespace Go.Proofs.YtjcdclpfeflfkaaGreatDoor
open Go Go.Ab

def Fam (t : Table) (m : Int) (most : Ratio) (P : Nat → Nat → Bool) : Prop := ∀ x a : Nat, x < 2 ^ t.Attrs.length → a < t.Attrs.length → ∃ r z, approx_measured t ⟨(x : Int), ((2 ^ a : Nat) : Int)⟩ m = some r ∧ ratio_Cmp r most = some z ∧ (z ≤ 0 ↔ P x a = true)
theorem stepA_len (P : Nat → Nat → Bool) (acc : List (Nat × Nat)) (q : Nat × Nat) : (stepA P acc q).length ≤ acc.length + 1 := by
  unfold stepA
  split
  · omega
  · split
    · omega
    · split
      · simp
      · omega
theorem stepA_mem (P : Nat → Nat → Bool) (acc : List (Nat × Nat)) (q z : Nat × Nat) (h : z ∈ stepA P acc q) : z ∈ acc ∨ z = q := by
  unfold stepA at h
  split at h
  · exact .inl h
  · split at h
    · exact .inl h
    · split at h
      · rcases List.mem_append.1 h with h | h
        · exact .inl h
        · exact .inr (by simpa using h)
      · exact .inl h
theorem min_l3 {t : Table} {m : Int} {most : Ratio} {P : Nat → Nat → Bool} (H : Fam t m most P) (hn : t.Attrs.length ≤ 4) {x : Nat} (hx : x < 2 ^ t.Attrs.length) (acc : List (Nat × Nat)) (hl : acc.length ≤ 100000) (ha : ∀ q ∈ acc, q.1 < 4294967296) :
    LoopF (approx_Minimal_l3 t m most (x : Int)) (foundQ t.Attrs.length acc, acc.map fdQ, 0) = some (foundQ t.Attrs.length ((List.range t.Attrs.length).foldl (fun o a => stepA P o (x, a)) acc), ((List.range t.Attrs.length).foldl (fun o a => stepA P o (x, a)) acc).map fdQ) := by
  have hx32 : x < 4294967296 := Nat.lt_trans hx (pow_lt (by omega))
  refine LoopF_foldl (List.range t.Attrs.length) (fun (o : List (Nat × Nat)) i => (foundQ t.Attrs.length o, o.map fdQ, i)) (approx_Minimal_l3 t m most (x : Int)) (fun o a => stepA P o (x, a)) (fun o => (foundQ t.Attrs.length o, o.map fdQ)) (fun k o => o.length ≤ acc.length + k ∧ ∀ q ∈ o, q.1 < 4294967296) (b0 := acc) rfl ⟨by omega, ha⟩ (fun k o z hz hk hI => ?_) (fun o _ => by simp [approx_Minimal_l3])
  obtain ⟨rfl, hk'⟩ := range_at hz
  obtain ⟨I1, I2⟩ := hI
  have hsl := stepA_len P o (x, z)
  refine ⟨?_, by omega, fun q hq => ?_⟩
  · obtain ⟨r, c, e1, e2, e3⟩ := H x z hx hk'
    have hb := w32_bit hx32 (show z ≤ 32 by omega)
    have hw := wrap_nat (show z < 4611686018427387904 by omega)
    have hc := contains_eq o (by omega) z x I2 hx32
    have hsh := w32_shl1 (show z < 32 by omega)
    have hfl : ((o.filter fun q => q.2 == z).map fun q => (q.1 : Int)).length ≤ o.length := by
      rw [List.length_map]; exact List.length_filter_le _ _
    have r1 : roomB (((o.filter fun q => q.2 == z).map fun q => (q.1 : Int)).length + 1) 4 = true := room_le (by omega) (by omega)
    have r2 : roomB ((o.map fdQ).length + 1) 8 = true := room_le (by rw [List.length_map]; omega) (by omega)
    have e1' := e1
    simp only [approx_Minimal_l3, if_pos (show (z : Int) < (t.Attrs.length : Int) by omega), if_neg (show ¬ ((z : Int) < 0) by omega), Int.toNat_natCast, hb, idx_get (foundQ_get o hk'), Option.bind_some, hc, hsh, e1', e2, hw, r1, r2, if_true, foundQ_set o hk']
    unfold stepA
    by_cases b1 : x.testBit z = true
    · simp only [b1, if_true]
    · by_cases b2 : (o.any fun q => q.2 == z && subB q.1 x) = true
      · simp only [b1, if_false, Bool.false_eq_true, b2, if_true]
      · by_cases b3 : P x z = true
        · simp only [b1, if_false, Bool.false_eq_true, b2, b3, if_pos (e3.2 b3), if_true, List.map_append, List.map_cons, List.map_nil]
          rfl
        · simp only [b1, if_false, Bool.false_eq_true, b2, b3, if_neg (fun h => b3 (e3.1 h))]
  · rcases stepA_mem P o (x, z) q hq with h | h
    · exact I2 q h
    · rw [h]; exact hx32
theorem ordL_len {n : Nat} (h : n ≤ 6) : (ordL n).length ≤ 64 := by
  rw [(ordL_perm h).length_eq, List.length_range]
  exact Nat.le_trans (Nat.pow_le_pow_right (by omega) h) (by decide)
theorem fold_len (P : Nat → Nat → Bool) (x : Nat) : ∀ (l : List Nat) (o : List (Nat × Nat)), (l.foldl (fun o a => stepA P o (x, a)) o).length ≤ o.length + l.length ∧ ∀ q ∈ l.foldl (fun o a => stepA P o (x, a)) o, q ∈ o ∨ q.1 = x
  | [], o => ⟨by simp, fun q h => .inl h⟩
  | a :: l, o => by
    rw [List.foldl_cons]
    obtain ⟨h1, h2⟩ := fold_len P x l (stepA P o (x, a))
    have h3 := stepA_len P o (x, a)
    refine ⟨by rw [List.length_cons]; omega, fun q hq => ?_⟩
    rcases h2 q hq with h | h
    · rcases stepA_mem P o (x, a) q h with h | h
      · exact .inl h
      · exact .inr (by rw [h])
    · exact .inr h
theorem min_l4 {t : Table} {m : Int} {most : Ratio} {P : Nat → Nat → Bool} (H : Fam t m most P) (hn : t.Attrs.length ≤ 4) :
    LoopF (approx_Minimal_l4 t m most (ordI t.Attrs.length)) (List.replicate t.Attrs.length [], [], 0) = some ((ansN P t.Attrs.length).map fdQ) := by
  have hol := ordL_len (n := t.Attrs.length) (by omega)
  have hil : (ordI t.Attrs.length).length = (ordL t.Attrs.length).length := by unfold ordI; rw [List.length_map]
  have h0 : (List.replicate t.Attrs.length ([] : List Int), ([] : List FD), (0 : Int)) = (foundQ t.Attrs.length [], ([] : List (Nat × Nat)).map fdQ, 0) := by
    have : foundQ t.Attrs.length [] = List.replicate t.Attrs.length [] := by
      apply List.ext_getElem?
      intro j
      by_cases hj : j < t.Attrs.length
      · rw [foundQ_get [] hj, List.getElem?_replicate, if_pos hj]; rfl
      · rw [List.getElem?_eq_none (by simp [foundQ]; omega), List.getElem?_eq_none (by simp; omega)]
    rw [this]; rfl
  have h := LoopF_foldl (ordL t.Attrs.length) (fun (o : List (Nat × Nat)) i => (foundQ t.Attrs.length o, o.map fdQ, i)) (approx_Minimal_l4 t m most (ordI t.Attrs.length)) (fun o x => (List.range t.Attrs.length).foldl (fun o a => stepA P o (x, a)) o) (fun o => o.map fdQ) (fun k o => o.length ≤ k * 4 ∧ ∀ q ∈ o, q.1 < 4294967296) (b0 := []) (s0 := _) h0 ⟨by simp, by simp⟩
    (fun k o x hx hk hI => by
      obtain ⟨I1, I2⟩ := hI
      have hxl : x < 2 ^ t.Attrs.length := (ordL_mem (by omega) x).1 (List.mem_of_getElem? hx)
      have hxi : (ordI t.Attrs.length)[k]? = some (x : Int) := by unfold ordI; rw [List.getElem?_map, hx]; rfl
      obtain ⟨f1, f2⟩ := fold_len P x (List.range t.Attrs.length) o
      rw [List.length_range] at f1
      refine ⟨?_, by omega, fun q hq => ?_⟩
      · simp only [approx_Minimal_l4, hil, if_pos (show (k : Int) < ((ordL t.Attrs.length).length : Int) by omega), idx_get hxi, Option.bind_some, min_l3 H hn hxl o (by omega) I2, wrap_nat (show k < 4611686018427387904 by omega)]
      · rcases f2 q hq with h | h
        · exact I2 q h
        · rw [h]; exact Nat.lt_trans hxl (pow_lt (by omega)))
    (fun o _ => by simp only [approx_Minimal_l4, hil, if_neg (show ¬ (((ordL t.Attrs.length).length : Int) < ((ordL t.Attrs.length).length : Int)) by omega)])
  rw [h, ← foldl_pairs (stepA P) t.Attrs.length]
  have hw := walk_good P hn (pairsN t.Attrs.length) [] (by simp)
  unfold pairsN at hw
  rw [hw]; rfl

/-! ### the reference's least sets -/
theorem size_ones : ∀ x ∈ List.range 64, sizeN x = ones32 x := by decide +kernel
theorem Before_eq {a b : Nat} (ha : a < 64) (hb : b < 64) : drossref02_Before (a : Int) (b : Int) = some (decide (lexN a b)) := by
  have e1 := size_ones a (List.mem_range.2 ha)
  have e2 := size_ones b (List.mem_range.2 hb)
  simp only [drossref02_Before, ref_Size_eq (show a < 4294967296 by omega), ref_Size_eq (show b < 4294967296 by omega), Option.bind_some, e1, e2]
  by_cases h : ones32 a = ones32 b
  · have hne : ¬ (((ones32 a : Nat) : Int) != ((ones32 b : Nat) : Int)) = true := by simp [h]
    rw [if_neg hne]
    congr 1
    rw [decide_eq_decide]
    unfold lexN
    omega
  · have hne : (((ones32 a : Nat) : Int) != ((ones32 b : Nat) : Int)) = true := by simp; omega
    rw [if_pos hne]
    congr 1
    rw [decide_eq_decide]
    unfold lexN
    omega
theorem In_eq (l : List Int) (x : Int) (hl : l.length ≤ 4611686018427387904) : drossref02_In l x = some (decide (x ∈ l)) := by
  have h := LoopF_all l (drossref02_In_l1 l x) (fun y => !(y == x)) true
    (fun k y hx hk hp => by
      simp only [Bool.not_eq_true'] at hp
      simp only [drossref02_In_l1, if_pos (lt_true hx), idx_get hx, Option.bind_some, hp, Bool.false_eq_true, if_false, wrap_succ hk hl])
    (fun k y hx hp => by
      simp only [Bool.not_eq_false'] at hp
      simp only [drossref02_In_l1, if_pos (lt_true hx), idx_get hx, Option.bind_some, hp, if_true])
    (by simp [drossref02_In_l1])
  simp only [drossref02_In, h, Option.bind_some]
  by_cases hm : x ∈ l
  · have : l.all (fun y => !(y == x)) = false := by rw [List.all_eq_false]; exact ⟨x, hm, by simp⟩
    simp [this, hm]
  · have : l.all (fun y => !(y == x)) = true := by
      rw [List.all_eq_true]
      intro y hy
      simp only [Bool.not_eq_true', beq_eq_false_iff_ne]
      intro e; rw [e] at hy; exact hm hy
    simp [this, hm]
def natI (l : List Nat) : List Int := l.map fun (k : Nat) => (k : Int)
theorem natI_get {l : List Nat} {k x : Nat} (h : l[k]? = some x) : (natI l)[k]? = some (x : Int) := by unfold natI; rw [List.getElem?_map, h]; rfl
theorem natI_len (l : List Nat) : (natI l).length = l.length := by simp [natI]
theorem natI_mem (l : List Nat) (x : Nat) : (x : Int) ∈ natI l ↔ x ∈ l := by
  unfold natI
  rw [List.mem_map]
  constructor
  · rintro ⟨y, hy, e⟩
    have : y = x := by omega
    rw [← this]; exact hy
  · intro h; exact ⟨x, h, rfl⟩
theorem natI_snoc (l : List Nat) (x : Nat) : natI l ++ [(x : Int)] = natI (l ++ [x]) := by simp [natI]
theorem Order_same (l : List Nat) (hs : l.Pairwise lexN) (hl : ∀ x ∈ l, x < 64) (hlen : l.length ≤ 1000) : drossref02_Order (natI l) = some (natI l) := by
  have key : ∀ (r k : Nat), k + r = l.length → LoopF (drossref02_Order_l4 (natI l)) (natI (l.take k), (k : Int)) = some (natI l) := by
    intro r
    induction r with
    | zero =>
      intro k hk
      have : k = l.length := by omega
      subst this
      rw [List.take_length]
      refine Loop_done ?_
      simp [drossref02_Order_l4, natI_len]
    | succ r ih =>
      intro k hk
      have hkl : k < l.length := by omega
      have hx : l[k]? = some l[k] := List.getElem?_eq_getElem hkl
      generalize hxe : l[k] = x at hx
      have hxm : x ∈ l := List.mem_of_getElem? hx
      have hni : drossref02_In (natI (l.take k)) (x : Int) = some false := by
        rw [In_eq _ _ (by rw [natI_len, List.length_take]; omega)]
        congr 1
        rw [decide_eq_false_iff_not, natI_mem]
        intro hm
        obtain ⟨j, hj⟩ := List.mem_iff_getElem?.1 hm
        have hjk : j < k := by have := lt_of_get hj; rw [List.length_take] at this; omega
        rw [List.getElem?_take, if_pos hjk] at hj
        obtain ⟨hj1, hj2⟩ := List.getElem?_eq_some_iff.1 hj
        have := List.pairwise_iff_getElem.1 hs j k hj1 hkl hjk
        rw [hj2, hxe] at this
        exact lexN_irr _ this
      have htk : l.take (k + 1) = l.take k ++ [x] := by rw [List.take_add_one, hx]; rfl
      have htl : (natI (l.take k)).length = k := by rw [natI_len, List.length_take]; omega
      have hin : LoopF drossref02_Order_l3 (natI (l.take k) ++ [(x : Int)], (k : Int)) = some (natI (l.take k) ++ [(x : Int)]) := by
        refine Loop_done ?_
        by_cases h0 : k = 0
        · subst h0; simp [drossref02_Order_l3]
        · have hpl : k - 1 < l.length := by omega
          have hy : l[k - 1]? = some l[k - 1] := List.getElem?_eq_getElem hpl
          generalize hye : l[k - 1] = y at hy
          have hlex : lexN y x := by
            have := List.pairwise_iff_getElem.1 hs (k - 1) k hpl hkl (by omega)
            rwa [hye, hxe] at this
          have hw : IntKind.i64.wrap ((k : Int) - 1) = ((k - 1 : Nat) : Int) := by rw [wrap_i64 (by omega) (by omega)]; omega
          have g1 : (natI (l.take k) ++ [(x : Int)])[k]? = some (x : Int) := by
            rw [List.getElem?_append_right (by omega), htl, Nat.sub_self]; rfl
          have g2 : (natI (l.take k) ++ [(x : Int)])[k - 1]? = some (y : Int) := by
            rw [List.getElem?_append_left (by omega)]
            exact natI_get (by rw [List.getElem?_take, if_pos (by omega)]; exact hy)
          have hb := Before_eq (hl x hxm) (hl y (List.mem_of_getElem? hy))
          rw [decide_eq_false (lexN_asym hlex)] at hb
          simp only [drossref02_Order_l3, if_pos (show (k : Int) > 0 by omega), idx_get g1, hw, idx_get g2, Option.bind_some, hb, Bool.false_eq_true, if_false]
      have hr : roomB ((natI (l.take k)).length + 1) 4 = true := room_le (by omega) (by omega)
      have hw2 : IntKind.i64.wrap (((((natI (l.take k)).length + 1 : Nat)) : Int) - 1) = (k : Int) := by rw [htl, wrap_i64 (by omega) (by omega)]; omega
      refine (Loop_next ?_).trans (ih (k + 1) (by omega))
      rw [htk, ← natI_snoc]
      simp only [drossref02_Order_l4, natI_len, if_pos (show (k : Int) < (l.length : Int) by omega), idx_get (natI_get hx), Option.bind_some, hni, Bool.false_eq_true, if_false, if_true]
      rw [natI_len] at hr hw2
      simp only [hr, if_true, hw2, hin, Option.bind_some, wrap_nat (show k < 4611686018427387904 by omega)]
  have h := key l.length 0 (by omega)
  simp only [drossref02_Order]
  rw [show (([] : List Int), (0 : Int)) = (natI (l.take 0), ((0 : Nat) : Int)) from rfl, h]
  rfl
theorem Sub_B {y x : Nat} (hy : y < 4294967296) (hx : x < 4294967296) : drossref02_Sub (y : Int) (x : Int) = some (subB y x) := by
  simp only [drossref02_Sub, w32_and hy hx]
  congr 1
  unfold subB
  rw [Bool.eq_iff_iff, beq_iff_eq, decide_eq_true_eq]
  omega
def minL (l : List Nat) : List Nat := l.filter fun x => l.all fun y => decide (y = x) || !subB y x
theorem fold_and {α : Type} (p : α → Bool) : ∀ (l : List α) (b : Bool), l.foldl (fun b y => b && p y) b = (b && l.all p)
  | [], b => by simp
  | y :: l, b => by rw [List.foldl_cons, fold_and p l]; simp [Bool.and_assoc]
theorem Minimal_l3_eq (l : List Nat) (hnd : l.Nodup) (hl : ∀ x ∈ l, x < 64) (hlen : l.length ≤ 1000) {i x : Nat} (hx : l[i]? = some x) :
    LoopF (drossref02_Minimal_l3 (natI l) (i : Int)) (true, 0) = some (l.all fun y => decide (y = x) || !subB y x) := by
  have hxm := hl x (List.mem_of_getElem? hx)
  have h := LoopF_foldl l (fun (b : Bool) k => (b, k)) (drossref02_Minimal_l3 (natI l) (i : Int)) (fun b y => b && (decide (y = x) || !subB y x)) id (fun _ _ => True) (b0 := true) (s0 := (true, 0)) rfl trivial
    (fun k b y hy hk _ => by
      refine ⟨?_, trivial⟩
      have hw := wrap_nat (show k < 4611686018427387904 by omega)
      have hym := hl y (List.mem_of_getElem? hy)
      have hs := Sub_B (show y < 4294967296 by omega) (show x < 4294967296 by omega)
      have hki : (((k : Int) == (i : Int))) = decide (y = x) := by
        rw [Bool.eq_iff_iff, beq_iff_eq, decide_eq_true_eq]
        constructor
        · intro e
          have : k = i := by omega
          subst this
          rw [hx] at hy; exact (Option.some.inj hy).symm
        · intro e
          subst e
          have := (List.getElem?_inj (lt_of_get hy) hnd).1 (hy.trans hx.symm)
          omega
      simp only [drossref02_Minimal_l3, natI_len, if_pos (show (k : Int) < (l.length : Int) by omega), hki, idx_get (natI_get hy), idx_get (natI_get hx), Option.bind_some, hs, hw]
      cases b
      · simp
      · by_cases e : y = x <;> simp [e])
    (fun b _ => by simp [drossref02_Minimal_l3, natI_len])
  rw [h, fold_and]; simp
theorem lex_nodup {l : List Nat} (hs : l.Pairwise lexN) : l.Nodup := hs.imp fun {a b} h e => by subst e; exact lexN_irr _ h
theorem Minimal_lex (l : List Nat) (hs : l.Pairwise lexN) (hl : ∀ x ∈ l, x < 64) (hlen : l.length ≤ 1000) : drossref02_Minimal (natI l) = some (natI (minL l)) := by
  have h := LoopF_foldl l (fun (o : List Int) k => (o, k)) (drossref02_Minimal_l4 (natI l)) (fun o x => if (l.all fun y => decide (y = x) || !subB y x) = true then o ++ [(x : Int)] else o) id (fun k o => o.length ≤ k) (b0 := []) (s0 := ([], 0)) rfl (by simp)
    (fun k o x hx hk hI => by
      have hw := wrap_nat (show k < 4611686018427387904 by omega)
      have hr : roomB (o.length + 1) 4 = true := room_le (by omega) (by omega)
      refine ⟨?_, ?_⟩
      · simp only [drossref02_Minimal_l4, natI_len, if_pos (show (k : Int) < (l.length : Int) by omega), Minimal_l3_eq l (lex_nodup hs) hl hlen hx, Option.bind_some, idx_get (natI_get hx), hr, if_true, hw]
        split <;> rfl
      · split
        · simp; omega
        · omega)
    (fun o _ => by simp [drossref02_Minimal_l4, natI_len])
  simp only [drossref02_Minimal, Order_same l hs hl hlen, Option.bind_some, h]
  rw [foldl_keepM]; rfl
end Go.Proofs.YtjcdclpfeflfkaaGreatDoor
/- Least sets: both layers give the same list. -/
set_option linter.unusedVariables false
set_option linter.unusedSimpArgs false
namespace Go.Ab
open Go
theorem insV_perm {α : Type} (lt : α → α → Bool) (x : α) : ∀ p : List α, (insV lt x p).Perm (x :: p)
  | [] => List.Perm.refl _
  | y :: p => by
    simp only [insV]
    split
    · exact ((insV_perm lt x p).cons y).trans (List.Perm.swap x y p)
    · exact List.Perm.refl _
def srtV {α : Type} (lt : α → α → Bool) (l : List α) : List α := (l.foldl (fun p x => insV lt x p) []).reverse
theorem foldV_perm {α : Type} (lt : α → α → Bool) : ∀ (l p : List α), (l.foldl (fun p x => insV lt x p) p).Perm (l ++ p)
  | [], p => List.Perm.refl _
  | x :: l, p => by
    rw [List.foldl_cons]
    exact (foldV_perm lt l _).trans (((insV_perm lt x p).append_left l).trans (by simp))
theorem srtV_perm {α : Type} (lt : α → α → Bool) (l : List α) : (srtV lt l).Perm l := by
  unfold srtV
  have := foldV_perm lt l []
  rw [List.append_nil] at this
  exact (List.reverse_perm _).trans this
theorem foldV_sorted {α : Type} (lt : α → α → Bool) (asym : ∀ x y, lt x y = true → lt y x = false) (ntr : ∀ x y z, lt x y = false → lt y z = false → lt x z = false) : ∀ (l p : List α), p.Pairwise (fun a b => lt a b = false) → (l.foldl (fun p x => insV lt x p) p).Pairwise (fun a b => lt a b = false)
  | [], p, h => h
  | x :: l, p, h => foldV_sorted lt asym ntr l _ (insV_sorted lt asym ntr x p h)
theorem srtV_sorted {α : Type} (lt : α → α → Bool) (asym : ∀ x y, lt x y = true → lt y x = false) (ntr : ∀ x y z, lt x y = false → lt y z = false → lt x z = false) (l : List α) : (srtV lt l).Pairwise (fun a b => lt b a = false) := by
  unfold srtV
  rw [List.pairwise_reverse]
  exact foldV_sorted lt asym ntr l [] List.Pairwise.nil
theorem foldV_len {α : Type} (lt : α → α → Bool) : ∀ (l p : List α), (l.foldl (fun p x => insV lt x p) p).length = l.length + p.length := fun l p => by
  rw [(foldV_perm lt l p).length_eq, List.length_append]
/-- the whole sorting -/
theorem srtV_loop {α : Type} (lt : α → α → Bool) (ok : α → Prop) (N : Nat) (hN : N ≤ 1000000) (B D : List α × Int → Option (LS (List α × Int) (List α)))
    (hB : ∀ (p : List α) (y x : α) (suf : List α), p.length + suf.length + 2 ≤ N → (∀ z ∈ p, ok z) → ok y → ok x → B (p.reverse ++ y :: x :: suf, ((p.length + 1 : Nat) : Int)) = if lt x y = true then some (.next (p.reverse ++ x :: y :: suf, (p.length : Int))) else some (.done (p.reverse ++ y :: x :: suf)))
    (hB0 : ∀ data, B (data, 0) = some (.done data))
    (hD : ∀ (data : List α) (i : Nat) l, data.length ≤ N → i < data.length → LoopF B (data, (i : Int)) = some l → D (data, (i : Int)) = some (.next (l, ((i + 1 : Nat) : Int))))
    (hD0 : ∀ (data : List α) (i : Nat), data.length ≤ i → i ≤ N + 1 → D (data, (i : Int)) = some (.done data)) (l : List α) (hl : l.length ≤ N) (hok : ∀ z ∈ l, ok z) : LoopF D (l, 1) = some (srtV lt l) := by
  have key : ∀ (r i : Nat), i + r = l.length → LoopF D (((l.take i).foldl (fun p x => insV lt x p) []).reverse ++ l.drop i, (i : Int)) = some (srtV lt l) := by
    intro r
    induction r with
    | zero =>
      intro i hi
      have : i = l.length := by omega
      subst this
      rw [List.take_length, List.drop_length, List.append_nil]
      refine Loop_done (hD0 _ _ ?_ (by omega))
      rw [List.length_reverse, foldV_len]; simp
    | succ r ih =>
      intro i hi
      have hil : i < l.length := by omega
      have hx : l[i]? = some l[i] := List.getElem?_eq_getElem hil
      have hd : l.drop i = l[i] :: l.drop (i + 1) := List.drop_eq_getElem_cons hil
      have hxok : ok l[i] := hok _ (List.mem_of_getElem? hx)
      generalize l[i] = x at *
      have hpl : ((l.take i).foldl (fun p x => insV lt x p) []).length = i := by rw [foldV_len, List.length_take]; simp; omega
      have hpm : ∀ z ∈ (l.take i).foldl (fun p x => insV lt x p) [], ok z := fun z hz => by
        have := (foldV_perm lt (l.take i) []).mem_iff.1 hz
        rw [List.append_nil] at this
        exact hok z (List.mem_of_mem_take this)
      have hin := insV_loop lt ok N B hB hB0 ((l.take i).foldl (fun p x => insV lt x p) []) x (l.drop (i + 1)) (by rw [hpl, List.length_drop]; omega) hpm hxok
      rw [hpl] at hin
      have ht : l.take (i + 1) = l.take i ++ [x] := by rw [List.take_add_one, hx]; rfl
      have := ih (i + 1) (by omega)
      rw [ht, List.foldl_append] at this
      simp only [List.foldl_cons, List.foldl_nil] at this
      rw [hd]
      refine (Loop_next (hD _ i _ ?_ ?_ hin)).trans this
      · rw [List.length_append, List.length_reverse, hpl, List.length_cons, List.length_drop]; omega
      · rw [List.length_append, List.length_reverse, hpl, List.length_cons]; omega
  cases l with
  | nil => exact Loop_done (by have := hD0 [] 1 (by simp) (by omega); exact this)
  | cons x l => exact key l.length 1 (by simp; omega)
end Go.Ab
namespace Go.Proofs.YtjcdclpfeflfkaaGreatDoor
open Go Go.Ab
def sA (n a : Nat) : Nat := ndiff (2 ^ n - 1) (2 ^ a)
theorem sA_bit {n a : Nat} (k : Nat) : (sA n a).testBit k = (decide (k < n) && decide (k ≠ a)) := by
  unfold sA
  rw [ndiff_bit, Nat.testBit_two_pow_sub_one, Nat.testBit_two_pow]
  congr 1
  by_cases h : a = k
  · subst h; simp
  · simp [h, Ne.symm h]
theorem sA_lt {n : Nat} (a : Nat) (hn : n ≤ 4) : sA n a < 64 := by
  have : sA n a < 2 ^ n := lt_bits fun i hi => by rw [sA_bit]; simp; omega
  have h2 : 2 ^ n ≤ 2 ^ 4 := Nat.pow_le_pow_right (by omega) hn
  omega
theorem subs_all : ∀ s ∈ List.range 64, (subsR s).Pairwise lexN ∧ (subsR s).length ≤ 64 := by decide +kernel
theorem subA_iff {n a x : Nat} : subB x (sA n a) = true ↔ x < 2 ^ n ∧ x.testBit a = false := by
  rw [subB_iff]
  constructor
  · intro h
    refine ⟨lt_bits fun i hi => ?_, ?_⟩
    · cases hb : x.testBit i with
      | false => rfl
      | true => have := h i hb; rw [sA_bit] at this; simp at this; omega
    · cases hb : x.testBit a with
      | false => rfl
      | true => have := h a hb; rw [sA_bit] at this; simp at this
  · rintro ⟨h1, h2⟩ k hk
    rw [sA_bit]
    have hkn : k < n := by
      apply Classical.byContradiction
      intro hc
      rw [bit_lt h1 (by omega)] at hk; cases hk
    have hka : k ≠ a := by intro e; rw [e, h2] at hk; cases hk
    simp [hkn, hka]
def goodA (P : Nat → Nat → Bool) (n a : Nat) : List Nat := (subsR (sA n a)).filter fun x => P x a
theorem subs_mem {n a x : Nat} (hn : n ≤ 4) : x ∈ subsR (sA n a) ↔ subB x (sA n a) = true := by
  rw [subsR_mem (sA_lt a hn), subB_iff]
theorem goodA_mem {P : Nat → Nat → Bool} {n a x : Nat} (hn : n ≤ 4) : x ∈ goodA P n a ↔ x < 2 ^ n ∧ x.testBit a = false ∧ P x a = true := by
  unfold goodA
  rw [List.mem_filter, subs_mem hn, subA_iff, and_assoc]
theorem goodA_lex {P : Nat → Nat → Bool} {n a : Nat} (hn : n ≤ 4) : (goodA P n a).Pairwise lexN :=
  List.Pairwise.sublist List.filter_sublist (subs_all _ (List.mem_range.2 (sA_lt a hn))).1
theorem goodA_len {P : Nat → Nat → Bool} {n a : Nat} (hn : n ≤ 4) : (goodA P n a).length ≤ 64 :=
  Nat.le_trans (List.length_filter_le _ _) (subs_all _ (List.mem_range.2 (sA_lt a hn))).2
theorem goodA_lt {P : Nat → Nat → Bool} {n a x : Nat} (hn : n ≤ 4) (h : x ∈ goodA P n a) : x < 64 := by
  have := ((goodA_mem hn).1 h).1
  have h2 : 2 ^ n ≤ 2 ^ 4 := Nat.pow_le_pow_right (by omega) hn
  omega
def refP (P : Nat → Nat → Bool) (n : Nat) : List (Nat × Nat) := (List.range n).flatMap fun a => (minL (goodA P n a)).map fun x => (x, a)
theorem refP_mem {P : Nat → Nat → Bool} {n : Nat} (hn : n ≤ 4) (q : Nat × Nat) : q ∈ refP P n ↔ q ∈ ansN P n := by
  unfold refP ansN
  rw [List.mem_flatMap, List.mem_filter, pairs_mem hn, good_iff]
  constructor
  · rintro ⟨a, ha, hq⟩
    obtain ⟨x, hx, rfl⟩ := List.mem_map.1 hq
    obtain ⟨h1, h2⟩ := List.mem_filter.1 hx
    obtain ⟨g1, g2, g3⟩ := (goodA_mem hn).1 h1
    rw [List.all_eq_true] at h2
    refine ⟨⟨g1, List.mem_range.1 ha⟩, g2, g3, fun y hy hs hne => ?_⟩
    cases hp : P y a with
    | false => rfl
    | true =>
      have hyb : y.testBit a = false := by
        cases hb : y.testBit a with
        | false => rfl
        | true => have := (subB_iff y x).1 hs a hb; rw [g2] at this; cases this
      have := h2 y ((goodA_mem hn).2 ⟨hy, hyb, hp⟩)
      simp only at hs hne
      simp [hs, hne] at this
  · rintro ⟨⟨h1, h2⟩, h3, h4, h5⟩
    refine ⟨q.2, List.mem_range.2 h2, List.mem_map.2 ⟨q.1, List.mem_filter.2 ⟨(goodA_mem hn).2 ⟨h1, h3, h4⟩, ?_⟩, rfl⟩⟩
    rw [List.all_eq_true]
    intro y hy
    obtain ⟨g1, g2, g3⟩ := (goodA_mem hn).1 hy
    by_cases hs : subB y q.1 = true
    · by_cases hne : y = q.1
      · simp [hne]
      · have := h5 y g1 hs hne
        rw [g3] at this; cases this
    · simp [hs]
theorem refP_nodup {P : Nat → Nat → Bool} {n : Nat} (hn : n ≤ 4) : (refP P n).Nodup := by
  unfold refP List.Nodup
  rw [List.pairwise_flatMap]
  constructor
  · intro a ha
    rw [List.pairwise_map]
    have h1 : (minL (goodA P n a)).Pairwise lexN := List.Pairwise.sublist List.filter_sublist (goodA_lex hn)
    exact h1.imp fun {x y} h e => by
      have : x = y := congrArg Prod.fst e
      rw [this] at h; exact lexN_irr _ h
  · refine List.Pairwise.imp ?_ List.pairwise_lt_range
    intro a b hab x hx y hy e
    obtain ⟨u, _, rfl⟩ := List.mem_map.1 hx
    obtain ⟨v, _, rfl⟩ := List.mem_map.1 hy
    have : a = b := congrArg Prod.snd e
    omega
theorem ansN_nodup {P : Nat → Nat → Bool} {n : Nat} (hn : n ≤ 4) : (ansN P n).Nodup := by
  have h : (ansN P n).Pairwise befN := List.Pairwise.sublist List.filter_sublist (pairs_sorted hn)
  exact h.imp fun {x y} h e => by
    subst e
    rcases h with h | ⟨_, h⟩
    · exact lexN_irr _ h
    · omega
def ltF (z w : FD) : Bool := decide (lexN z.Lhs.toNat w.Lhs.toNat) || (decide (z.Lhs.toNat = w.Lhs.toNat) && decide (z.Rhs < w.Rhs))
theorem ltF_iff (z w : FD) : ltF z w = true ↔ lexN z.Lhs.toNat w.Lhs.toNat ∨ (z.Lhs.toNat = w.Lhs.toNat ∧ z.Rhs < w.Rhs) := by
  unfold ltF
  rw [Bool.or_eq_true, Bool.and_eq_true, decide_eq_true_eq, decide_eq_true_eq, decide_eq_true_eq]
theorem ltF_false (z w : FD) : ltF z w = false ↔ ¬ (lexN z.Lhs.toNat w.Lhs.toNat ∨ (z.Lhs.toNat = w.Lhs.toNat ∧ z.Rhs < w.Rhs)) := by
  rw [← ltF_iff]; simp
theorem ltF_asym (z w : FD) (h : ltF z w = true) : ltF w z = false := by
  rw [ltF_iff] at h
  rw [ltF_false]
  have e : z.Lhs.toNat = w.Lhs.toNat → ones32 z.Lhs.toNat = ones32 w.Lhs.toNat := fun e => by rw [e]
  unfold lexN at *
  generalize z.Lhs.toNat = a at *
  generalize w.Lhs.toNat = b at *
  omega
theorem ltF_ntr (x y z : FD) (h1 : ltF x y = false) (h2 : ltF y z = false) : ltF x z = false := by
  rw [ltF_false] at *
  have e1 : x.Lhs.toNat = y.Lhs.toNat → ones32 x.Lhs.toNat = ones32 y.Lhs.toNat := fun e => by rw [e]
  have e2 : y.Lhs.toNat = z.Lhs.toNat → ones32 y.Lhs.toNat = ones32 z.Lhs.toNat := fun e => by rw [e]
  have e3 : x.Lhs.toNat = z.Lhs.toNat → ones32 x.Lhs.toNat = ones32 z.Lhs.toNat := fun e => by rw [e]
  unfold lexN at *
  generalize x.Lhs.toNat = a at *
  generalize y.Lhs.toNat = b at *
  generalize z.Lhs.toNat = c at *
  omega
theorem same_list {P : Nat → Nat → Bool} {n : Nat} (hn : n ≤ 4) : srtV ltF ((refP P n).map fdQ) = (ansN P n).map fdQ := by
  have hperm : (refP P n).Perm (ansN P n) := (List.perm_ext_iff_of_nodup (refP_nodup hn) (ansN_nodup hn)).2 fun q => refP_mem hn q
  have hp : (srtV ltF ((refP P n).map fdQ)).Perm ((ansN P n).map fdQ) := (srtV_perm _ _).trans (hperm.map fdQ)
  refine List.Perm.eq_of_pairwise (le := fun a b => ltF b a = false) (fun a b ha hb h1 h2 => ?_) (srtV_sorted ltF ltF_asym ltF_ntr _) ?_ hp
  · obtain ⟨q, _, rfl⟩ := List.mem_map.1 (hp.mem_iff.1 ha)
    obtain ⟨z, _, rfl⟩ := List.mem_map.1 hb
    rw [ltF_false] at h1 h2
    unfold fdQ at *
    simp only [Int.toNat_natCast] at h1 h2
    unfold lexN at h1 h2
    have e1 : q.1 = z.1 := by omega
    congr 1
    · omega
    · omega
  · rw [List.pairwise_map]
    have h : (ansN P n).Pairwise befN := List.Pairwise.sublist List.filter_sublist (pairs_sorted hn)
    refine h.imp fun {q z} hq => ltF_asym _ _ ?_
    rw [ltF_iff]
    unfold fdQ
    simp only [Int.toNat_natCast]
    rcases hq with h | ⟨h1, h2⟩
    · exact .inl h
    · refine .inr ⟨h1, ?_⟩
      have := Nat.pow_lt_pow_right (show 1 < 2 by omega) h2
      omega
/-! ### the reference's sorting -/
def okF (z : FD) : Prop := ∃ x a : Nat, z = fdQ (x, a) ∧ x < 64 ∧ a < 32
theorem before_F {z w : FD} (hz : okF z) (hw : okF w) : drossref28_before z w = some (ltF z w) := by
  obtain ⟨x, a, rfl, hx, ha⟩ := hz
  obtain ⟨y, b, rfl, hy, hb⟩ := hw
  simp only [drossref28_before, fdQ, Before_eq hx hy, Option.bind_some]
  by_cases h : x = y
  · subst h
    have : ((x : Int) != (x : Int)) = false := by simp
    rw [this]
    simp only [Bool.false_eq_true, if_false]
    congr 1
    rw [Bool.eq_iff_iff, ltF_iff]
    constructor
    · intro h; exact .inr ⟨rfl, of_decide_eq_true h⟩
    · rintro (h | h)
      · exact absurd h (lexN_irr _)
      · exact decide_eq_true h.2
  · have : ((x : Int) != (y : Int)) = true := by simp; omega
    rw [this]
    simp only [if_true]
    congr 1
    rw [Bool.eq_iff_iff, ltF_iff, decide_eq_true_eq]
    simp only [Int.toNat_natCast, h, false_and, or_false]
theorem Sorted_eq (l : List FD) (hl : l.length ≤ 1000) (hok : ∀ z ∈ l, okF z) : drossref28_Sorted l = some (srtV ltF l) := by
  have h := srtV_loop ltF okF 1000 (by omega) drossref28_Sorted_l3 drossref28_Sorted_l4
    (fun p y x suf hl' hp hy hx => by
      have hpl : p.reverse.length = p.length := List.length_reverse
      have hw : IntKind.i64.wrap (((p.length + 1 : Nat) : Int) - 1) = (p.length : Int) := by rw [wrap_i64 (by omega) (by omega)]; omega
      have g1 := two_x p.reverse y x suf p.length hpl
      have g2 := two_y p.reverse y x suf p.length hpl
      have g3 := two_set p.reverse y x suf p.length hpl
      have g4 := two_set1 p.reverse y x suf p.length hpl
      simp only [drossref28_Sorted_l3, if_pos (show ((p.length + 1 : Nat) : Int) > 0 by omega), idx_get g1, hw, idx_get g2, Option.bind_some, before_F hx hy, Int.toNat_natCast, idx_get g4, g3])
    (fun data => by simp [drossref28_Sorted_l3])
    (fun data i l hd hi hL => by
      simp only [drossref28_Sorted_l4, if_pos (show (i : Int) < (data.length : Int) by omega), hL, Option.bind_some, wrap_nat (show i < 4611686018427387904 by omega)])
    (fun data i hi hi2 => by
      simp only [drossref28_Sorted_l4, if_neg (show ¬ ((i : Int) < (data.length : Int)) by omega)])
    l hl hok
  have hr : roomB l.length 8 = true := room_le (by omega) (by omega)
  simp only [drossref28_Sorted, hr, if_true, h, Option.bind_some]
theorem Same09_self (l : List FD) (hl : l.length ≤ 1000000) : drossref09_Same l l = some true := by
  have h := LoopF_all l (drossref09_Same_l1 l l) (fun _ => true) false
    (fun k x hx hk _ => by
      simp only [drossref09_Same_l1, if_pos (lt_true hx), idx_get hx, Option.bind_some, beq_self_eq_true, Bool.and_self, if_true, wrap_succ hk (show l.length ≤ 4611686018427387904 by omega)])
    (fun k x hx hp => by cases hp)
    (by simp [drossref09_Same_l1])
  have ht : (l.all fun _ => true) = true := by simp
  simp only [drossref09_Same, h, ht, if_true, Option.bind_some, bne_self_eq_false, Bool.false_eq_true, if_false]
theorem refP_len {P : Nat → Nat → Bool} {n : Nat} (hn : n ≤ 4) : (refP P n).length ≤ 64 := by
  have hperm : (refP P n).Perm (ansN P n) := (List.perm_ext_iff_of_nodup (refP_nodup hn) (ansN_nodup hn)).2 fun q => refP_mem hn q
  rw [hperm.length_eq]
  unfold ansN
  have h1 := List.length_filter_le (goodB P n) (pairsN n)
  have h2 : ∀ n ∈ List.range 5, (pairsN n).length ≤ 64 := by decide +kernel
  have := h2 n (List.mem_range.2 (by omega))
  omega
theorem ansN_len {P : Nat → Nat → Bool} {n : Nat} (hn : n ≤ 4) : ((ansN P n).map fdQ).length ≤ 64 := by
  rw [List.length_map]
  have hperm : (refP P n).Perm (ansN P n) := (List.perm_ext_iff_of_nodup (refP_nodup hn) (ansN_nodup hn)).2 fun q => refP_mem hn q
  rw [← hperm.length_eq]; exact refP_len hn
theorem Sorted_ref {P : Nat → Nat → Bool} {n : Nat} (hn : n ≤ 4) : drossref28_Sorted ((refP P n).map fdQ) = some ((ansN P n).map fdQ) := by
  rw [Sorted_eq _ (by rw [List.length_map]; have := refP_len (P := P) hn; omega) (fun z hz => ?_), same_list hn]
  obtain ⟨q, hq, rfl⟩ := List.mem_map.1 hz
  have := (refP_mem hn q).1 hq
  obtain ⟨h1, _⟩ := List.mem_filter.1 this
  obtain ⟨h2, h3⟩ := (pairs_mem hn q).1 h1
  have h4 : 2 ^ n ≤ 2 ^ 4 := Nat.pow_le_pow_right (by omega) hn
  exact ⟨q.1, q.2, rfl, by omega, by omega⟩
/-- the loop that puts the least sets of one attribute into the list -/
theorem put_loop (a : Nat) (L : List Nat) (hL : L.length ≤ 64) (B : List FD × Int → Option (LS (List FD × Int) (List FD))) (out : List FD) (ho : out.length ≤ 1000)
    (hB : ∀ (k : Nat) (x : Nat) (o : List FD), L[k]? = some x → k < L.length → o.length ≤ 2000 → B (o, (k : Int)) = some (.next (o ++ [fdQ (x, a)], ((k + 1 : Nat) : Int))))
    (hE : ∀ o, B (o, (L.length : Int)) = some (.done o)) : LoopF B (out, 0) = some (out ++ L.map fun x => fdQ (x, a)) := by
  have h := LoopF_foldl L (fun (o : List FD) k => (o, k)) B (fun o x => o ++ [fdQ (x, a)]) id (fun k o => o.length = out.length + k) (b0 := out) (s0 := (out, 0)) rfl (by simp)
    (fun k o x hx hk hI => ⟨hB k x o hx hk (by omega), by simp; omega⟩) (fun o _ => hE o)
  rw [h]
  have : ∀ (l : List Nat) (o : List FD), l.foldl (fun o x => o ++ [fdQ (x, a)]) o = o ++ l.map fun x => fdQ (x, a) := by
    intro l
    induction l with
    | nil => intro o; simp
    | cons x l ih => intro o; rw [List.foldl_cons, ih]; simp
  rw [this]; rfl
theorem refP_map (P : Nat → Nat → Bool) (n : Nat) : (refP P n).map fdQ = (List.range n).flatMap fun a => (minL (goodA P n a)).map fun x => fdQ (x, a) := by
  unfold refP
  rw [List.map_flatMap]
  congr 1
  funext a
  rw [List.map_map]; rfl
/-- the loop over the attributes -/
theorem attr_loop {P : Nat → Nat → Bool} {n : Nat} (hn : n ≤ 4) (B : List FD × Int → Option (LS (List FD × Int) (List FD)))
    (hB : ∀ (a : Nat) (o : List FD), a < n → o.length ≤ 1000 → B (o, (a : Int)) = some (.next (o ++ (minL (goodA P n a)).map (fun x => fdQ (x, a)), ((a + 1 : Nat) : Int))))
    (hE : ∀ o, B (o, (n : Int)) = some (.done o)) : LoopF B ([], 0) = some ((refP P n).map fdQ) := by
  have h := LoopF_foldl (List.range n) (fun (o : List FD) k => (o, k)) B (fun o a => o ++ (minL (goodA P n a)).map fun x => fdQ (x, a)) id (fun k o => o.length ≤ k * 64) (b0 := []) (s0 := ([], 0)) rfl (by simp)
    (fun k o x hx hk hI => by
      obtain ⟨rfl, hk'⟩ := range_at hx
      refine ⟨hB x o hk' (by omega), ?_⟩
      rw [List.length_append, List.length_map]
      have h1 : (minL (goodA P n x)).length ≤ (goodA P n x).length := List.length_filter_le _ _
      have h2 := goodA_len (P := P) (a := x) hn
      omega)
    (fun o _ => by rw [List.length_range]; exact hE o)
  rw [h, foldl_app, refP_map]; simp
theorem minL_len (l : List Nat) : (minL l).length ≤ l.length := List.length_filter_le _ _
end Go.Proofs.YtjcdclpfeflfkaaGreatDoor
/- Least dependencies within an error: both layers. -/
set_option linter.unusedVariables false
set_option linter.unusedSimpArgs false
namespace Go.Proofs.YtjcdclpfeflfkaaGreatDoor
open Go Go.Ab

/-- the error of a set and an attribute -/
def ratE (t : Table) (m x a : Nat) : Ratio := ratioN (errN t x (x ||| 2 ^ a) m) (eD t m)
theorem pow_in {n a : Nat} (h : a < n) : 2 ^ a < 2 ^ n := Nat.pow_lt_pow_right (by omega) h
theorem sA_wrap {n a : Nat} (hn : n ≤ 4) (ha : a < n) : IntKind.u32.wrap ((BitVec.ofInt 32 ((2 ^ n - 1 : Nat) : Int) &&& ~~~ (BitVec.ofInt 32 (IntKind.u32.wrap (1 * 2 ^ (min a 32))))).toNat : Int) = ((sA n a : Nat) : Int) := by
  have hp : 2 ^ n < 4294967296 := pow_lt (by omega)
  rw [w32_shl1 (show a < 32 by omega), w32_diff (show 2 ^ n - 1 < 4294967296 by omega) (pow_lt (show a < 32 by omega))]
  rfl
theorem subs_len {n : Nat} (a : Nat) (hn : n ≤ 4) : (subsR (sA n a)).length ≤ 64 := (subs_all _ (List.mem_range.2 (sA_lt a hn))).2
theorem subs_lt {n a x : Nat} (hn : n ≤ 4) (h : x ∈ subsR (sA n a)) : x < 2 ^ n := (subA_iff.1 ((subs_mem hn).1 h)).1
/-- a loop that keeps the sets of a family -/
theorem fam_loop (l : List Nat) (hl : l.length ≤ 64) (p : Nat → Bool) (B : List Int × Int → Option (LS (List Int × Int) (List Int)))
    (hB : ∀ (k x : Nat) (o : List Int), l[k]? = some x → k < l.length → o.length ≤ 1000 → B (o, (k : Int)) = some (.next (if p x = true then o ++ [(x : Int)] else o, ((k + 1 : Nat) : Int))))
    (hE : ∀ o, B (o, (l.length : Int)) = some (.done o)) : LoopF B ([], 0) = some (natI (l.filter p)) := by
  have h := LoopF_foldl l (fun (o : List Int) k => (o, k)) B (fun o x => if p x = true then o ++ [(x : Int)] else o) id (fun k o => o.length ≤ k) (b0 := []) (s0 := ([], 0)) rfl (by simp)
    (fun k o x hx hk hI => ⟨hB k x o hx hk (by omega), by
      split
      · simp; omega
      · omega⟩) (fun o _ => hE o)
  rw [h, foldl_keepM]; rfl
theorem full_wrap {n : Nat} (hn : n ≤ 4) : IntKind.u32.wrap ((IntKind.u32.wrap (1 * 2 ^ (min ((n : Int)).toNat 32))) - 1) = ((2 ^ n - 1 : Nat) : Int) := by
  have hp : 2 ^ n < 4294967296 := pow_lt (by omega)
  have h1 : 0 < 2 ^ n := Nat.pow_pos (by omega)
  rw [Int.toNat_natCast, w32_shl1 (show n < 32 by omega)]
  generalize 2 ^ n = P at *
  rw [wrap_u32 (by omega) (by omega)]; omega
theorem Minimal_p {t : Table} (ht : okTable t) (G : GT t) (hn : t.Attrs.length ≤ 4) {m : Nat} (hm : m = 1 ∨ m = 2 ∨ m = 3) {most : Ratio} (h0 : okRatio most) (hv : validR most = true) (P : Nat → Nat → Bool) (H : Fam t (m : Int) most P) :
    approx_Minimal t (m : Int) most = some ((ansN P t.Attrs.length).map fdQ, 0) := by
  have hk := known_list t (tabOk_of ht) [] (by simp) (by simp)
  rw [if_pos G.err] at hk
  have hvp := Valid_p most h0
  rw [hv] at hvp
  have hm1 : (m : Int) ≥ 1 := by omega
  have hm3 : decide ((m : Int) ≤ 3) = true := by simp; omega
  have hr : roomB t.Attrs.length 24 = true := room_le (by omega) (by omega)
  have hk' : approx_known t [] = some 0 := by rw [hk]; rfl
  simp only [approx_Minimal, hk', Option.bind_some, bne_self_eq_false, Bool.false_eq_true, if_false, if_neg (show ¬ ((t.Attrs.length : Int) > 8) by omega), approx_measures, if_pos hm1, hm3, if_true, hvp, if_pos (show (0 : Int) ≤ (t.Attrs.length : Int) by omega), hr, if_neg (show ¬ ((t.Attrs.length : Int) < 0) by omega), full_wrap hn, Subsets_full (show t.Attrs.length ≤ 6 by omega), min_l4 H hn]
end Go.Proofs.YtjcdclpfeflfkaaGreatDoor
/- ApproxExact. -/
set_option linter.unusedVariables false
set_option linter.unusedSimpArgs false
namespace Go.Proofs.YtjcdclpfeflfkaaGreatDoor
open Go Go.Ab

/-- a dependency that holds -/
def famS (t : Table) (x a : Nat) : Bool := satL t x (2 ^ a) (List.range t.Rows.length)
theorem fam_s {t : Table} (G : GT t) (hn : t.Rows.length ≤ 8) {m : Nat} (hm : m = 1 ∨ m = 2 ∨ m = 3) : Fam t (m : Int) ⟨0, 1⟩ (famS t) := by
  intro x a hx ha
  have hP : ∃ z, drossref04_Cmp (ratE t m x a) ⟨0, 1⟩ = some z ∧ (z ≤ 0 ↔ famS t x a = true) := by
    have hE : errN t x (x ||| 2 ^ a) m < 65536 := errN_le hn _ _ _
    have hD : eD t m < 65536 := eD_le hn m
    have hp := eD_pos t m
    have hz := num_zero (n := errN t x (x ||| 2 ^ a) m) hp
    have hiff := err_zero G hx (pow_in ha) hm
    have la : errN t x (x ||| 2 ^ a) m / Nat.gcd (errN t x (x ||| 2 ^ a) m) (eD t m) ≤ errN t x (x ||| 2 ^ a) m := Nat.div_le_self _ _
    have lb : eD t m / Nat.gcd (errN t x (x ||| 2 ^ a) m) (eD t m) ≤ eD t m := Nat.div_le_self _ _
    unfold ratE ratioN
    unfold ratioN at hz
    generalize errN t x (x ||| 2 ^ a) m / Nat.gcd (errN t x (x ||| 2 ^ a) m) (eD t m) = p at *
    generalize eD t m / Nat.gcd (errN t x (x ||| 2 ^ a) m) (eD t m) = q at *
    have hc := cmp_natF (a := p) (b := q) (c := 0) (d := 1) (by omega) (by omega) (by omega) (by omega)
    refine ⟨_, hc, ?_⟩
    unfold famS
    rw [← hiff]
    have hpz : p = 0 ↔ errN t x (x ||| 2 ^ a) m = 0 := by
      by_cases h : p = 0
      · subst h
        have : (((0 : Nat) : Int) == 0) = true := by decide
        simp only [this] at hz
        simp only [true_iff]
        have := hz.symm
        simpa using this
      · have : ((p : Int) == 0) = false := by rw [beq_eq_false_iff_ne]; omega
        simp only [this] at hz
        simp only [h, false_iff]
        have := hz.symm
        simpa using this
    rw [← hpz, if_neg (by omega)]
    by_cases h : p = 0
    · subst h; simp
    · rw [if_pos (by omega)]; simp [h]
  obtain ⟨z, hz, hz'⟩ := hP
  refine ⟨ratE t m x a, z, ?_, ?_, hz'⟩
  · rw [measured_eq G hx (pow_in ha) m hm, errR_ratio]; rfl
  · rw [Cmp_same, hz]
theorem Error28_eq {t : Table} (ht : okTable t) (he : tableErr t = 0) (hn : t.Attrs.length ≤ 4) (hr : t.Rows.length ≤ 8) : drossref28_Error t = some 0 := by
  simp only [drossref28_Error, ref_Valid_table t (tabOk_of ht), he, Option.bind_some, bne_self_eq_false, Bool.false_eq_true, if_false, if_neg (show ¬ ((t.Attrs.length : Int) > 10) by omega), if_neg (show ¬ ((t.Rows.length : Int) > 200) by omega)]
theorem For_eq {t : Table} (ht : okTable t) (G : GT t) (hn : t.Attrs.length ≤ 4) (hr : t.Rows.length ≤ 8) {a : Nat} (ha : a < t.Attrs.length) : drossref28_For t (a : Int) = some (natI (minL (goodA (famS t) t.Attrs.length a)), 0) := by
  have hg := goodA_len (P := famS t) (a := a) hn
  have hmin := Minimal_lex (goodA (famS t) t.Attrs.length a) (goodA_lex hn) (fun x hx => goodA_lt hn hx) (by omega)
  have hsub := ref_Subsets_eq (sA_lt a hn)
  have hlen := subs_len (n := t.Attrs.length) a hn
  have hsh := w32_shl1 (show a < 32 by omega)
  have h1 : LoopF (drossref28_For_l1 t (a : Int) (natI (subsR (sA t.Attrs.length a)))) ([], 0) = some (natI (goodA (famS t) t.Attrs.length a)) := by
    refine fam_loop _ hlen (fun x => famS t x a) _ (fun k x o hx hk ho => ?_) (fun o => by simp [drossref28_For_l1, natI_len])
    have hxl := subs_lt hn (List.mem_of_getElem? hx)
    have hrm : roomB (o.length + 1) 4 = true := room_le (by omega) (by omega)
    have hS := Sat_eq G hxl (pow_in ha) (List.range t.Rows.length) (fun i hi => List.mem_range.1 hi) (by rw [List.length_range]; omega)
    rw [subT_all] at hS
    have hdet : drossref28_determines t (x : Int) (a : Int) = some (famS t x a) := by
      simp only [drossref28_determines, if_neg (show ¬ ((a : Int) < 0) by omega), Int.toNat_natCast, hsh, hS, Option.bind_some]
      rfl
    simp only [drossref28_For_l1, natI_len, if_pos (show (k : Int) < ((subsR (sA t.Attrs.length a)).length : Int) by omega), idx_get (natI_get hx), Option.bind_some, hdet, hrm, if_true, wrap_nat (show k < 4611686018427387904 by omega)]
    by_cases hc : famS t x a = true
    · simp only [hc, if_true]
    · simp only [hc, if_false, Bool.false_eq_true]
  have hsub' : drossref02_Subsets ((sA t.Attrs.length a : Nat) : Int) = some (natI (subsR (sA t.Attrs.length a))) := hsub
  simp only [drossref28_For, Error28_eq ht G.err hn hr, Option.bind_some, bne_self_eq_false, Bool.false_eq_true, if_false, if_neg (show ¬ ((a : Int) < 0) by omega), if_neg (show ¬ ((a : Int) ≥ (t.Attrs.length : Int)) by omega), Full_eq (show t.Attrs.length ≤ 16 by omega), Int.toNat_natCast, sA_wrap hn ha, hsub', h1, hmin]
theorem All28_eq {t : Table} (ht : okTable t) (G : GT t) (hn : t.Attrs.length ≤ 4) (hr : t.Rows.length ≤ 8) : drossref28_All t = some ((ansN (famS t) t.Attrs.length).map fdQ, 0) := by
  have h : LoopF (drossref28_All_l4 t) ([], 0) = some ((refP (famS t) t.Attrs.length).map fdQ) := by
    refine attr_loop hn _ (fun a o ha ho => ?_) (fun o => by simp [drossref28_All_l4])
    have hg := goodA_len (P := famS t) (a := a) hn
    have hml := minL_len (goodA (famS t) t.Attrs.length a)
    have hsh := w32_shl1 (show a < 32 by omega)
    have hput := put_loop a (minL (goodA (famS t) t.Attrs.length a)) (by omega) (drossref28_All_l3 (a : Int) (natI (minL (goodA (famS t) t.Attrs.length a)), 0)) o ho
      (fun k x o hx hk ho => by
        have hrm : roomB (o.length + 1) 8 = true := room_le (by omega) (by omega)
        simp only [drossref28_All_l3, natI_len, if_pos (show (k : Int) < ((minL (goodA (famS t) t.Attrs.length a)).length : Int) by omega), idx_get (natI_get hx), Option.bind_some, if_neg (show ¬ ((a : Int) < 0) by omega), Int.toNat_natCast, hsh, hrm, if_true, wrap_nat (show k < 4611686018427387904 by omega)]
        rfl)
      (fun o => by simp [drossref28_All_l3, natI_len])
    simp only [drossref28_All_l4, if_pos (show (a : Int) < (t.Attrs.length : Int) by omega), For_eq ht G hn hr ha, Option.bind_some, hput, wrap_nat (show a < 4611686018427387904 by omega)]
  simp only [drossref28_All, Error28_eq ht G.err hn hr, Option.bind_some, bne_self_eq_false, Bool.false_eq_true, if_false, h, Sorted_ref hn]
theorem Table7_eq (x : Drossref03_Recipe) (h : okDrossref03_Recipe x) (hr : x.Rows.length ≤ 7) : drossref03_Table x 7 = some (wide x (x.Attrs.toNat % 6), true) := by
  obtain ⟨ha, hg, hl⟩ := h
  have ha' := okI_u8 ha
  have hg' := okI_u8 hg
  have h1 : ¬ ((x.Rows.length : Int) > 7) := by omega
  have hm : Int.tmod x.Attrs 6 = ((x.Attrs.toNat % 6 : Nat) : Int) := by
    rw [Int.tmod_eq_emod_of_nonneg ha'.1]; omega
  have e1 : IntKind.i64.wrap (Int.tmod x.Attrs 6) = ((x.Attrs.toNat % 6 : Nat) : Int) := by rw [hm, wrap_i64 (by omega) (by omega)]
  simp only [drossref03_Table, if_neg h1, e1, Wide_eq x (x.Attrs.toNat % 6) (by omega) (by omega) (fun r hr => (hl.2 r hr).1) hg', Option.bind_some]
theorem ApproxExact_holds (x : Drossref03_Recipe) (measure : Int) (h : okDrossref03_Recipe x) (h1 : okI .u8 measure) : drosslaw32_ApproxExact x measure = some true := by
  by_cases hr : x.Rows.length ≤ 7
  · have hT := Table7_eq x h hr
    have hok := wide_ok x (x.Attrs.toNat % 6) (by omega) (by omega)
    have hG := recipe_good x (show x.Rows.length ≤ 8 by omega)
    have hrows : (wide x (x.Attrs.toNat % 6)).Rows.length ≤ 7 := by simp only [wide, List.length_map, List.length_range]; exact hr
    generalize wide x (x.Attrs.toNat % 6) = t at *
    by_cases h4 : (t.Attrs.length : Int) > 4
    · simp only [drosslaw32_ApproxExact, hT, awake32, Option.bind_some, if_true, h4, decide_true]
    · have GG := hG.gt hok
      have hn : t.Attrs.length ≤ 4 := by omega
      have qm := okI_u8 h1
      obtain ⟨m, hme, hmm⟩ : ∃ m : Nat, IntKind.i64.wrap (1 + (IntKind.i64.wrap (Int.tmod measure 3))) = (m : Int) ∧ (m = 1 ∨ m = 2 ∨ m = 3) := by
        refine ⟨1 + measure.toNat % 3, ?_, by omega⟩
        rw [Int.tmod_eq_emod_of_nonneg qm.1, wrap_i64 (n := measure % 3) (by omega) (by omega), wrap_i64 (by omega) (by omega)]
        omega
      have h01 : drossref04_Of 0 1 = some ⟨0, 1⟩ := by
        have := ref_Of_nat 0 1 (by omega) (by omega) (by omega)
        have e : ratioN 0 1 = ⟨0, 1⟩ := by decide +kernel
        rw [e] at this; exact this
      have hv : validR ⟨0, 1⟩ = true := by decide +kernel
      have hq : okRatio ⟨0, 1⟩ := ⟨wf_i64 (by simp only; omega) (by simp only; omega), wf_i64 (by simp only; omega) (by simp only; omega)⟩
      have e1 := Minimal_p hok GG hn hmm hq hv _ (fam_s GG hG.rows hmm)
      have e2 := All28_eq hok GG hn hG.rows
      have hlen := ansN_len (P := famS t) hn
      have hd : decide ((t.Attrs.length : Int) > 4) = false := by simpa using h4
      simp only [drosslaw32_ApproxExact, hT, awake32, Option.bind_some, if_true, hd, Bool.false_eq_true, if_false, h01, hme, e1, e2, beq_self_eq_true, Same09_self _ (show ((ansN (famS t) t.Attrs.length).map fdQ).length ≤ 1000000 by omega)]
  · have h1 : ((x.Rows.length : Int) > 7) := by omega
    have hT : drossref03_Table x 7 = some (⟨[], [], []⟩, false) := by simp only [drossref03_Table, if_pos h1]
    simp only [drosslaw32_ApproxExact, hT, awake32, Option.bind_some, if_true, Bool.false_eq_true, if_false]
end Go.Proofs.YtjcdclpfeflfkaaGreatDoor
