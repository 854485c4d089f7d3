/- The Lean functions that the program's functions are lifted to, and the plain laws about them. -/
import Derived.Test.YtlaodgbkpmdhoaaGreatDoorL1
/- Denial: the program's violations. -/
set_option linter.unusedVariables false
set_option linter.unusedSimpArgs false
namespace Go.Proofs.YtlaodgbkpmdhoaaGreatDoor
open Go Go.Ab

abbrev SeenB := List (Arr3_int64 × Bool) × List (List Int)
noncomputable def leafG (d : Denial) (a : List Row) (b : SeenB) : SeenB := if d.Atoms.all (satA a) = true then (if idsA a ∈ b.2 then b else (mset b.1 (key3 (idsA a)) true, b.2 ++ [idsA a])) else b
noncomputable def subG (t : Table) (d : Denial) : Nat → List Row → SeenB → SeenB
  | 0, a, b => leafG d a b
  | m + 1, a, b => t.Rows.foldl (fun b r => if (a.any fun x => x.ID == r.ID) = true then b else subG t d m (a ++ [r]) b) b
/-- what has been seen are the lists' keys -/
structure SeenOk (n : Nat) (b : SeenB) : Prop where
  len : ∀ z ∈ b.2, z.length = n
  seen : ∀ z : List Int, z.length = n → ((mget b.1 (key3 z)).getD false = true ↔ z ∈ b.2)
theorem leafG_ok {n : Nat} (hn : n ≤ 3) {d : Denial} {a : List Row} {b : SeenB} (ha : a.length = n) (h : SeenOk n b) : SeenOk n (leafG d a b) ∧ (leafG d a b).2.length ≤ b.2.length + 1 := by
  unfold leafG
  split
  · by_cases hm : idsA a ∈ b.2
    · rw [if_pos hm]; exact ⟨h, by omega⟩
    · rw [if_neg hm]
      have hl : (idsA a).length = n := by rw [idsA_len, ha]
      refine ⟨⟨fun z hz => ?_, fun z hz => ?_⟩, by simp⟩
      · rcases List.mem_append.1 hz with hz | hz
        · exact h.len z hz
        · rw [List.mem_singleton.1 hz]; exact hl
      · simp only [mget_mset, List.mem_append, List.mem_singleton]
        by_cases hk : key3 z = key3 (idsA a)
        · rw [if_pos hk]
          have := key3_inj hn hz hl hk
          simp [this]
        · rw [if_neg hk, h.seen z hz]
          constructor
          · intro hz; exact .inl hz
          · rintro (hz | rfl)
            · exact hz
            · exact absurd rfl hk
  · exact ⟨h, by omega⟩
theorem subG_ok {n : Nat} (hn : n ≤ 3) {t : Table} (ht : t.Rows.length ≤ 7) {d : Denial} : ∀ (m : Nat) (a : List Row) (b : SeenB), a.length + m = n → SeenOk n b → SeenOk n (subG t d m a b) ∧ (subG t d m a b).2.length ≤ b.2.length + 7 ^ m
  | 0, a, b, ha, h => leafG_ok hn (by omega) h
  | m + 1, a, b, ha, h => by
    have key : ∀ (l : List Row) (b : SeenB), SeenOk n b → SeenOk n (l.foldl (fun b r => if (a.any fun x => x.ID == r.ID) = true then b else subG t d m (a ++ [r]) b) b) ∧
        (l.foldl (fun b r => if (a.any fun x => x.ID == r.ID) = true then b else subG t d m (a ++ [r]) b) b).2.length ≤ b.2.length + l.length * 7 ^ m := by
      intro l
      induction l with
      | nil => intro b h; exact ⟨h, by simp⟩
      | cons r l ih =>
        intro b h
        rw [List.foldl_cons]
        by_cases hu : (a.any fun x => x.ID == r.ID) = true
        · rw [if_pos hu]
          obtain ⟨h1, h2⟩ := ih b h
          refine ⟨h1, ?_⟩
          rw [List.length_cons, Nat.succ_mul]
          generalize 7 ^ m = P at *
          omega
        · rw [if_neg hu]
          obtain ⟨g1, g2⟩ := subG_ok hn ht m (a ++ [r]) b (by simp; omega) h
          obtain ⟨h1, h2⟩ := ih _ g1
          refine ⟨h1, ?_⟩
          rw [List.length_cons, Nat.succ_mul]
          generalize 7 ^ m = P at *
          omega
    obtain ⟨h1, h2⟩ := key t.Rows b h
    refine ⟨h1, ?_⟩
    have : t.Rows.length * 7 ^ m ≤ 7 * 7 ^ m := Nat.mul_le_mul_right _ ht
    rw [Nat.pow_succ]
    show (t.Rows.foldl _ b).2.length ≤ _
    omega
theorem leafG_snd (d : Denial) (a : List Row) (b : SeenB) : (leafG d a b).2 = if d.Atoms.all (satA a) = true then addN b.2 (idsA a) else b.2 := by
  unfold leafG addN
  split
  · split <;> rfl
  · rfl
theorem subG_snd (t : Table) (d : Denial) : ∀ (m : Nat) (a : List Row) (b : SeenB), (subG t d m a b).2 = (((fullA t m a).filter fun x => d.Atoms.all (satA x)).map idsA).foldl addN b.2
  | 0, a, b => by
    show (leafG d a b).2 = _
    rw [leafG_snd]
    show _ = (([a].filter fun x => d.Atoms.all (satA x)).map idsA).foldl addN b.2
    by_cases h : d.Atoms.all (satA a) = true
    · rw [if_pos h, List.filter_cons, if_pos h]; rfl
    · rw [if_neg h, List.filter_cons, if_neg h]; rfl
  | m + 1, a, b => by
    have key : ∀ (l : List Row) (b : SeenB), (l.foldl (fun b r => if (a.any fun x => x.ID == r.ID) = true then b else subG t d m (a ++ [r]) b) b).2 =
        (((((l.filter fun r => !(a.any fun x => x.ID == r.ID)).map fun r => a ++ [r]).flatMap (fullA t m)).filter fun x => d.Atoms.all (satA x)).map idsA).foldl addN b.2 := by
      intro l
      induction l with
      | nil => intro b; rfl
      | cons r l ih =>
        intro b
        rw [List.foldl_cons, ih, List.filter_cons]
        by_cases hu : (a.any fun x => x.ID == r.ID) = true
        · rw [if_pos hu, if_neg (by simp [hu])]
        · rw [if_neg hu, if_pos (by simpa using hu), subG_snd t d m (a ++ [r]) b, List.map_cons, List.flatMap_cons, List.filter_append, List.map_append, List.foldl_append]
    exact key t.Rows b
theorem ids_l156 (l : List Row) (hl : l.length ≤ 1000) : LoopF (denial_Violations_l156 l) ([], 0) = some (l.map Row.ID) := by
  have h := LoopF_foldl l (fun (b : List Int) (i : Int) => (b, i)) (denial_Violations_l156 l) (fun b r => b ++ [r.ID]) id (fun k b => b.length = k) (b0 := []) (s0 := ([], 0)) rfl rfl
    (fun k b x hx hk hI => by
      refine ⟨?_, by simp [hI]⟩
      simp only [denial_Violations_l156, if_pos (lt_true hx), idx_get hx, Option.bind_some, room8 (show b.length + 1 ≤ 17592186044416 by omega), if_true, wrap_succ hk (show l.length ≤ 4611686018427387904 by omega)])
    (fun b _ => by simp [denial_Violations_l156])
  rw [h]
  have key : ∀ (l : List Row) (b : List Int), l.foldl (fun b (r : Row) => b ++ [r.ID]) b = b ++ l.map Row.ID := by
    intro l
    induction l with
    | nil => intro b; simp
    | cons x l ih => intro b; rw [List.foldl_cons, ih]; simp
  rw [id, key, List.nil_append]
theorem ids_l151 (l : List Row) (hl : l.length ≤ 1000) : LoopF (denial_Violations_l151 l) ([], 0) = some (l.map Row.ID) := ids_l156 l hl
theorem ids_l134 (l : List Row) (hl : l.length ≤ 1000) : LoopF (denial_Violations_l134 l) ([], 0) = some (l.map Row.ID) := ids_l156 l hl
theorem srtIF_ids (l : List Row) (hl : l.length ≤ 1000) : srtIF (l.map Row.ID) = some (idsA l) := by
  unfold srtIF idsA
  rw [if_pos (by rw [List.length_map]; omega)]
theorem used_18 (a : List Row) (r : Row) (ha : a.length ≤ 1000) : slices_ContainsFunc_Row a (fun y => denial_visit_1 y r) = some (a.any fun x => x.ID == r.ID) :=
  ContainsFunc_Row_eq18 a _ (fun x => x.ID == r.ID) (fun x _ => rfl) (by omega)
/-- a level of the nested loops -/
theorem level_loop {n : Nat} (hn : n ≤ 3) {t : Table} (ht : t.Rows.length ≤ 7) {d : Denial} {m : Nat} {a : List Row} (ha : a.length + (m + 1) = n) {τ : Type}
    (B : List (Arr3_int64 × Bool) × List (List Int) × Int → Option (LS (List (Arr3_int64 × Bool) × List (List Int) × Int) ((List (Arr3_int64 × Bool) × List (List Int)) ⊕ τ)))
    (hB : ∀ (k : Nat) (b : SeenB) (r : Row), t.Rows[k]? = some r → k < t.Rows.length → SeenOk n b → b.2.length + 7 ^ m ≤ 400 → (a.any fun x => x.ID == r.ID) = false → B (b.1, b.2, (k : Int)) = some (.next ((subG t d m (a ++ [r]) b).1, (subG t d m (a ++ [r]) b).2, IntKind.i64.wrap ((k : Int) + 1))))
    (hU : ∀ (k : Nat) (b : SeenB) (r : Row), t.Rows[k]? = some r → k < t.Rows.length → (a.any fun x => x.ID == r.ID) = true → B (b.1, b.2, (k : Int)) = some (.next (b.1, b.2, IntKind.i64.wrap ((k : Int) + 1))))
    (hE : ∀ b : SeenB, B (b.1, b.2, (t.Rows.length : Int)) = some (.done (.inl (b.1, b.2)))) (b0 : SeenB) (h0 : SeenOk n b0) (hl : b0.2.length + 7 ^ (m + 1) ≤ 400) :
    LoopF B (b0.1, b0.2, 0) = some (.inl ((subG t d (m + 1) a b0).1, (subG t d (m + 1) a b0).2)) := by
  have h := LoopF_foldl t.Rows (fun (b : SeenB) (i : Int) => (b.1, b.2, i)) B (fun b r => if (a.any fun x => x.ID == r.ID) = true then b else subG t d m (a ++ [r]) b) (fun b => (.inl (b.1, b.2) : (List (Arr3_int64 × Bool) × List (List Int)) ⊕ τ))
    (fun k b => SeenOk n b ∧ b.2.length ≤ b0.2.length + k * 7 ^ m) (b0 := b0) (s0 := (b0.1, b0.2, 0)) rfl ⟨h0, by omega⟩
    (fun k b x hx hk hI => by
      obtain ⟨hI1, hI2⟩ := hI
      have hb : b.2.length + 7 ^ m ≤ 400 := by
        have : (k + 1) * 7 ^ m ≤ 7 * 7 ^ m := Nat.mul_le_mul_right _ (by omega)
        rw [Nat.succ_mul] at this
        rw [Nat.pow_succ] at hl
        generalize 7 ^ m = P at *
        omega
      have hw := wrap_succ hk (show t.Rows.length ≤ 4611686018427387904 by omega)
      by_cases hu : (a.any fun x_1 => x_1.ID == x.ID) = true
      · rw [if_pos hu]
        refine ⟨by rw [hU k b x hx hk hu, hw], hI1, ?_⟩
        rw [Nat.succ_mul]
        generalize 7 ^ m = P at *
        omega
      · rw [if_neg hu]
        obtain ⟨g1, g2⟩ := subG_ok hn ht m (a ++ [x]) b (by simp; omega) hI1
        refine ⟨by rw [hB k b x hx hk hI1 hb (by simpa using hu), hw], g1, ?_⟩
        rw [Nat.succ_mul]
        generalize 7 ^ m = P at *
        omega)
    (fun b _ => hE b)
  rw [h]
  rfl
/-- the leaf's text -/
theorem leaf_text {n : Nat} {d : Denial} {a : List Row} {b : SeenB} (ha : a.length = n) (h : SeenOk n b) (hb : b.2.length ≤ 400) {σ τ : Type} (k : Int) (X : σ → Option (LS (List (Arr3_int64 × Bool) × List (List Int) × Int) τ)) (y1 : τ) (y2 : τ) :
    (if d.Atoms.all (satA a) = true then
      (if ((mget b.1 (Arr3_int64.mk ((idsA a).getD 0 0) ((idsA a).getD 1 0) ((idsA a).getD 2 0))).getD false) = true then
        (if ((b.2.length : Nat) : Int) ≤ 20000 then some (LS.next (b.1, b.2, k)) else some (LS.done y1))
      else if roomB (b.2.length + 1) 24 = true then
        (if (((b.2.length + 1) : Nat) : Int) ≤ 20000 then some (LS.next ((mset b.1 (Arr3_int64.mk ((idsA a).getD 0 0) ((idsA a).getD 1 0) ((idsA a).getD 2 0)) true), (b.2 ++ [idsA a]), k)) else some (LS.done y2))
      else none)
    else some (LS.next (b.1, b.2, k))) = some (LS.next ((leafG d a b).1, (leafG d a b).2, k)) := by
  have hl : (idsA a).length = n := by rw [idsA_len, ha]
  have hs := h.seen (idsA a) hl
  unfold leafG
  by_cases hsat : d.Atoms.all (satA a) = true
  · rw [if_pos hsat, if_pos hsat]
    by_cases hm : idsA a ∈ b.2
    · have h1 : ((mget b.1 (Arr3_int64.mk ((idsA a).getD 0 0) ((idsA a).getD 1 0) ((idsA a).getD 2 0))).getD false) = true := hs.2 hm
      rw [if_pos h1, if_pos (by omega), if_pos hm]
    · have h1 : ¬ ((mget b.1 (Arr3_int64.mk ((idsA a).getD 0 0) ((idsA a).getD 1 0) ((idsA a).getD 2 0))).getD false) = true := fun h => hm (hs.1 h)
      rw [if_neg h1, if_neg hm, if_pos (room_le (by omega) (by omega)), if_pos (by omega)]
      rfl
  · rw [if_neg hsat, if_neg hsat]
theorem rows_ext {t : Table} (H : DT t) {a : List Row} {n : Nat} (hn : n ≤ 3) (ha : a.length = n) (hm : ∀ r ∈ a, r ∈ t.Rows) : RowsN t.Attrs.length (n : Int) a :=
  ⟨by omega, by omega, fun r hr => ⟨((H.code).1 r (hm r hr)).1, H.str r (hm r hr)⟩⟩
theorem mem_ext {t : Table} {a : List Row} (hm : ∀ r ∈ a, r ∈ t.Rows) {k : Nat} {x : Row} (hx : t.Rows[k]? = some x) : ∀ r ∈ a ++ [x], r ∈ t.Rows := by
  intro r hr
  rcases List.mem_append.1 hr with hr | hr
  · exact hm r hr
  · rw [List.mem_singleton.1 hr]; exact List.mem_of_getElem? hx
theorem loop_158 {t : Table} (H : DT t) {d : Denial} (hd : denB t.Attrs.length d = true) (hv : d.Vars = 3) (a : List Row) (ha : a.length = 2) (hm : ∀ r ∈ a, r ∈ t.Rows) (b : SeenB) (hb : SeenOk 3 b) (hl : b.2.length + 7 ≤ 400) :
    LoopF (denial_Violations_l158 t d a) (b.1, b.2, 0) = some (.inl ((subG t d 1 a b).1, (subG t d 1 a b).2)) := by
  obtain ⟨⟨hv1, hv2, hv3⟩, hat⟩ := denB_parts hd
  refine level_loop (n := 3) (by omega) H.few (m := 0) (by omega) _ (fun k b x hx hk hI hlen hu => ?_) (fun k b x hx hk hu => ?_) (fun b => by simp [denial_Violations_l158]) b hb hl
  · have R := rows_ext H (a := a ++ [x]) (n := 3) (by omega) (by simp [ha]) (mem_ext hm hx)
    have hlen3 : (a ++ [x]).length = 3 := by simp [ha]
    have hc : (((a ++ [x]).length : Int) == d.Vars) = true := by rw [hlen3, hv]; rfl
    rw [show ((3 : Nat) : Int) = d.Vars by omega] at R
    simp only [denial_Violations_l158, if_pos (lt_true hx), idx_get hx, Option.bind_some, used_18 a x (by omega), hu, Bool.false_eq_true, if_false, if_pos (show a.length ≤ 1000000000 by omega), room_le (show a.length + 1 ≤ 1073741824 by omega) (show 32 ≤ 65536 by omega), if_true, hc, satisfied_eq R d.Atoms (by omega) hat, ids_l156 (a ++ [x]) (by omega), srtIF_ids (a ++ [x]) (by omega)]
    exact leaf_text (σ := Unit) hlen3 hI (by omega) _ (fun _ => none) _ _
  · simp only [denial_Violations_l158, if_pos (lt_true hx), idx_get hx, Option.bind_some, used_18 a x (by omega), hu, if_true]
theorem loop_159 {t : Table} (H : DT t) {d : Denial} (hd : denB t.Attrs.length d = true) {n : Nat} (hv : d.Vars = (n : Int)) (h2 : 2 ≤ n) (h3 : n ≤ 3) (a : List Row) (ha : a.length = 1) (hm : ∀ r ∈ a, r ∈ t.Rows) (b : SeenB) (hb : SeenOk n b) (hl : b.2.length + 7 ^ (n - 1) ≤ 400) :
    LoopF (denial_Violations_l159 t d a) (b.1, b.2, 0) = some (.inl ((subG t d (n - 1) a b).1, (subG t d (n - 1) a b).2)) := by
  obtain ⟨⟨hv1, hv2, hv3⟩, hat⟩ := denB_parts hd
  have hcase : n = 2 ∨ n = 3 := by omega
  rcases hcase with rfl | rfl
  · refine level_loop (n := 2) (by omega) H.few (m := 0) (by omega) _ (fun k b x hx hk hI hlen hu => ?_) (fun k b x hx hk hu => ?_) (fun b => by simp [denial_Violations_l159]) b hb hl
    · have R := rows_ext H (a := a ++ [x]) (n := 2) (by omega) (by simp [ha]) (mem_ext hm hx)
      have hlen3 : (a ++ [x]).length = 2 := by simp [ha]
      have hc : (((a ++ [x]).length : Int) == d.Vars) = true := by rw [hlen3, hv]; rfl
      rw [show ((2 : Nat) : Int) = d.Vars by omega] at R
      simp only [denial_Violations_l159, if_pos (lt_true hx), idx_get hx, Option.bind_some, used_18 a x (by omega), hu, Bool.false_eq_true, if_false, if_pos (show a.length ≤ 1000000000 by omega), room_le (show a.length + 1 ≤ 1073741824 by omega) (show 32 ≤ 65536 by omega), if_true, hc, satisfied_eq R d.Atoms (by omega) hat, ids_l151 (a ++ [x]) (by omega), srtIF_ids (a ++ [x]) (by omega)]
      exact leaf_text (σ := Unit) hlen3 hI (by omega) _ (fun _ => none) _ _
    · simp only [denial_Violations_l159, if_pos (lt_true hx), idx_get hx, Option.bind_some, used_18 a x (by omega), hu, if_true]
  · refine level_loop (n := 3) (by omega) H.few (m := 1) (by omega) _ (fun k b x hx hk hI hlen hu => ?_) (fun k b x hx hk hu => ?_) (fun b => by simp [denial_Violations_l159]) b hb hl
    · have hlen3 : (a ++ [x]).length = 2 := by simp [ha]
      have hc : ¬ ((((a ++ [x]).length : Int) == d.Vars) = true) := by rw [hlen3, hv]; decide
      simp only [denial_Violations_l159, if_pos (lt_true hx), idx_get hx, Option.bind_some, used_18 a x (by omega), hu, Bool.false_eq_true, if_false, if_pos (show a.length ≤ 1000000000 by omega), room_le (show a.length + 1 ≤ 1073741824 by omega) (show 32 ≤ 65536 by omega), if_true, if_neg hc]
      rw [loop_158 H hd hv (a ++ [x]) hlen3 (mem_ext hm hx) b hI (by omega)]
      rfl
    · simp only [denial_Violations_l159, if_pos (lt_true hx), idx_get hx, Option.bind_some, used_18 a x (by omega), hu, if_true]
theorem loop_160 {t : Table} (H : DT t) {d : Denial} (hd : denB t.Attrs.length d = true) {n : Nat} (hv : d.Vars = (n : Int)) (h1 : 1 ≤ n) (h3 : n ≤ 3) (b : SeenB) (hb : SeenOk n b) (hl : b.2.length + 343 ≤ 400) :
    LoopF (denial_Violations_l160 t d []) (b.1, b.2, 0) = some (.inl ((subG t d n [] b).1, (subG t d n [] b).2)) := by
  obtain ⟨⟨hv1, hv2, hv3⟩, hat⟩ := denB_parts hd
  have hm : ∀ r ∈ ([] : List Row), r ∈ t.Rows := by simp
  by_cases hc1 : n = 1
  · subst hc1
    refine level_loop (n := 1) (by omega) H.few (m := 0) (a := []) (by simp) _ (fun k b x hx hk hI hlen hu => ?_) (fun k b x hx hk hu => ?_) (fun b => by simp [denial_Violations_l160]) b hb (by simp at hl ⊢; omega)
    · have R := rows_ext H (a := [] ++ [x]) (n := 1) (by omega) (by simp) (mem_ext hm hx)
      have hlen3 : (([] : List Row) ++ [x]).length = 1 := by simp
      have hc : (((([] : List Row) ++ [x]).length : Int) == d.Vars) = true := by rw [hlen3, hv]; rfl
      rw [show ((1 : Nat) : Int) = d.Vars by omega] at R
      simp only [denial_Violations_l160, if_pos (lt_true hx), idx_get hx, Option.bind_some, used_18 [] x (by simp), hu, Bool.false_eq_true, if_false, if_pos (show ([] : List Row).length ≤ 1000000000 by simp), room_le (show ([] : List Row).length + 1 ≤ 1073741824 by simp) (show 32 ≤ 65536 by omega), if_true, hc, satisfied_eq R d.Atoms (by omega) hat, ids_l134 ([] ++ [x]) (by simp), srtIF_ids ([] ++ [x]) (by simp)]
      exact leaf_text (σ := Unit) hlen3 hI (by omega) _ (fun _ => none) _ _
    · simp only [denial_Violations_l160, if_pos (lt_true hx), idx_get hx, Option.bind_some, used_18 [] x (by simp), hu, if_true]
  · obtain ⟨m, rfl⟩ : ∃ m, n = m + 2 := ⟨n - 2, by omega⟩
    have h7 : 7 ^ (m + 2) ≤ 343 := by
      have : m = 0 ∨ m = 1 := by omega
      rcases this with rfl | rfl <;> decide
    have h7' : 7 ^ (m + 1) ≤ 49 := by
      have : m = 0 ∨ m = 1 := by omega
      rcases this with rfl | rfl <;> decide
    refine level_loop (n := m + 2) (by omega) H.few (m := m + 1) (a := []) (by simp) _ (fun k b x hx hk hI hlen hu => ?_) (fun k b x hx hk hu => ?_) (fun b => by simp [denial_Violations_l160]) b hb (by rw [show m + 1 + 1 = m + 2 by omega]; omega)
    · have hlen3 : (([] : List Row) ++ [x]).length = 1 := by simp
      have hc : ¬ ((((([] : List Row) ++ [x]).length : Int) == d.Vars) = true) := by rw [hlen3, hv]; simp; omega
      simp only [denial_Violations_l160, if_pos (lt_true hx), idx_get hx, Option.bind_some, used_18 [] x (by simp), hu, Bool.false_eq_true, if_false, if_pos (show ([] : List Row).length ≤ 1000000000 by simp), room_le (show ([] : List Row).length + 1 ≤ 1073741824 by simp) (show 32 ≤ 65536 by omega), if_true, if_neg hc]
      rw [loop_159 H hd hv (by omega) h3 ([] ++ [x]) hlen3 (mem_ext hm hx) b hI hlen]
      rfl
    · simp only [denial_Violations_l160, if_pos (lt_true hx), idx_get hx, Option.bind_some, used_18 [] x (by simp), hu, if_true]
/-- what is listed are the different members -/
theorem viol_final (t : Table) (d : Denial) {n : Nat} (hn : n ≤ 3) (ht : t.Rows.length ≤ 7) (hv : d.Vars = (n : Int)) :
    srtF (fun (a : List Int) (b : List Int) => slices_Compare_int64 a b) (subG t d n [] (([] : List (Arr3_int64 × Bool)), ([] : List (List Int)))).2 = some (setO (violL t d)) := by
  have h0 : SeenOk n (([] : List (Arr3_int64 × Bool)), ([] : List (List Int))) := ⟨by simp, fun z _ => by simp [mget]⟩
  obtain ⟨h1, h2⟩ := subG_ok hn ht (d := d) n [] _ (by simp) h0
  have hsnd := subG_snd t d n [] (([] : List (Arr3_int64 × Bool)), ([] : List (List Int)))
  have e : n = d.Vars.toNat := by omega
  rw [full_nil] at hsnd
  have hv' : (subG t d n [] (([] : List (Arr3_int64 × Bool)), ([] : List (List Int)))).2 = (violL t d).foldl addN [] := by
    rw [hsnd]; unfold violL; rw [← e]
  rw [hv'] at h2 ⊢
  have h7 : 7 ^ n ≤ 7 ^ 3 := Nat.pow_le_pow_right (by omega) hn
  have h343 : 7 ^ 3 = 343 := by decide
  have hnd := addN_fold_nodup (violL t d) [] List.nodup_nil
  obtain ⟨s, g1, g2, g3⟩ := srtF_lists ((violL t d).foldl addN []) (by simp at h2; omega) (fun a ha => by
    rcases (addN_fold_mem a (violL t d) []).1 ha with h | h
    · cases h
    · rw [violL_short h]; omega) hnd
  rw [g1]
  congr 1
  refine (setO_eq g3 fun z => ?_).symm
  rw [g2.mem_iff, addN_fold_mem]; simp
theorem DViolations_eq (t : Table) (d : Denial) (T : TableOk t) (hs : ∀ r ∈ t.Rows, ∀ v ∈ r.Values, v.Str.length ≤ 1048576) (hn : t.Rows.length ≤ 7) (hl : d.Atoms.length ≤ 1048576) : denial_Violations t d = some (violR t d) := by
  unfold denial_Violations violR
  rw [checked_eq t d T hl, Option.bind_some]
  by_cases h : denErr t d = 0
  · rw [if_neg (by simp [h]), if_pos h]
    obtain ⟨h1, h2⟩ := denErr_zero h
    have H : DT t := ⟨T, h1, hn, hs⟩
    obtain ⟨⟨hv1, hv2, hv3⟩, hat⟩ := denB_parts h2
    have hv : d.Vars = ((d.Vars.toNat : Nat) : Int) := by omega
    have h0 : SeenOk d.Vars.toNat (([] : List (Arr3_int64 × Bool)), ([] : List (List Int))) := ⟨by simp, fun z _ => by simp [mget]⟩
    have hL := loop_160 H h2 hv (by omega) (by omega) (([] : List (Arr3_int64 × Bool)), ([] : List (List Int))) h0 (by simp)
    have hc : ¬ ((((([] : List Row).length : Nat) : Int) == d.Vars) = true) := by simp; omega
    simp only [Option.bind_some, if_neg hc]
    rw [hL]
    simp only [Option.bind_some, if_true]
    rw [viol_final t d (by omega) hn hv, Option.bind_some]
  · rw [if_pos (by simpa using h), if_neg h]
end Go.Proofs.YtlaodgbkpmdhoaaGreatDoor
/- Denial: whether a table satisfies a constraint. -/
set_option linter.unusedVariables false
set_option linter.unusedSimpArgs false
namespace Go.Proofs.YtlaodgbkpmdhoaaGreatDoor
open Go Go.Ab

end Go.Proofs.YtlaodgbkpmdhoaaGreatDoor
/- Denial: recipes of tables and constraints. -/
set_option linter.unusedVariables false
set_option linter.unusedSimpArgs false
namespace Go.Proofs.YtlaodgbkpmdhoaaGreatDoor
open Go Go.Ab

theorem recipe7 (x : Drossref03_Recipe) (h : okDrossref03_Recipe x) : (∃ t, drossref03_Table x 7 = some (t, false) ∧ t.Attrs = []) ∨ ∃ t, drossref03_Table x 7 = some (t, true) ∧ okTable t ∧ Good t ∧ t.Rows.length ≤ 7 ∧ t.Attrs.length ≤ 5 := by
  by_cases hr : x.Rows.length ≤ 7
  · right
    obtain ⟨ha, hg, hl⟩ := h
    have ha' := okI_u8 ha
    have hg' := okI_u8 hg
    have h1 : ¬ ((x.Rows.length : Int) > 7) := by omega
    have hm : Int.tmod x.Attrs 6 = ((x.Attrs.toNat % 6 : Nat) : Int) := by
      rw [Int.tmod_eq_emod_of_nonneg ha'.1]; omega
    have e1 : IntKind.i64.wrap (Int.tmod x.Attrs 6) = ((x.Attrs.toNat % 6 : Nat) : Int) := by rw [hm, wrap_i64 (by omega) (by omega)]
    refine ⟨wide x (x.Attrs.toNat % 6), ?_, wide_ok _ _ (by omega) (by omega), recipe_good x (by omega), ?_, ?_⟩
    · simp only [drossref03_Table, if_neg h1, e1, Wide_eq x (x.Attrs.toNat % 6) (by omega) (by omega) (fun r hr => (hl.2 r hr).1) hg', Option.bind_some]
    · simp only [wide, List.length_map, List.length_range]; exact hr
    · simp only [wide, List.length_take]; omega
  · left
    exact ⟨⟨[], [], []⟩, by simp only [drossref03_Table, if_pos (show (x.Rows.length : Int) > 7 by omega)], rfl⟩
theorem str_ok {t : Table} (h : okTable t) : ∀ r ∈ t.Rows, ∀ v ∈ r.Values, v.Str.length ≤ 1048576 := fun r hr v hv => ((h.2.2.2 r hr).2.2 v hv).2.2
theorem dt_of {t : Table} (h : okTable t) (G : Good t) (hn : t.Rows.length ≤ 7) : DT t := ⟨tabOk_of h, G.err, hn, str_ok h⟩
end Go.Proofs.YtlaodgbkpmdhoaaGreatDoor
/- Denial: constraints from functional dependencies. -/
set_option linter.unusedVariables false
set_option linter.unusedSimpArgs false
namespace Go.Proofs.YtlaodgbkpmdhoaaGreatDoor
open Go Go.Ab

def atT (v a : Int) : Term := ⟨v, a, ⟨0, 0, []⟩⟩
def bothA (op a : Int) : Atom := ⟨atT 1 a, op, atT 2 a⟩
def fdDen (s a : Nat) : Denial := ⟨2, ((bitsN s).map fun x : Nat => bothA 1 (x : Int)) ++ [bothA 2 (a : Int)]⟩
def fdL (s r : Nat) : List Denial := (bitsN (ndiff r s)).map (fdDen s)
theorem both_eq (op a : Int) : denial_both op a = some (bothA op a) := rfl
theorem equal_eq (a : Int) : drossref18_equal a = some (bothA 1 a) := rfl
def fdB (n s r : Nat) : Bool := decide ((s ||| r) < 2 ^ n)
theorem one_of {α : Type} {y x : α} {k : Nat} (h : [y][k]? = some x) : x = y := List.mem_singleton.1 (List.mem_of_getElem? h)
theorem closure_eq {n s r : Nat} (hn : n ≤ 16) (hs : s < 4294967296) (hr : r < 4294967296) : closure_Valid (n : Int) [⟨(s : Int), (r : Int)⟩] = some (if fdB n s r = true then 0 else 1) := by
  have hor := or_lt hs hr
  have hsh : ((Int.fdiv (((s ||| r : Nat) : Int)) (2 ^ (min ((n : Int)).toNat 32))) != 0) = !fdB n s r := by
    rw [Int.toNat_natCast, Nat.min_eq_left (show n ≤ 32 by omega), fdiv_pow]
    unfold fdB
    by_cases h : (s ||| r) < 2 ^ n
    · rw [Nat.div_eq_of_lt h]; simp [h]
    · have h2 := Nat.div_pos (show 2 ^ n ≤ (s ||| r) by omega) (Nat.pow_pos (n := n) (show 0 < 2 by omega))
      simp only [h, decide_false, Bool.not_false, bne_iff_ne, ne_eq]
      omega
  have h := LoopF_all [(⟨(s : Int), (r : Int)⟩ : FD)] (closure_Valid_l1 (n : Int) [⟨(s : Int), (r : Int)⟩]) (fun _ => fdB n s r) (1 : Int)
    (fun k x hx hk hp => by
      have hxe := one_of hx
      subst hxe
      simp only [closure_Valid_l1, if_pos (lt_true hx), idx_get hx, Option.bind_some, w32_or hs hr, if_neg (show ¬ (n : Int) < 0 by omega), hsh, hp, Bool.not_true, Bool.false_eq_true, if_false, wrap_succ hk (show [(⟨(s : Int), (r : Int)⟩ : FD)].length ≤ 4611686018427387904 by simp)])
    (fun k x hx hp => by
      have hxe := one_of hx
      subst hxe
      simp only [closure_Valid_l1, if_pos (lt_true hx), idx_get hx, Option.bind_some, w32_or hs hr, if_neg (show ¬ (n : Int) < 0 by omega), hsh, hp, Bool.not_false, if_true])
    (by simp [closure_Valid_l1])
  unfold closure_Valid
  rw [if_neg (by omega), if_neg (by omega), if_neg (by simp), h, Option.bind_some]
  cases hb : fdB n s r <;> simp
theorem atoms_l3 (l : List Nat) (hl : l.length ≤ 32) : LoopF (denial_FromFD_l3 (l.map fun x : Nat => (x : Int))) ([], 0) = some (l.map fun x : Nat => bothA 1 (x : Int)) := by
  have h := LoopF_foldl (l.map fun x : Nat => (x : Int)) (fun (b : List Atom) (i : Int) => (b, i)) (denial_FromFD_l3 (l.map fun x : Nat => (x : Int))) (fun b x => b ++ [bothA 1 x]) id (fun k b => b.length = k) (b0 := []) (s0 := ([], 0)) rfl rfl
    (fun k b x hx hk hI => by
      refine ⟨?_, by simp [hI]⟩
      rw [List.length_map] at hk
      simp only [denial_FromFD_l3, if_pos (lt_true hx), idx_get hx, Option.bind_some, both_eq, room_le (show b.length + 1 ≤ 1073741824 by omega) (show 104 ≤ 65536 by omega), if_true, wrap_succ hk (show l.length ≤ 4611686018427387904 by omega)])
    (fun b _ => by simp [denial_FromFD_l3])
  have key : ∀ (l : List Int) (b : List Atom), l.foldl (fun b x => b ++ [bothA 1 x]) b = b ++ l.map (bothA 1) := by
    intro l
    induction l with
    | nil => intro b; simp
    | cons x l ih => intro b; rw [List.foldl_cons, ih]; simp
  rw [h, id, key, List.nil_append, List.map_map]
  rfl
theorem FromFD_eq {n s r : Nat} (hn : n ≤ 16) (hs : s < 4294967296) (hr : r < 4294967296) : denial_FromFD (n : Int) ⟨(s : Int), (r : Int)⟩ = some (if fdB n s r = true then (fdL s r, 0) else ([], 1)) := by
  unfold denial_FromFD
  rw [closure_eq hn hs hr, Option.bind_some]
  by_cases hb : fdB n s r = true
  · have hd := ndiff_lt (b := s) hr
    simp only [hb, if_true, bne_self_eq_false, Bool.false_eq_true, if_false, w32_diff hr hs, MembersA_eq hd, Option.bind_some]
    have h := LoopF_foldl (bitsN (ndiff r s)) (fun (b : List Denial) (i : Int) => (b, i)) (denial_FromFD_l4 ⟨(s : Int), (r : Int)⟩ ((bitsN (ndiff r s)).map fun x : Nat => (x : Int))) (fun b x => b ++ [fdDen s x]) id (fun k b => b.length = k) (b0 := []) (s0 := ([], 0)) rfl rfl
      (fun k b x hx hk hI => by
        refine ⟨?_, by simp [hI]⟩
        have hl := bitsN_len (ndiff r s)
        have hls := bitsN_len s
        have hx' : ((bitsN (ndiff r s)).map fun x : Nat => (x : Int))[k]? = some (x : Int) := by rw [List.getElem?_map, hx]; rfl
        simp only [denial_FromFD_l4, List.length_map, if_pos (show (k : Int) < ((bitsN (ndiff r s)).length : Int) by omega), idx_get hx', Option.bind_some, MembersA_eq hs, atoms_l3 (bitsN s) hls, both_eq, List.length_map, room_le (show (bitsN s).length + 1 ≤ 1073741824 by omega) (show 104 ≤ 65536 by omega), room_le (show b.length + 1 ≤ 1073741824 by omega) (show 32 ≤ 65536 by omega), if_true, wrap_succ hk (show (bitsN (ndiff r s)).length ≤ 4611686018427387904 by omega)]
        rfl)
      (fun b _ => by simp [denial_FromFD_l4])
    rw [h, Option.bind_some]
    have key : ∀ (l : List Nat) (b : List Denial), l.foldl (fun b x => b ++ [fdDen s x]) b = b ++ l.map (fdDen s) := by
      intro l
      induction l with
      | nil => intro b; simp
      | cons x l ih => intro b; rw [List.foldl_cons, ih]; simp
    rw [id, key, List.nil_append]
    rfl
  · rw [if_neg hb, if_neg hb]; rfl
end Go.Proofs.YtlaodgbkpmdhoaaGreatDoor
/- Denial: constraints from order dependencies. -/
set_option linter.unusedVariables false
set_option linter.unusedSimpArgs false
namespace Go.Proofs.YtlaodgbkpmdhoaaGreatDoor
open Go Go.Ab

def lessA (a : Int) : Atom := ⟨atT 2 a, 3, atT 1 a⟩
def odPre (x : List Int) (i : Nat) : List Atom := (x.take i).map (bothA 1) ++ (match x[i]? with | some a => [bothA 3 a] | none => [])
def odDen (x y : List Int) (i j : Nat) : Denial := ⟨2, odPre x i ++ (y.take j).map (bothA 1) ++ [lessA (y.getD j 0)]⟩
def odL (x y : List Int) : List Denial := (List.range (x.length + 1)).flatMap fun i => (List.range y.length).map (odDen x y i)
theorem foldl_both : ∀ (l : List Int) (b : List Atom), l.foldl (fun b x => b ++ [bothA 1 x]) b = b ++ l.map (bothA 1)
  | [], b => by simp
  | x :: l, b => by rw [List.foldl_cons, foldl_both l]; simp
theorem take_loopP (l : List Int) (i : Nat) (hi : i ≤ l.length) (hl : l.length ≤ 8) (c : List Atom) (hc : c.length ≤ 100) (B : List Atom × Int → Option (LS (List Atom × Int) (List Atom)))
    (hB : ∀ (c : List Atom) (k : Int), B (c, k) = if k < ((l.take ((i : Int)).toNat).length : Int) then (idx (l.take ((i : Int)).toNat) k).bind fun x => (denial_both 1 x).bind fun r => if roomB (c.length + 1) 104 = true then some (.next ((c ++ [r]), (IntKind.i64.wrap (k + 1)))) else none else some (.done c)) :
    LoopF B (c, 0) = some (c ++ (l.take i).map (bothA 1)) := by
  have hlen : (l.take i).length ≤ 8 := by rw [List.length_take]; omega
  have h := LoopF_foldl (l.take i) (fun (b : List Atom) (k : Int) => (b, k)) B (fun b x => b ++ [bothA 1 x]) id (fun k b => b.length = c.length + k) (b0 := c) (s0 := (c, 0)) rfl rfl
    (fun k b x hx hk hI => by
      refine ⟨?_, by simp [hI]; omega⟩
      rw [hB, Int.toNat_natCast, if_pos (lt_true hx), idx_get hx]
      simp only [Option.bind_some, both_eq, room_le (show b.length + 1 ≤ 1073741824 by omega) (show 104 ≤ 65536 by omega), if_true, wrap_succ hk (show (l.take i).length ≤ 4611686018427387904 by omega)])
    (fun b _ => by rw [hB, Int.toNat_natCast, if_neg (by omega)]; rfl)
  rw [h, id, foldl_both]
theorem take_loopR (l : List Int) (i : Nat) (hi : i ≤ l.length) (hl : l.length ≤ 8) (c : List Atom) (hc : c.length ≤ 100) (B : List Atom × Int → Option (LS (List Atom × Int) (List Atom)))
    (hB : ∀ (c : List Atom) (k : Int), B (c, k) = if k < (i : Int) then (idx l k).bind fun x => (drossref18_equal x).bind fun r => if roomB (c.length + 1) 104 = true then some (.next ((c ++ [r]), (IntKind.i64.wrap (k + 1)))) else none else some (.done c)) :
    LoopF B (c, 0) = some (c ++ (l.take i).map (bothA 1)) := by
  have hlen : (l.take i).length = i := by rw [List.length_take]; omega
  have h := LoopF_foldl (l.take i) (fun (b : List Atom) (k : Int) => (b, k)) B (fun b x => b ++ [bothA 1 x]) id (fun k b => b.length = c.length + k) (b0 := c) (s0 := (c, 0)) rfl rfl
    (fun k b x hx hk hI => by
      refine ⟨?_, by simp [hI]; omega⟩
      have hx' : l[k]? = some x := by
        rw [List.getElem?_take] at hx
        split at hx
        · exact hx
        · cases hx
      rw [hB, if_pos (by omega), idx_get hx']
      simp only [Option.bind_some, equal_eq, room_le (show b.length + 1 ≤ 1073741824 by omega) (show 104 ≤ 65536 by omega), if_true, wrap_succ hk (show (l.take i).length ≤ 4611686018427387904 by omega)])
    (fun b _ => by rw [hB, hlen, if_neg (by omega)]; rfl)
  rw [h, id, foldl_both]
theorem odPre_len (x : List Int) (i : Nat) (hx : x.length ≤ 8) : (odPre x i).length ≤ 9 := by
  unfold odPre
  rw [List.length_append, List.length_map, List.length_take]
  cases x[i]? <;> simp <;> omega
theorem getD_g18 {l : List Int} {j : Nat} {a : Int} (h : l[j]? = some a) : l.getD j 0 = a := by rw [List.getD_eq_getElem?_getD, h]; rfl
theorem od_l30 (x y : List Int) (hx : x.length ≤ 8) (hy : y.length ≤ 8) (i : Nat) (hi : i ≤ x.length) (out : List Denial) (ho : out.length ≤ 1000) :
    LoopF (denial_FromOD_l30 ⟨x, y⟩ (i : Int)) (out, 0) = some (out ++ (List.range y.length).map (odDen x y i)) := by
  have h := LoopF_foldl (List.range y.length) (fun (b : List Denial) (k : Int) => (b, k)) (denial_FromOD_l30 ⟨x, y⟩ (i : Int)) (fun b j => b ++ [odDen x y i j]) id (fun k b => b.length = out.length + k) (b0 := out) (s0 := (out, 0)) rfl rfl
    (fun k b j hj hk hI => by
      rw [List.length_range] at hk
      obtain ⟨rfl, _⟩ := range_at hj
      refine ⟨?_, by simp [hI]; omega⟩
      have hyj : y[j]? = some (y[j]'hk) := List.getElem?_eq_getElem hk
      have e27 := take_loopP x i hi hx [] (by simp) (denial_FromOD_l27 ⟨x, y⟩ (i : Int)) (fun c k => rfl)
      have hmap : ((x.take i).map (bothA 1)).length ≤ 8 := by rw [List.length_map, List.length_take]; omega
      have hty : ((y.take j).map (bothA 1)).length ≤ 8 := by rw [List.length_map, List.length_take]; omega
      rw [List.nil_append] at e27
      simp only [denial_FromOD_l30, if_pos (show (j : Int) < (y.length : Int) by omega), if_pos (show (0 : Int) ≤ (i : Int) by omega), if_pos (show (i : Int) ≤ (x.length : Int) by omega), e27, Option.bind_some, if_pos (show (0 : Int) ≤ (j : Int) by omega), if_pos (show (j : Int) ≤ (y.length : Int) by omega)]
      by_cases hlt : i < x.length
      · have hxi : x[i]? = some (x[i]'hlt) := List.getElem?_eq_getElem hlt
        have e28 := take_loopP y j (by omega) hy ((x.take i).map (bothA 1) ++ [bothA 3 (x[i]'hlt)]) (by simp at hmap ⊢; omega) (denial_FromOD_l28 ⟨x, y⟩ (j : Int)) (fun c k => rfl)
        simp only [if_pos (show (i : Int) < (x.length : Int) by omega), idx_get hxi, Option.bind_some, both_eq, room_le (show ((x.take i).map (bothA 1)).length + 1 ≤ 1073741824 by omega) (show 104 ≤ 65536 by omega), if_true, e28, idx_get hyj, denial_of]
        rw [if_pos (room_le (by simp at hmap hty ⊢; omega) (by omega)), if_pos (room_le (by omega) (by omega)), wrap_succ hk (by omega)]
        simp only [odDen, odPre, hxi, getD_g18 hyj]
        rfl
      · have hxi : x[i]? = none := List.getElem?_eq_none (by omega)
        have e29 := take_loopP y j (by omega) hy ((x.take i).map (bothA 1)) (by omega) (denial_FromOD_l29 ⟨x, y⟩ (j : Int)) (fun c k => rfl)
        simp only [if_neg (show ¬ (i : Int) < (x.length : Int) by omega), e29, Option.bind_some, idx_get hyj, denial_of]
        rw [if_pos (room_le (by simp at hmap hty ⊢; omega) (by omega)), if_pos (room_le (by omega) (by omega)), wrap_succ hk (by omega)]
        simp only [odDen, odPre, hxi, getD_g18 hyj, List.append_nil]
        rfl)
    (fun b _ => by simp [denial_FromOD_l30])
  have key : ∀ (l : List Nat) (b : List Denial), l.foldl (fun b j => b ++ [odDen x y i j]) b = b ++ l.map (odDen x y i) := by
    intro l
    induction l with
    | nil => intro b; simp
    | cons z l ih => intro b; rw [List.foldl_cons, ih]; simp
  rw [h, id, key]
theorem ref_od_l30 (x y : List Int) (hx : x.length ≤ 8) (hy : y.length ≤ 8) (i : Nat) (hi : i ≤ x.length) (out : List Denial) (ho : out.length ≤ 1000) :
    LoopF (drossref18_FromOD_l30 x y (i : Int)) (out, 0) = some (out ++ (List.range y.length).map (odDen x y i)) := by
  have h := LoopF_foldl (List.range y.length) (fun (b : List Denial) (k : Int) => (b, k)) (drossref18_FromOD_l30 x y (i : Int)) (fun b j => b ++ [odDen x y i j]) id (fun k b => b.length = out.length + k) (b0 := out) (s0 := (out, 0)) rfl rfl
    (fun k b j hj hk hI => by
      rw [List.length_range] at hk
      obtain ⟨rfl, _⟩ := range_at hj
      refine ⟨?_, by simp [hI]; omega⟩
      have hyj : y[j]? = some (y[j]'hk) := List.getElem?_eq_getElem hk
      have e27 := take_loopR x i hi hx [] (by simp) (drossref18_FromOD_l27 x (i : Int)) (fun c k => rfl)
      have hmap : ((x.take i).map (bothA 1)).length ≤ 8 := by rw [List.length_map, List.length_take]; omega
      have hty : ((y.take j).map (bothA 1)).length ≤ 8 := by rw [List.length_map, List.length_take]; omega
      rw [List.nil_append] at e27
      simp only [drossref18_FromOD_l30, if_pos (show (j : Int) < (y.length : Int) by omega), e27, Option.bind_some]
      by_cases hlt : i < x.length
      · have hxi : x[i]? = some (x[i]'hlt) := List.getElem?_eq_getElem hlt
        have e28 := take_loopR y j (by omega) hy ((x.take i).map (bothA 1) ++ [bothA 3 (x[i]'hlt)]) (by simp at hmap ⊢; omega) (drossref18_FromOD_l28 y (j : Int)) (fun c k => rfl)
        have e28' : LoopF (drossref18_FromOD_l28 y (j : Int)) ((x.take i).map (bothA 1) ++ [⟨⟨1, x[i]'hlt, ⟨0, 0, []⟩⟩, 3, ⟨2, x[i]'hlt, ⟨0, 0, []⟩⟩⟩], 0) = _ := e28
        simp only [if_pos (show (i : Int) < (x.length : Int) by omega), idx_get hxi, Option.bind_some, drossref18_at, room_le (show ((x.take i).map (bothA 1)).length + 1 ≤ 1073741824 by omega) (show 104 ≤ 65536 by omega), if_true, e28', idx_get hyj]
        rw [if_pos (room_le (by simp at hmap hty ⊢; omega) (by omega)), if_pos (room_le (by omega) (by omega)), wrap_succ hk (by omega)]
        simp only [odDen, odPre, hxi, getD_g18 hyj]
        rfl
      · have hxi : x[i]? = none := List.getElem?_eq_none (by omega)
        have e29 := take_loopR y j (by omega) hy ((x.take i).map (bothA 1)) (by omega) (drossref18_FromOD_l29 y (j : Int)) (fun c k => rfl)
        simp only [if_neg (show ¬ (i : Int) < (x.length : Int) by omega), e29, Option.bind_some, idx_get hyj, drossref18_at]
        rw [if_pos (room_le (by simp at hmap hty ⊢; omega) (by omega)), if_pos (room_le (by omega) (by omega)), wrap_succ hk (by omega)]
        simp only [odDen, odPre, hxi, getD_g18 hyj, List.append_nil]
        rfl)
    (fun b _ => by simp [drossref18_FromOD_l30])
  have key : ∀ (l : List Nat) (b : List Denial), l.foldl (fun b j => b ++ [odDen x y i j]) b = b ++ l.map (odDen x y i) := by
    intro l
    induction l with
    | nil => intro b; simp
    | cons z l ih => intro b; rw [List.foldl_cons, ih]; simp
  rw [h, id, key]
theorem od_outer (x y : List Int) (hx : x.length ≤ 8) (hy : y.length ≤ 8) (B : List Denial × Int → Option (LS (List Denial × Int) (List Denial)))
    (hB : ∀ (i : Nat) (out : List Denial), i ≤ x.length → out.length ≤ 1000 → B (out, (i : Int)) = some (.next (out ++ (List.range y.length).map (odDen x y i), IntKind.i64.wrap ((i : Int) + 1))))
    (hE : ∀ out, B (out, ((x.length + 1 : Nat) : Int)) = some (.done out)) : LoopF B ([], 0) = some (odL x y) := by
  have h := LoopF_foldl (List.range (x.length + 1)) (fun (b : List Denial) (k : Int) => (b, k)) B (fun b i => b ++ (List.range y.length).map (odDen x y i)) id (fun k b => b.length = k * y.length) (b0 := []) (s0 := ([], 0)) rfl (by simp)
    (fun k b i hi hk hI => by
      rw [List.length_range] at hk
      obtain ⟨rfl, _⟩ := range_at hi
      refine ⟨?_, by simp [hI, Nat.succ_mul]⟩
      have : i * y.length ≤ 8 * 8 := Nat.mul_le_mul (by omega) hy
      rw [hB i b (by omega) (by omega), wrap_nat (by omega)])
    (fun b _ => by rw [List.length_range]; exact hE b)
  have key : ∀ (l : List Nat) (b : List Denial), l.foldl (fun b i => b ++ (List.range y.length).map (odDen x y i)) b = b ++ l.flatMap fun i => (List.range y.length).map (odDen x y i) := by
    intro l
    induction l with
    | nil => intro b; simp
    | cons z l ih => intro b; rw [List.foldl_cons, ih, List.flatMap_cons, List.append_assoc]
  rw [h, id, key, List.nil_append]
  rfl
theorem onceL_len18 (l : List Int) : (onceL l).length ≤ l.length := by
  have key : ∀ (l o : List Int), (l.foldl onceF o).length ≤ o.length + l.length := by
    intro l
    induction l with
    | nil => intro o; simp
    | cons x l ih =>
      intro o
      rw [List.foldl_cons]
      have h1 := ih (onceF o x)
      have h2 := onceF_len o x
      simp only [List.length_cons]; omega
  have := key l []
  simpa [onceL] using this
theorem listB_len {n : Int} {l : List Int} (h : listB n l = true) : l.length ≤ 8 := by
  simp only [listB, Bool.and_eq_true, decide_eq_true_eq] at h
  omega
def odOk (n : Int) (d : OD) : Bool := decide (0 ≤ n ∧ n ≤ 16) && validB n d
def odR (n : Int) (d : OD) : List Denial × Int := if odOk n d = true then (odL (onceL d.Lhs) (onceL d.Rhs), 0) else ([], 1)
theorem FromOD_eq (n : Int) (d : OD) (h1 : d.Lhs.length ≤ 1048576) (h2 : d.Rhs.length ≤ 1048576) : denial_FromOD n d = some (odR n d) := by
  unfold denial_FromOD denial_inRange odR odOk
  by_cases hn : n ≥ 0
  · rw [if_pos hn, Option.bind_some]
    by_cases hn2 : n ≤ 16
    · simp only [hn2, decide_true, if_true, Valid_eq n d (by omega) (by omega), Option.bind_some, hn, and_self, Bool.true_and]
      cases hv : validB n d with
      | false => rfl
      | true =>
        simp only [if_true, Normal_eq d h1 h2, Option.bind_some]
        simp only [validB, Bool.and_eq_true] at hv
        have hx : (onceL d.Lhs).length ≤ 8 := Nat.le_trans (onceL_len18 _) (listB_len hv.1)
        have hy : (onceL d.Rhs).length ≤ 8 := Nat.le_trans (onceL_len18 _) (listB_len hv.2)
        have hw : IntKind.i64.wrap (((onceL d.Lhs).length : Int) + 1) = (((onceL d.Lhs).length + 1 : Nat) : Int) := wrap_nat (by omega)
        rw [od_outer (onceL d.Lhs) (onceL d.Rhs) hx hy (denial_FromOD_l31 ⟨onceL d.Lhs, onceL d.Rhs⟩) (fun i out hi ho => by
          simp only [denial_FromOD_l31, hw, if_pos (show (i : Int) < (((onceL d.Lhs).length + 1 : Nat) : Int) by omega), od_l30 _ _ hx hy i hi out ho, Option.bind_some])
          (fun out => by simp only [denial_FromOD_l31, hw, if_neg (show ¬ (((onceL d.Lhs).length + 1 : Nat) : Int) < (((onceL d.Lhs).length + 1 : Nat) : Int) by omega)])]
        rfl
    · simp [hn2]
  · rw [if_neg hn, Option.bind_some]; simp [hn]
theorem ref_FromOD_eq (n : Int) (d : OD) (h1 : d.Lhs.length ≤ 1048576) (h2 : d.Rhs.length ≤ 1048576) : drossref18_FromOD n d = some (odR n d) := by
  unfold drossref18_FromOD drossref18_range16 odR odOk
  by_cases hn : n ≥ 0
  · rw [if_pos hn, Option.bind_some]
    by_cases hn2 : n ≤ 16
    · simp only [hn2, decide_true, if_true, ref_Valid_eq17 n d (by omega) (by omega), Option.bind_some, hn, and_self, Bool.true_and]
      cases hv : validB n d with
      | false => rfl
      | true =>
        simp only [if_true, ref_Once_eq _ h1, ref_Once_eq _ h2, Option.bind_some]
        simp only [validB, Bool.and_eq_true] at hv
        have hx : (onceL d.Lhs).length ≤ 8 := Nat.le_trans (onceL_len18 _) (listB_len hv.1)
        have hy : (onceL d.Rhs).length ≤ 8 := Nat.le_trans (onceL_len18 _) (listB_len hv.2)
        rw [od_outer (onceL d.Lhs) (onceL d.Rhs) hx hy (drossref18_FromOD_l31 (onceL d.Lhs) (onceL d.Rhs)) (fun i out hi ho => by
          simp only [drossref18_FromOD_l31, if_pos (show (i : Int) ≤ ((onceL d.Lhs).length : Int) by omega), ref_od_l30 _ _ hx hy i hi out ho, Option.bind_some])
          (fun out => by simp only [drossref18_FromOD_l31, if_neg (show ¬ (((onceL d.Lhs).length + 1 : Nat) : Int) ≤ ((onceL d.Lhs).length : Int) by omega)])]
        rfl
    · simp [hn2]
  · rw [if_neg hn, Option.bind_some]; simp [hn]
end Go.Proofs.YtlaodgbkpmdhoaaGreatDoor
/- Denial: matrices of what is known about terms. -/
set_option linter.unusedVariables false
set_option linter.unusedSimpArgs false
namespace Go.Ab
open Go
abbrev FnM := Nat → Nat → Int
def rowF (n : Nat) (F : FnM) (i : Nat) : List Int := (List.range n).map (F i)
def matF (n : Nat) (F : FnM) : List (List Int) := (List.range n).map (rowF n F)
def updM (F : FnM) (i j : Nat) (v : Int) : FnM := fun a b => if a = i ∧ b = j then v else F a b
def supM (n : Nat) (F : FnM) : Prop := ∀ i j, n ≤ i ∨ n ≤ j → F i j = 0
def zeroF : FnM := fun _ _ => 0
theorem matF_len (n : Nat) (F : FnM) : (matF n F).length = n := by simp [matF]
theorem rowF_len (n : Nat) (F : FnM) (i : Nat) : (rowF n F i).length = n := by simp [rowF]
theorem matF_get {n : Nat} {F : FnM} {i : Nat} (h : i < n) : (matF n F)[i]? = some (rowF n F i) := by
  unfold matF; rw [List.getElem?_map, List.getElem?_range h]; rfl
theorem rowF_get {n : Nat} {F : FnM} {i j : Nat} (h : j < n) : (rowF n F i)[j]? = some (F i j) := by
  unfold rowF; rw [List.getElem?_map, List.getElem?_range h]; rfl
theorem matF_set {n : Nat} {F : FnM} {i j : Nat} {v : Int} (hi : i < n) (hj : j < n) : (matF n F).set i ((rowF n F i).set j v) = matF n (updM F i j v) := by
  apply List.ext_getElem?
  intro a
  by_cases ha : a < n
  · rw [matF_get ha]
    by_cases hai : a = i
    · subst hai
      rw [List.getElem?_set_self (by rw [matF_len]; exact ha)]
      congr 1
      apply List.ext_getElem?
      intro b
      by_cases hb : b < n
      · rw [rowF_get hb]
        by_cases hbj : b = j
        · subst hbj
          rw [List.getElem?_set_self (by rw [rowF_len]; exact hb)]
          simp [updM]
        · rw [List.getElem?_set_ne (fun e => hbj e.symm), rowF_get hb]
          simp [updM, hbj]
      · rw [List.getElem?_eq_none (by rw [List.length_set, rowF_len]; omega), List.getElem?_eq_none (by rw [rowF_len]; omega)]
    · rw [List.getElem?_set_ne (fun e => hai e.symm), matF_get ha]
      congr 1
      unfold rowF
      apply List.map_congr_left
      intro b _
      simp [updM, hai]
  · rw [List.getElem?_eq_none (by rw [List.length_set, matF_len]; omega), List.getElem?_eq_none (by rw [matF_len]; omega)]
theorem matF_grow {n : Nat} {F : FnM} (h : supM n F) : (matF n F).map (fun x => x ++ [0]) ++ [List.replicate (n + 1) 0] = matF (n + 1) F := by
  have hrow : ∀ i, rowF (n + 1) F i = rowF n F i ++ [F i n] := fun i => by unfold rowF; rw [List.range_succ, List.map_append]; rfl
  unfold matF
  rw [List.range_succ, List.map_append, List.map_map]
  congr 1
  · apply List.map_congr_left
    intro i _
    show rowF n F i ++ [0] = rowF (n + 1) F i
    rw [hrow, h i n (.inr (Nat.le_refl _))]
  · rw [List.map_singleton]
    congr 1
    apply List.ext_getElem?
    intro j
    by_cases hj : j < n + 1
    · rw [rowF_get hj, h n j (.inl (Nat.le_refl _))]
      simp [hj]
    · rw [List.getElem?_eq_none (by simp; omega), List.getElem?_eq_none (by rw [rowF_len]; omega)]
theorem supM_upd {n : Nat} {F : FnM} {i j : Nat} {v : Int} (h : supM n F) (hi : i < n) (hj : j < n) : supM n (updM F i j v) := by
  intro a b hab
  unfold updM
  rw [if_neg (by omega)]
  exact h a b hab
theorem supM_le {n m : Nat} {F : FnM} (h : supM n F) (hm : n ≤ m) : supM m F := fun i j hij => h i j (by omega)
/-- the loop that adds a column -/
theorem grow_loop18 (M : List (List Int)) (n : Nat) (hn : M.length = n) (hle : n ≤ 1000) (hr : ∀ x ∈ M, x.length ≤ 1000) (B : List (List Int) × Int → Option (LS (List (List Int) × Int) (List (List Int))))
    (hB : ∀ (o : List (List Int)) (k : Int), B (o, k) = if n ≤ o.length then (if k < (n : Int) then (idx o k).bind fun x => if roomB (x.length + 1) 8 = true then some (.next ((o.set k.toNat (x ++ [0])), (IntKind.i64.wrap (k + 1)))) else none else some (.done o)) else none) :
    LoopF B (M, 0) = some (M.map fun x => x ++ [0]) := by
  have h := LoopF_foldl M (fun (_ : Unit) (i : Int) => ((M.take i.toNat).map (fun x => x ++ [0]) ++ M.drop i.toNat, i)) B (fun b _ => b) (fun _ => M.map fun x => x ++ [0]) (fun _ _ => True) (b0 := ()) (s0 := (M, 0)) (by simp) trivial
    (fun k b x hx hk _ => by
      refine ⟨?_, trivial⟩
      simp only [Int.toNat_natCast]
      have hlen : ((M.take k).map (fun x => x ++ [0]) ++ M.drop k).length = M.length := by simp; omega
      have hd : M.drop k = x :: M.drop (k + 1) := by
        have := List.drop_eq_getElem_cons hk
        rw [this]; congr 1
        rw [List.getElem?_eq_getElem hk] at hx
        exact Option.some.inj hx
      have hg : ((M.take k).map (fun x => x ++ [0]) ++ M.drop k)[k]? = some x := by
        rw [List.getElem?_append_right (by simp; omega), List.length_map, List.length_take, Nat.min_eq_left (by omega), Nat.sub_self, hd]; rfl
      have hxl := hr x (List.mem_of_getElem? hx)
      rw [hB, if_pos (by omega), if_pos (by omega), idx_get hg, Option.bind_some, if_pos (room8 (by omega)), Int.toNat_natCast, wrap_succ hk (by omega)]
      congr 3
      rw [List.set_append_right _ _ (by simp; omega), List.length_map, List.length_take, Nat.min_eq_left (by omega), Nat.sub_self, hd, List.set_cons_zero, List.take_add_one, hx, List.map_append]
      simp)
    (fun b _ => by
      rw [hB, if_pos (by simp; omega), if_neg (by omega)]
      simp)
  exact h
/-! ### the closure -/
def mx3 (a b c : Int) : Int := max a (max b c)
def stepC18 (k i : Nat) (F : FnM) (j : Nat) : FnM := if 0 < F i k ∧ 0 < F k j then updM F i j (mx3 (F i j) (F i k) (F k j)) else F
def rowC18 (n k : Nat) (F : FnM) (i : Nat) : FnM := (List.range n).foldl (stepC18 k i) F
def layC18 (n : Nat) (F : FnM) (k : Nat) : FnM := (List.range n).foldl (rowC18 n k) F
def closeF (n : Nat) (F : FnM) : FnM := (List.range n).foldl (layC18 n) F
/-- a loop over the numbers below n that changes a matrix -/
theorem mat_loop (n : Nat) (hn : n ≤ 1000) (B : List (List Int) × Int → Option (LS (List (List Int) × Int) (List (List Int)))) (g : FnM → Nat → FnM)
    (hB : ∀ (F : FnM) (k : Nat), k < n → B (matF n F, (k : Int)) = some (.next (matF n (g F k), IntKind.i64.wrap ((k : Int) + 1)))) (hE : ∀ F, B (matF n F, (n : Int)) = some (.done (matF n F))) (F : FnM) :
    LoopF B (matF n F, 0) = some (matF n ((List.range n).foldl g F)) := by
  have h := LoopF_foldl (List.range n) (fun (F : FnM) (i : Int) => (matF n F, i)) B g (fun F => matF n F) (fun _ _ => True) (b0 := F) (s0 := (matF n F, 0)) rfl trivial
    (fun k F x hx hk _ => by
      rw [List.length_range] at hk
      obtain ⟨rfl, _⟩ := Go.Proofs.YtlaodgbkpmdhoaaGreatDoor.range_at hx
      exact ⟨by rw [hB F x hk, wrap_succ hk (by omega)], trivial⟩)
    (fun F _ => by rw [List.length_range]; exact hE F)
  exact h
theorem ite_max (a b : Int) : (if b > a then b else a) = max a b := by
  by_cases h : b > a
  · rw [if_pos h, Int.max_eq_right (by omega)]
  · rw [if_neg h, Int.max_eq_left (by omega)]
end Go.Ab
namespace Go.Proofs.YtlaodgbkpmdhoaaGreatDoor
open Go Go.Ab
theorem clo_47 (T : List Term) {n : Nat} (hT : T.length = n) (hn : n ≤ 1000) (M : List (List Int)) (hM : M.length = n) {k i : Nat} (hk : k < n) (hi : i < n) (F : FnM) :
    LoopF (denial_Contradictory_l47 T M (k : Int) (i : Int)) (matF n F, 0) = some (matF n (rowC18 n k F i)) := by
  refine mat_loop n hn _ (stepC18 k i) (fun F j hj => ?_) (fun F => ?_) F
  · have e1 := matF_get (F := F) hi
    have e2 := matF_get (F := F) hk
    have e3 := rowF_get (F := F) (i := i) hk
    have e4 := rowF_get (F := F) (i := k) hj
    have e5 := rowF_get (F := F) (i := i) hj
    simp only [denial_Contradictory_l47, matF_len, hM, Nat.le_refl, if_true, hT, if_pos (show (j : Int) < (n : Int) by omega), idx_get e1, idx_get e2, idx_get e3, idx_get e4, idx_get e5, Option.bind_some]
    unfold stepC18
    by_cases h1 : 0 < F i k
    · simp only [if_pos (show F i k > 0 from h1), Option.bind_some]
      by_cases h2 : 0 < F k j
      · simp only [if_pos (show 0 < F i k ∧ 0 < F k j from ⟨h1, h2⟩), show decide (F k j > 0) = true by simpa using h2, if_true, Int.toNat_natCast, matF_set hi hj, ite_max]
        rfl
      · simp only [if_neg (show ¬ (0 < F i k ∧ 0 < F k j) from fun h => h2 h.2), show decide (F k j > 0) = false by simpa using h2, Bool.false_eq_true, if_false]
    · simp only [if_neg (show ¬ (F i k > 0) from h1), Option.bind_some, if_neg (show ¬ (0 < F i k ∧ 0 < F k j) from fun h => h1 h.1), Bool.false_eq_true, if_false]
  · simp [denial_Contradictory_l47, matF_len, hM, hT]
theorem clo_48 (T : List Term) {n : Nat} (hT : T.length = n) (hn : n ≤ 1000) (M : List (List Int)) (hM : M.length = n) {k : Nat} (hk : k < n) (F : FnM) :
    LoopF (denial_Contradictory_l48 T M (k : Int)) (matF n F, 0) = some (matF n (layC18 n F k)) := by
  refine mat_loop n hn _ (rowC18 n k) (fun F i hi => ?_) (fun F => ?_) F
  · simp only [denial_Contradictory_l48, matF_len, hM, Nat.le_refl, if_true, hT, if_pos (show (i : Int) < (n : Int) by omega), clo_47 T hT hn M hM hk hi, Option.bind_some]
  · simp [denial_Contradictory_l48, matF_len, hM, hT]
theorem clo_49 (T : List Term) {n : Nat} (hT : T.length = n) (hn : n ≤ 1000) (M : List (List Int)) (hM : M.length = n) (F : FnM) :
    LoopF (denial_Contradictory_l49 T M) (matF n F, 0) = some (matF n (closeF n F)) := by
  refine mat_loop n hn _ (layC18 n) (fun F i hi => ?_) (fun F => ?_) F
  · simp only [denial_Contradictory_l49, matF_len, hM, Nat.le_refl, if_true, hT, if_pos (show (i : Int) < (n : Int) by omega), clo_48 T hT hn M hM hi, Option.bind_some]
  · simp [denial_Contradictory_l49, matF_len, hM, hT]
/-- constants -/
def cLess (a b : Term) : Bool := decide (a.Var = 0) && (decide (b.Var = 0) && decide (vcmp a.Value b.Value < 0))
def putM (F : FnM) (i j : Nat) (w : Int) : FnM := updM F i j (max (F i j) w)
def termAt (T : List Term) (i : Nat) : Term := T.getD i ⟨0, 0, ⟨0, 0, []⟩⟩
def constRow (T : List Term) (i : Nat) (F : FnM) (j : Nat) : FnM := if cLess (termAt T i) (termAt T j) = true then putM F i j 2 else F
def constM (T : List Term) (F : FnM) : FnM := (List.range T.length).foldl (fun F i => (List.range T.length).foldl (constRow T i) F) F
theorem termAt_get {T : List Term} {i : Nat} (h : i < T.length) : T[i]? = some (termAt T i) := by
  unfold termAt
  rw [List.getD_eq_getElem?_getD, List.getElem?_eq_getElem h]; rfl
theorem const_22 (T : List Term) (hn : T.length ≤ 1000) {i : Nat} (hi : i < T.length) (F : FnM) : LoopF (denial_Contradictory_l22 T (i : Int) (termAt T i)) (matF T.length F, 0) = some (matF T.length ((List.range T.length).foldl (constRow T i) F)) := by
  refine mat_loop T.length hn _ (constRow T i) (fun F j hj => ?_) (fun F => ?_) F
  · have e1 := matF_get (F := F) hi
    have e2 := rowF_get (F := F) (i := i) hj
    have ht := termAt_get hj
    simp only [denial_Contradictory_l22, if_pos (show (j : Int) < ((T.length : Nat) : Int) by omega), idx_get ht, Option.bind_some]
    unfold constRow cLess
    by_cases h1 : (termAt T i).Var = 0
    · rw [if_pos (by simpa using h1)]
      by_cases h2 : (termAt T j).Var = 0
      · rw [if_pos (by simpa using h2)]
        simp only [value_Compare_eq, Option.bind_some, h1, h2, decide_true, Bool.true_and]
        cases decide (vcmp (termAt T i).Value (termAt T j).Value < 0) with
        | true =>
          simp only [if_true, idx_get e1, idx_get e2, Option.bind_some, Int.toNat_natCast, matF_set hi hj, ite_max]
          rfl
        | false => simp only [Bool.false_eq_true, if_false]
      · rw [if_neg (by simpa using h2)]
        simp [h2]
    · rw [if_neg (by simpa using h1)]
      simp [h1]
  · simp [denial_Contradictory_l22]
theorem const_23 (T : List Term) (hn : T.length ≤ 1000) (F : FnM) : LoopF (denial_Contradictory_l23 T) (matF T.length F, 0) = some (matF T.length (constM T F)) := by
  refine mat_loop T.length hn _ (fun F i => (List.range T.length).foldl (constRow T i) F) (fun F i hi => ?_) (fun F => ?_) F
  · have ht := termAt_get hi
    simp only [denial_Contradictory_l23, if_pos (show (i : Int) < ((T.length : Nat) : Int) by omega), idx_get ht, Option.bind_some, const_22 T hn hi]
  · simp [denial_Contradictory_l23]
end Go.Proofs.YtlaodgbkpmdhoaaGreatDoor
/- Denial: what Contradictory computes. -/
set_option linter.unusedVariables false
set_option linter.unusedSimpArgs false
namespace Go.Proofs.YtlaodgbkpmdhoaaGreatDoor
open Go Go.Ab

theorem teq_eq (v x : Term) : ((v.Var == x.Var) && ((v.Attr == x.Attr) && ((v.Value.Kind == x.Value.Kind) && ((v.Value.Num == x.Value.Num) && (v.Value.Str == x.Value.Str))))) = decide (x = v) := by
  obtain ⟨a, b, ⟨c, d, e⟩⟩ := v
  obtain ⟨a', b', ⟨c', d', e'⟩⟩ := x
  rw [Bool.eq_iff_iff]
  simp only [Bool.and_eq_true, beq_iff_eq, decide_eq_true_eq, Term.mk.injEq, Value.mk.injEq]
  constructor
  · rintro ⟨rfl, rfl, rfl, rfl, rfl⟩; exact ⟨rfl, rfl, rfl, rfl, rfl⟩
  · rintro ⟨rfl, rfl, rfl, rfl, rfl⟩; exact ⟨rfl, rfl, rfl, rfl, rfl⟩
def posT (T : List Term) (t : Term) : Nat := (T.findIdx? fun y => decide (y = t)).getD T.length
theorem posT_mem {T : List Term} {t : Term} (h : t ∈ T) : (T.findIdx? fun y => decide (y = t)) = some (posT T t) ∧ posT T t < T.length := by
  unfold posT
  cases hf : T.findIdx? fun y => decide (y = t) with
  | none =>
    rw [List.findIdx?_eq_none_iff] at hf
    have := hf t h
    simp at this
  | some i =>
    rw [List.findIdx?_eq_some_iff_getElem] at hf
    obtain ⟨hi, _⟩ := hf
    exact ⟨rfl, hi⟩
theorem posT_not {T : List Term} {t : Term} (h : t ∉ T) : (T.findIdx? fun y => decide (y = t)) = none ∧ posT T t = T.length := by
  have hf : (T.findIdx? fun y => decide (y = t)) = none := by
    rw [List.findIdx?_eq_none_iff]
    intro x hx
    simp only [decide_eq_false_iff_not]
    rintro rfl; exact h hx
  exact ⟨hf, by unfold posT; rw [hf]; rfl⟩
theorem Index_Term_eq (T : List Term) (t : Term) (hl : T.length ≤ 1000000) : slices_Index_Term T t = some (if t ∈ T then (posT T t : Int) else -1) := by
  have h := LoopF_find T (slices_Index_Term_l1 T t) (fun y => decide (y = t))
    (fun k x hx hk hp => by simp only [slices_Index_Term_l1, if_pos (lt_true hx), idx_get hx, Option.bind_some, teq_eq, hp, Bool.false_eq_true, if_false, wrap_succ hk (show T.length ≤ 4611686018427387904 by omega)])
    (fun k x hx hp => by simp only [slices_Index_Term_l1, if_pos (lt_true hx), idx_get hx, Option.bind_some, teq_eq, hp, if_true])
    (by simp [slices_Index_Term_l1])
  unfold slices_Index_Term
  rw [h, Option.bind_some]
  by_cases hm : t ∈ T
  · rw [if_pos hm, (posT_mem hm).1]
  · rw [if_neg hm, (posT_not hm).1]
def nodeT (T : List Term) (t : Term) : List Term := if t ∈ T then T else T ++ [t]
def nodeF (T : List Term) (F : FnM) (t : Term) : FnM := if t ∈ T then F else updM F T.length T.length 1
def putsA (op : Int) (l r : Nat) (F : FnM) : FnM := if op = 1 then putM (putM F l r 1) r l 1 else if op = 3 then putM F l r 2 else if op = 4 then putM F l r 1 else F
def stepA18 (S : List Term × FnM) (a : Atom) : List Term × FnM :=
  (nodeT (nodeT S.1 a.Left) a.Right, putsA a.Op (posT S.1 a.Left) (posT (nodeT S.1 a.Left) a.Right) (nodeF (nodeT S.1 a.Left) (nodeF S.1 S.2 a.Left) a.Right))
theorem nodeT_len (T : List Term) (t : Term) : T.length ≤ (nodeT T t).length ∧ (nodeT T t).length ≤ T.length + 1 ∧ posT T t < (nodeT T t).length := by
  unfold nodeT
  by_cases h : t ∈ T
  · rw [if_pos h]; exact ⟨by omega, by omega, (posT_mem h).2⟩
  · rw [if_neg h, (posT_not h).2]; simp
theorem node_sup {T : List Term} {F : FnM} (t : Term) (h : supM T.length F) : supM (nodeT T t).length (nodeF T F t) := by
  unfold nodeT nodeF
  by_cases hm : t ∈ T
  · rw [if_pos hm, if_pos hm]; exact h
  · rw [if_neg hm, if_neg hm]
    rw [show (T ++ [t]).length = T.length + 1 by simp]
    exact supM_upd (supM_le h (by omega)) (by omega) (by omega)
theorem putM_sup {n : Nat} {F : FnM} {i j : Nat} {w : Int} (h : supM n F) (hi : i < n) (hj : j < n) : supM n (putM F i j w) := supM_upd h hi hj
theorem putsA_sup {n : Nat} {F : FnM} {l r : Nat} (op : Int) (h : supM n F) (hl : l < n) (hr : r < n) : supM n (putsA op l r F) := by
  unfold putsA
  split
  · exact putM_sup (putM_sup h hl hr) hr hl
  · split
    · exact putM_sup h hl hr
    · split
      · exact putM_sup h hl hr
      · exact h
theorem step_sup {S : List Term × FnM} (a : Atom) (h : supM S.1.length S.2) : supM (stepA18 S a).1.length (stepA18 S a).2 := by
  have h1 := nodeT_len S.1 a.Left
  have h2 := nodeT_len (nodeT S.1 a.Left) a.Right
  exact putsA_sup _ (node_sup a.Right (node_sup a.Left h)) (show posT S.1 a.Left < (nodeT (nodeT S.1 a.Left) a.Right).length by omega) h2.2.2
theorem step_len (S : List Term × FnM) (a : Atom) : S.1.length ≤ (stepA18 S a).1.length ∧ (stepA18 S a).1.length ≤ S.1.length + 2 := by
  have h1 := nodeT_len S.1 a.Left
  have h2 := nodeT_len (nodeT S.1 a.Left) a.Right
  show S.1.length ≤ (nodeT (nodeT S.1 a.Left) a.Right).length ∧ (nodeT (nodeT S.1 a.Left) a.Right).length ≤ S.1.length + 2
  omega
theorem rows_short {n : Nat} (hn : n ≤ 1000) {F : FnM} : ∀ x ∈ matF n F, x.length ≤ 1000 := by
  intro x hx
  obtain ⟨i, _, rfl⟩ := List.mem_map.1 hx
  rw [rowF_len]; exact hn
theorem last_nat {n : Nat} (h : n ≤ 1000000) : (IntKind.i64.wrap ((((n + 1) : Nat) : Int) - 1)) = (n : Int) := wrap_last h
/-- the rest of node -/
theorem node_tail {α : Type} {n : Nat} (hn : n ≤ 900) {F : FnM} (hs : supM n F) (K : List Int → List (List Int) → Option α) :
    (if 0 ≤ (((n + 1) : Nat) : Int) then (if roomB (n + 1) 8 = true then (if roomB (((matF n F).map fun x => x ++ [0]).length + 1) 24 = true then
      (idx (((matF n F).map fun x => x ++ [0]) ++ [(List.replicate (n + 1) 0)]) (IntKind.i64.wrap ((((n + 1) : Nat) : Int) - 1))).bind fun (x : List Int) =>
      (idx x (IntKind.i64.wrap ((((n + 1) : Nat) : Int) - 1))).bind fun (y : Int) =>
      K x ((((matF n F).map fun x => x ++ [0]) ++ [(List.replicate (n + 1) 0)]).set ((IntKind.i64.wrap ((((n + 1) : Nat) : Int) - 1)).toNat) (x.set (IntKind.i64.wrap ((((n + 1) : Nat) : Int) - 1)).toNat 1))
      else none) else none) else none) = K (rowF (n + 1) F n) (matF (n + 1) (updM F n n 1)) := by
  rw [matF_grow hs, last_nat (by omega), if_pos (by omega), if_pos (room8 (by omega)), if_pos (room_le (by rw [List.length_map, matF_len]; omega) (by omega))]
  rw [idx_get (matF_get (show n < n + 1 by omega)), Option.bind_some, idx_get (rowF_get (show n < n + 1 by omega)), Option.bind_some, Int.toNat_natCast, matF_set (by omega) (by omega)]
theorem puts_eq {n : Nat} {F : FnM} {l r : Nat} (hl : l < n) (hr : r < n) (T : List Term) (op k : Int) {τ : Type} :
    (if (op == 1) = true then
      (idx (matF n F) (l : Int)).bind fun (x : List Int) => (idx x (r : Int)).bind fun (y : Int) =>
      (idx ((matF n F).set ((l : Int)).toNat (x.set ((r : Int)).toNat (if 1 > y then 1 else y))) (r : Int)).bind fun (x2 : List Int) => (idx x2 (l : Int)).bind fun (y2 : Int) =>
      some (LS.next (T, (((matF n F).set ((l : Int)).toNat (x.set ((r : Int)).toNat (if 1 > y then 1 else y))).set ((r : Int)).toNat (x2.set ((l : Int)).toNat (if 1 > y2 then 1 else y2))), k))
    else if (op == 3) = true then
      (idx (matF n F) (l : Int)).bind fun (x : List Int) => (idx x (r : Int)).bind fun (y : Int) =>
      some (LS.next (T, ((matF n F).set ((l : Int)).toNat (x.set ((r : Int)).toNat (if 2 > y then 2 else y))), k))
    else if (op == 4) = true then
      (idx (matF n F) (l : Int)).bind fun (x : List Int) => (idx x (r : Int)).bind fun (y : Int) =>
      some (LS.next (T, ((matF n F).set ((l : Int)).toNat (x.set ((r : Int)).toNat (if 1 > y then 1 else y))), k))
    else some (LS.next (T, matF n F, k))) = (some (LS.next (T, matF n (putsA op l r F), k)) : Option (LS (List Term × List (List Int) × Int) τ)) := by
  have e1 := matF_get (F := F) hl
  have e2 := rowF_get (F := F) (i := l) hr
  unfold putsA
  by_cases h1 : op = 1
  · have e3 := matF_get (F := putM F l r 1) hr
    have e4 := rowF_get (F := putM F l r 1) (i := r) hl
    unfold putM at e3 e4
    rw [if_pos (by simpa using h1), if_pos h1]
    simp only [idx_get e1, idx_get e2, Option.bind_some, Int.toNat_natCast, matF_set hl hr, ite_max, idx_get e3, idx_get e4, matF_set hr hl]
    rfl
  · rw [if_neg (by simpa using h1), if_neg h1]
    by_cases h3 : op = 3
    · rw [if_pos (by simpa using h3), if_pos h3]
      simp only [idx_get e1, idx_get e2, Option.bind_some, Int.toNat_natCast, matF_set hl hr, ite_max]
      rfl
    · rw [if_neg (by simpa using h3), if_neg h3]
      by_cases h4 : op = 4
      · rw [if_pos (by simpa using h4), if_pos h4]
        simp only [idx_get e1, idx_get e2, Option.bind_some, Int.toNat_natCast, matF_set hl hr, ite_max]
        rfl
      · rw [if_neg (by simpa using h4), if_neg h4]
theorem l19_step (atoms : List Atom) {T : List Term} {F : FnM} {k : Nat} {a : Atom} (hk : atoms[k]? = some a) (hn : T.length ≤ 500) (hs : supM T.length F) :
    denial_Contradictory_l19 atoms (T, matF T.length F, (k : Int)) = some (.next ((stepA18 (T, F) a).1, matF (stepA18 (T, F) a).1.length (stepA18 (T, F) a).2, IntKind.i64.wrap ((k : Int) + 1))) := by
  have i1 := Index_Term_eq T a.Left (by omega)
  have i2 := Index_Term_eq T a.Right (by omega)
  have g0 : LoopF (denial_Contradictory_l16 (matF T.length F)) (matF T.length F, 0) = some ((matF T.length F).map fun x => x ++ [0]) :=
    grow_loop18 (matF T.length F) T.length (matF_len _ _) (by omega) (rows_short (by omega)) _ (fun o k => by simp only [denial_Contradictory_l16, matF_len])
  have g0' : LoopF (denial_Contradictory_l17 (matF T.length F)) (matF T.length F, 0) = some ((matF T.length F).map fun x => x ++ [0]) := g0
  have hlen0 : (matF T.length F).length ≤ ((matF T.length F).map fun x => x ++ [0]).length := by rw [List.length_map]; exact Nat.le_refl _
  by_cases hL : a.Left ∈ T
  · obtain ⟨_, hl⟩ := posT_mem hL
    have hT1 : nodeT T a.Left = T := by unfold nodeT; rw [if_pos hL]
    have hF1 : nodeF T F a.Left = F := by unfold nodeF; rw [if_pos hL]
    by_cases hR : a.Right ∈ T
    · obtain ⟨_, hr⟩ := posT_mem hR
      have hT2 : nodeT T a.Right = T := by unfold nodeT; rw [if_pos hR]
      have hF2 : nodeF T F a.Right = F := by unfold nodeF; rw [if_pos hR]
      simp only [denial_Contradictory_l19, if_pos (lt_true hk), idx_get hk, Option.bind_some, i1, i2, if_pos hL, if_pos hR, if_pos (show (posT T a.Left : Int) ≥ 0 by omega), if_pos (show (posT T a.Right : Int) ≥ 0 by omega)]
      rw [puts_eq hl hr]
      simp only [stepA18, hT1, hF1, hT2, hF2]
    · obtain ⟨_, hr⟩ := posT_not hR
      have hT2 : nodeT T a.Right = T ++ [a.Right] := by unfold nodeT; rw [if_neg hR]
      have hF2 : nodeF T F a.Right = updM F T.length T.length 1 := by unfold nodeF; rw [if_neg hR]
      simp only [denial_Contradictory_l19, if_pos (lt_true hk), idx_get hk, Option.bind_some, i1, i2, if_pos hL, if_neg hR, if_pos (show (posT T a.Left : Int) ≥ 0 by omega), if_neg (show ¬ (-1 : Int) ≥ 0 by omega), room_le (show T.length + 1 ≤ 1073741824 by omega) (show 48 ≤ 65536 by omega), if_true, g0, if_pos hlen0]
      have nt := node_tail (show T.length ≤ 900 by omega) hs (fun _ M => (some (T ++ [a.Right], M, ((posT T a.Left : Nat) : Int), IntKind.i64.wrap ((((T.length + 1) : Nat) : Int) - 1)) : Option (List Term × List (List Int) × Int × Int)))
      rw [nt]
      simp only [Option.bind_some, last_nat (show T.length ≤ 1000000 by omega)]
      rw [puts_eq (show posT T a.Left < T.length + 1 by omega) (show T.length < T.length + 1 by omega)]
      simp only [stepA18, hT1, hF1, hT2, hF2, hr, List.length_append, List.length_singleton]
  · obtain ⟨_, hl⟩ := posT_not hL
    have hT1 : nodeT T a.Left = T ++ [a.Left] := by unfold nodeT; rw [if_neg hL]
    have hF1 : nodeF T F a.Left = updM F T.length T.length 1 := by unfold nodeF; rw [if_neg hL]
    have hs1 : supM (T.length + 1) (updM F T.length T.length 1) := supM_upd (supM_le hs (by omega)) (by omega) (by omega)
    have i3 := Index_Term_eq (T ++ [a.Left]) a.Right (by simp; omega)
    simp only [denial_Contradictory_l19, if_pos (lt_true hk), idx_get hk, Option.bind_some, i1, if_neg hL, if_neg (show ¬ (-1 : Int) ≥ 0 by omega), room_le (show T.length + 1 ≤ 1073741824 by omega) (show 48 ≤ 65536 by omega), if_true, g0', if_pos hlen0, i3]
    by_cases hR : a.Right ∈ T ++ [a.Left]
    · obtain ⟨_, hr⟩ := posT_mem hR
      have hT2 : nodeT (T ++ [a.Left]) a.Right = T ++ [a.Left] := by unfold nodeT; rw [if_pos hR]
      have hF2 : nodeF (T ++ [a.Left]) (updM F T.length T.length 1) a.Right = updM F T.length T.length 1 := by unfold nodeF; rw [if_pos hR]
      simp only [if_pos hR, if_pos (show (posT (T ++ [a.Left]) a.Right : Int) ≥ 0 by omega)]
      have nt := node_tail (show T.length ≤ 900 by omega) hs (fun _ M => (some (T ++ [a.Left], M, IntKind.i64.wrap ((((T.length + 1) : Nat) : Int) - 1), ((posT (T ++ [a.Left]) a.Right : Nat) : Int)) : Option (List Term × List (List Int) × Int × Int)))
      rw [nt]
      simp only [Option.bind_some, last_nat (show T.length ≤ 1000000 by omega)]
      rw [List.length_append, List.length_singleton] at hr
      rw [puts_eq (show T.length < T.length + 1 by omega) hr]
      simp only [stepA18, hT1, hF1, hT2, hF2, hl, List.length_append, List.length_singleton]
    · obtain ⟨_, hr⟩ := posT_not hR
      have hT2 : nodeT (T ++ [a.Left]) a.Right = (T ++ [a.Left]) ++ [a.Right] := by unfold nodeT; rw [if_neg hR]
      have hF2 : nodeF (T ++ [a.Left]) (updM F T.length T.length 1) a.Right = updM (updM F T.length T.length 1) (T.length + 1) (T.length + 1) 1 := by
        unfold nodeF; rw [if_neg hR]; simp
      simp only [if_neg hR, if_neg (show ¬ (-1 : Int) ≥ 0 by omega), room_le (show T.length + 1 + 1 ≤ 1073741824 by omega) (show 48 ≤ 65536 by omega), if_true]
      have nt := node_tail (show T.length ≤ 900 by omega) hs (fun (x : List Int) M => (LoopF (denial_Contradictory_l18 T ((matF T.length F).map fun x => x ++ [0]) x) (M, 0)).bind (fun (o3 : List (List Int)) =>
        if (((matF T.length F).map fun x => x ++ [0]) ++ [(List.replicate (T.length + 1) 0)]).length ≤ o3.length then
        if 0 ≤ ((((T.length + 1) + 1) : Nat) : Int) then
        if roomB ((T.length + 1) + 1) 8 = true then
        if roomB (o3.length + 1) 24 = true then
        (idx (o3 ++ [(List.replicate ((T.length + 1) + 1) 0)]) (IntKind.i64.wrap (((((T.length + 1) + 1) : Nat) : Int) - 1))).bind fun (x2 : List Int) =>
        (idx x2 (IntKind.i64.wrap (((((T.length + 1) + 1) : Nat) : Int) - 1))).bind fun (y2 : Int) =>
        if (matF T.length F).length ≤ o3.length then
        (some (((T ++ [a.Left]) ++ [a.Right]), ((o3 ++ [(List.replicate ((T.length + 1) + 1) 0)]).set ((IntKind.i64.wrap (((((T.length + 1) + 1) : Nat) : Int) - 1)).toNat) (x2.set (IntKind.i64.wrap (((((T.length + 1) + 1) : Nat) : Int) - 1)).toNat 1)), (IntKind.i64.wrap ((((T.length + 1) : Nat) : Int) - 1)), (IntKind.i64.wrap (((((T.length + 1) + 1) : Nat) : Int) - 1))) : Option (List Term × List (List Int) × Int × Int))
        else none else none else none else none else none))
      rw [nt]
      have g1 : LoopF (denial_Contradictory_l18 T ((matF T.length F).map fun x => x ++ [0]) (rowF (T.length + 1) F T.length)) (matF (T.length + 1) (updM F T.length T.length 1), 0) = some ((matF (T.length + 1) (updM F T.length T.length 1)).map fun x => x ++ [0]) :=
        grow_loop18 (matF (T.length + 1) (updM F T.length T.length 1)) (T.length + 1) (matF_len _ _) (by omega) (rows_short (by omega)) _ (fun o k => by simp only [denial_Contradictory_l18, List.length_append, List.length_map, matF_len, List.length_singleton, List.length_set])
      have hlen1 : (((matF T.length F).map fun x => x ++ [0]) ++ [(List.replicate (T.length + 1) 0)]).length ≤ ((matF (T.length + 1) (updM F T.length T.length 1)).map fun x => x ++ [0]).length := by simp [matF_len]
      have hlen2 : (matF T.length F).length ≤ ((matF (T.length + 1) (updM F T.length T.length 1)).map fun x => x ++ [0]).length := by simp [matF_len]
      simp only [g1, Option.bind_some, if_pos hlen1, if_pos hlen2]
      have nt2 := node_tail (show T.length + 1 ≤ 900 by omega) hs1 (fun (x : List Int) M => (some (((T ++ [a.Left]) ++ [a.Right]), M, (IntKind.i64.wrap ((((T.length + 1) : Nat) : Int) - 1)), (IntKind.i64.wrap (((((T.length + 1) + 1) : Nat) : Int) - 1))) : Option (List Term × List (List Int) × Int × Int)))
      rw [nt2]
      simp only [Option.bind_some, last_nat (show T.length ≤ 1000000 by omega), last_nat (show T.length + 1 ≤ 1000000 by omega)]
      rw [puts_eq (show T.length < T.length + 1 + 1 by omega) (show T.length + 1 < T.length + 1 + 1 by omega)]
      simp only [stepA18, hT1, hF1, hT2, hF2, hl, hr, List.length_append, List.length_singleton]
/-- terms and matrix of the atoms -/
def foldA18 (atoms : List Atom) : List Term × FnM := atoms.foldl stepA18 ([], zeroF)
theorem foldA_ok : ∀ (l : List Atom) (S : List Term × FnM), supM S.1.length S.2 → supM (l.foldl stepA18 S).1.length (l.foldl stepA18 S).2 ∧ (l.foldl stepA18 S).1.length ≤ S.1.length + 2 * l.length
  | [], S, h => ⟨h, by simp⟩
  | a :: l, S, h => by
    rw [List.foldl_cons]
    obtain ⟨h1, h2⟩ := foldA_ok l (stepA18 S a) (step_sup a h)
    have := step_len S a
    refine ⟨h1, ?_⟩
    rw [List.length_cons]; omega
theorem l19_loop (atoms : List Atom) (hl : atoms.length ≤ 100) : LoopF (denial_Contradictory_l19 atoms) ([], [], 0) = some ((foldA18 atoms).1, matF (foldA18 atoms).1.length (foldA18 atoms).2) := by
  have h := LoopF_foldl atoms (fun (S : List Term × FnM) (i : Int) => (S.1, matF S.1.length S.2, i)) (denial_Contradictory_l19 atoms) stepA18 (fun S => (S.1, matF S.1.length S.2)) (fun k S => supM S.1.length S.2 ∧ S.1.length ≤ 2 * k) (b0 := ([], zeroF)) (s0 := ([], [], 0)) rfl ⟨fun _ _ _ => rfl, Nat.le_refl _⟩
    (fun k S x hx hk hI => by
      obtain ⟨hI1, hI2⟩ := hI
      refine ⟨?_, step_sup x hI1, by have := step_len S x; omega⟩
      rw [l19_step atoms hx (by omega) hI1, wrap_succ hk (by omega)])
    (fun S _ => by simp [denial_Contradictory_l19])
  exact h
/-- the diagonal -/
theorem l50_loop (T : List Term) (hn : T.length ≤ 1000) (F : FnM) : LoopF (denial_Contradictory_l50 T (matF T.length F)) 0 = some (if (List.range T.length).all (fun i => decide (F i i ≠ 2)) then .inl () else .inr true) := by
  refine LoopF_all (List.range T.length) _ (fun i => decide (F i i ≠ 2)) true (fun k x hx hk hp => ?_) (fun k x hx hp => ?_) (by simp [denial_Contradictory_l50])
  · rw [List.length_range] at hk
    obtain ⟨rfl, _⟩ := range_at hx
    have hp' : ¬ ((F x x == 2) = true) := by simpa using hp
    simp only [denial_Contradictory_l50, if_pos (show (x : Int) < ((T.length : Nat) : Int) by omega), idx_get (matF_get hk), idx_get (rowF_get hk), Option.bind_some, if_neg hp', wrap_succ hk (show T.length ≤ 4611686018427387904 by omega)]
  · obtain ⟨rfl, hk⟩ := range_at hx
    have hp' : (F x x == 2) = true := by simpa using hp
    simp only [denial_Contradictory_l50, if_pos (show (x : Int) < ((T.length : Nat) : Int) by omega), idx_get (matF_get hk), idx_get (rowF_get hk), Option.bind_some, if_pos hp']
def clash (T : List Term) (F : FnM) (a : Atom) : Bool := decide (a.Op = 2) && (decide (0 < F (posT T a.Left) (posT T a.Right)) && decide (0 < F (posT T a.Right) (posT T a.Left)))
theorem l69_loop (atoms : List Atom) (hl : atoms.length ≤ 100) (T : List Term) (hn : T.length ≤ 1000) (hT : ∀ a ∈ atoms, a.Left ∈ T ∧ a.Right ∈ T) (F : FnM) :
    ∃ o, LoopF (denial_Contradictory_l69 atoms (matF T.length F)) (T, matF T.length F, 0) = some o ∧ (if atoms.any (clash T F) = true then ∃ k : Nat, o = .inr ((k : Int), T, matF T.length F) else o = .inl (T, matF T.length F)) := by
  have key : ∀ (r : List Atom) (k : Nat), atoms.drop k = r → k ≤ atoms.length → ∃ o, LoopF (denial_Contradictory_l69 atoms (matF T.length F)) (T, matF T.length F, (k : Int)) = some o ∧ (if r.any (clash T F) = true then ∃ k : Nat, o = .inr ((k : Int), T, matF T.length F) else o = .inl (T, matF T.length F)) := by
    intro r
    induction r with
    | nil =>
      intro k hd hk
      have := drop_n18 hd hk
      subst this
      exact ⟨_, Loop_done (t := .inl (T, matF T.length F)) (by simp [denial_Contradictory_l69]), by simp⟩
    | cons a r ih =>
      intro k hd hk
      obtain ⟨x1, x2, x3⟩ := drop_c18 hd
      obtain ⟨hL, hR⟩ := hT a (List.mem_of_getElem? x1)
      obtain ⟨_, hl'⟩ := posT_mem hL
      obtain ⟨_, hr'⟩ := posT_mem hR
      have e1 := matF_get (F := F) hl'
      have e2 := rowF_get (F := F) (i := posT T a.Left) hr'
      have e3 := matF_get (F := F) hr'
      have e4 := rowF_get (F := F) (i := posT T a.Right) hl'
      have hstep : denial_Contradictory_l69 atoms (matF T.length F) (T, matF T.length F, (k : Int)) = if clash T F a = true then some (.done (.inr ((k : Int), T, matF T.length F))) else some (.next (T, matF T.length F, ((k + 1 : Nat) : Int))) := by
        simp only [denial_Contradictory_l69, Nat.le_refl, if_true, if_pos (lt_true x1), idx_get x1, Option.bind_some, Index_Term_eq T a.Left (by omega), Index_Term_eq T a.Right (by omega), if_pos hL, if_pos hR, if_pos (show (posT T a.Left : Int) ≥ 0 by omega), if_pos (show (posT T a.Right : Int) ≥ 0 by omega), wrap_succ x3 (show atoms.length ≤ 4611686018427387904 by omega)]
        unfold clash
        by_cases h2 : a.Op = 2
        · rw [if_pos (by simpa using h2)]
          simp only [idx_get e1, idx_get e2, Option.bind_some, h2, decide_true, Bool.true_and]
          by_cases h3 : F (posT T a.Left) (posT T a.Right) > 0
          · rw [if_pos h3]
            simp only [idx_get e3, idx_get e4, Option.bind_some, show decide (0 < F (posT T a.Left) (posT T a.Right)) = true by simpa using h3, Bool.true_and, decide_eq_true_eq]
          · rw [if_neg h3]
            simp only [show decide (0 < F (posT T a.Left) (posT T a.Right)) = false by simpa using h3, Bool.false_and, Bool.false_eq_true, if_false]
        · rw [if_neg (by simpa using h2)]
          simp [h2]
      cases hc : clash T F a with
      | true =>
        rw [hc] at hstep
        exact ⟨_, Loop_done hstep, by simp only [List.any_cons, hc, Bool.true_or, if_true]; exact ⟨k, rfl⟩⟩
      | false =>
        rw [hc] at hstep
        simp only [Bool.false_eq_true, if_false] at hstep
        obtain ⟨o, ho1, ho2⟩ := ih (k + 1) x2 x3
        exact ⟨o, by rw [Loop_next hstep]; exact ho1, by simpa only [List.any_cons, hc, Bool.false_or] using ho2⟩
  exact key atoms 0 rfl (Nat.zero_le _)
def contraB (atoms : List Atom) : Bool :=
  let S := foldA18 atoms
  let F := closeF S.1.length (constM S.1 S.2)
  (List.range S.1.length).any (fun i => decide (F i i = 2)) || atoms.any (clash S.1 F)
theorem node_mem {T : List Term} {t : Term} : t ∈ nodeT T t ∧ ∀ x ∈ T, x ∈ nodeT T t := by
  unfold nodeT
  by_cases h : t ∈ T
  · rw [if_pos h]; exact ⟨h, fun x hx => hx⟩
  · rw [if_neg h]; exact ⟨by simp, fun x hx => by simp [hx]⟩
theorem foldA_mem : ∀ (l : List Atom) (S : List Term × FnM), (∀ x ∈ S.1, x ∈ (l.foldl stepA18 S).1) ∧ ∀ a ∈ l, a.Left ∈ (l.foldl stepA18 S).1 ∧ a.Right ∈ (l.foldl stepA18 S).1
  | [], S => ⟨fun x hx => hx, by simp⟩
  | a :: l, S => by
    rw [List.foldl_cons]
    obtain ⟨h1, h2⟩ := foldA_mem l (stepA18 S a)
    have m1 := @node_mem S.1 a.Left
    have m2 := @node_mem (nodeT S.1 a.Left) a.Right
    refine ⟨fun x hx => h1 x (m2.2 x (m1.2 x hx)), fun b hb => ?_⟩
    rcases List.mem_cons.1 hb with rfl | hb
    · exact ⟨h1 _ (m2.2 _ m1.1), h1 _ m2.1⟩
    · exact h2 b hb
theorem Contradictory_eq (atoms : List Atom) (hl : atoms.length ≤ 100) : denial_Contradictory atoms = some (contraB atoms) := by
  have hok := foldA_ok atoms ([], zeroF) (fun _ _ _ => rfl)
  have hmem := (foldA_mem atoms ([], zeroF)).2
  have hn : (foldA18 atoms).1.length ≤ 200 := by have := hok.2; simp at this; unfold foldA18; omega
  unfold denial_Contradictory contraB
  rw [l19_loop atoms hl]
  simp only [Option.bind_some]
  change ∀ a ∈ atoms, a.Left ∈ (foldA18 atoms).1 ∧ a.Right ∈ (foldA18 atoms).1 at hmem
  generalize (foldA18 atoms).1 = T at *
  generalize (foldA18 atoms).2 = F0 at *
  rw [const_23 T (by omega)]
  simp only [Option.bind_some]
  generalize constM T F0 = F1
  rw [clo_49 T rfl (by omega) (matF T.length F1) (matF_len _ _)]
  simp only [Option.bind_some, matF_len, Nat.le_refl, if_true]
  generalize closeF T.length F1 = F
  rw [l50_loop T (by omega)]
  simp only [Option.bind_some]
  have hany : ((List.range T.length).any fun i => decide (F i i = 2)) = !((List.range T.length).all fun i => decide (F i i ≠ 2)) := by
    rw [← any_not]
    simp only [Bool.not_not]
    congr 1
    funext i
    simp
  rw [hany]
  cases hd : (List.range T.length).all fun i => decide (F i i ≠ 2) with
  | false => simp
  | true =>
    obtain ⟨o, ho1, ho2⟩ := l69_loop atoms hl T (by omega) hmem F
    simp only [if_true, ho1, Option.bind_some, Bool.not_true, Bool.false_or]
    cases hc : atoms.any (clash T F) with
    | true =>
      rw [hc] at ho2
      simp only [if_true] at ho2
      obtain ⟨k, rfl⟩ := ho2
      simp [matF_len]
    | false =>
      rw [hc] at ho2
      simp only [Bool.false_eq_true, if_false] at ho2
      subst ho2
      simp [matF_len]
end Go.Proofs.YtlaodgbkpmdhoaaGreatDoor
/- Denial: the examples of the chapter. -/
set_option linter.unusedVariables false
set_option linter.unusedSimpArgs false
namespace Go.Proofs.YtlaodgbkpmdhoaaGreatDoor
open Go Go.Ab

def exT18 : Table := ⟨[114], [[97], [98]], [⟨1, [⟨1, 2, []⟩, ⟨1, 1, []⟩]⟩, ⟨2, [⟨1, 2, []⟩, ⟨1, 2, []⟩]⟩, ⟨3, [⟨1, 7, []⟩, ⟨1, 2, []⟩]⟩]⟩
theorem ofV18_1 : ofV 1 = ⟨1, 1, []⟩ := by simp [ofV, drossref01_Of]
theorem ofV18_2 : ofV 2 = ⟨1, 2, []⟩ := by simp [ofV, drossref01_Of]
theorem ofV18_11 : ofV 11 = ⟨1, 7, []⟩ := by simp [ofV, drossref01_Of]
theorem Wide18 : drossref03_Wide (Drossref03_Recipe.mk 0 0 [[2, 1], [2, 2], [11, 2]]) 2 = some exT18 := by
  have h := Wide_eq (Drossref03_Recipe.mk 0 0 [[2, 1], [2, 2], [11, 2]]) 2 (by omega) (by simp) (by simp) (by simp)
  have h' : drossref03_Wide (Drossref03_Recipe.mk 0 0 [[2, 1], [2, 2], [11, 2]]) 2 = some (wide (Drossref03_Recipe.mk 0 0 [[2, 1], [2, 2], [11, 2]]) 2) := h
  rw [h']
  have e : wide (Drossref03_Recipe.mk 0 0 [[2, 1], [2, 2], [11, 2]]) 2 = exT18 := by
    simp [wide, wrow, wval, wstep, exT18, wnames, List.range, List.range.loop, ofV18_1, ofV18_2, ofV18_11]
  rw [e]
def no18 : List Atom := [⟨atT 1 0, 3, atT 1 1⟩, ⟨atT 1 1, 4, ⟨0, 0, ⟨1, 5, []⟩⟩⟩, ⟨⟨0, 0, ⟨1, 6, []⟩⟩, 3, atT 1 0⟩]
def yes18 : List Atom := [⟨atT 1 0, 3, ⟨0, 0, ⟨1, 2, []⟩⟩⟩, ⟨⟨0, 0, ⟨1, 1, []⟩⟩, 3, atT 1 0⟩]
theorem no_contra : contraB no18 = true := by decide +kernel
theorem yes_contra : contraB yes18 = false := by decide +kernel
theorem ex_dt : DT exT18 := by
  have hv : ∀ r ∈ exT18.Rows, ∀ v ∈ r.Values, v.Str = [] := by decide
  refine ⟨⟨by decide, by decide, by decide, fun r hr v hvm => by rw [hv r hr v hvm]; simp⟩, by decide +kernel, by decide, fun r hr v hvm => by rw [hv r hr v hvm]; simp⟩
def want18 : Denial := ⟨2, [bothA 1 0, bothA 2 1]⟩
def less18 : Denial := ⟨1, [⟨atT 1 0, 3, ⟨0, 0, ⟨1, 6, []⟩⟩⟩]⟩
theorem idsA_of {rows : List Row} {l : List Int} (hp : (rows.map Row.ID).Perm l) (hs : l.Pairwise fun a b => a ≤ b) : idsA rows = l :=
  int_asc_unique ((srtI_perm _).trans hp) (srtI_sorted _) hs
def r18a : Row := ⟨1, [⟨1, 2, []⟩, ⟨1, 1, []⟩]⟩
def r18b : Row := ⟨2, [⟨1, 2, []⟩, ⟨1, 2, []⟩]⟩
theorem viol_want : setO (violL exT18 want18) = [[1, 2]] := by
  have h : (asgN exT18 want18.Vars.toNat).filter (fun a => want18.Atoms.all (satA a)) = [[r18a, r18b], [r18b, r18a]] := by decide +kernel
  have e1 : idsA [r18a, r18b] = [1, 2] := idsA_of (by decide) (by decide)
  have e2 : idsA [r18b, r18a] = [1, 2] := idsA_of (List.Perm.swap _ _ _) (by decide)
  unfold violL
  rw [h, List.map_cons, List.map_cons, e1, e2]
  decide
theorem viol_less : setO (violL exT18 less18) = [[1], [2]] := by
  have h : (asgN exT18 less18.Vars.toNat).filter (fun a => less18.Atoms.all (satA a)) = [[r18a], [r18b]] := by decide +kernel
  have e1 : idsA [r18a] = [1] := idsA_of (by decide) (by decide)
  have e2 : idsA [r18b] = [2] := idsA_of (by decide) (by decide)
  unfold violL
  rw [h, List.map_cons, List.map_cons, e1, e2]
  decide
theorem Same_self18 (l : List Denial) (hl : l.length ≤ 1000000) (ha : ∀ d ∈ l, d.Atoms.length ≤ 1000000) : drossref18_Same l l = some true := by
  have inner : ∀ (k : Nat) (d : Denial), l[k]? = some d → LoopF (drossref18_Same_l3 l l (k : Int)) 0 = some (.inl ()) := by
    intro k d hd
    have h := LoopF_all d.Atoms (drossref18_Same_l3 l l (k : Int)) (fun _ => true) false
      (fun j a hx hk hp => by
        have e : ((((a.Left.Var == a.Left.Var) && ((a.Left.Attr == a.Left.Attr) && ((a.Left.Value.Kind == a.Left.Value.Kind) && ((a.Left.Value.Num == a.Left.Value.Num) && (a.Left.Value.Str == a.Left.Value.Str))))) && ((a.Op == a.Op) && ((a.Right.Var == a.Right.Var) && ((a.Right.Attr == a.Right.Attr) && ((a.Right.Value.Kind == a.Right.Value.Kind) && ((a.Right.Value.Num == a.Right.Value.Num) && (a.Right.Value.Str == a.Right.Value.Str)))))))) = true := by simp
        simp only [drossref18_Same_l3, idx_get hd, Option.bind_some, if_pos (lt_true hx), idx_get hx, if_pos e, wrap_succ hk (show d.Atoms.length ≤ 4611686018427387904 by have := ha d (List.mem_of_getElem? hd); omega)])
      (fun j a hx hp => by cases hp)
      (by simp [drossref18_Same_l3, idx_get hd])
    rw [h]; simp
  have h := LoopF_all l (drossref18_Same_l4 l l) (fun _ => true) false
    (fun k d hd hk hp => by
      simp only [drossref18_Same_l4, if_pos (lt_true hd), idx_get hd, Option.bind_some, bne_self_eq_false, Bool.false_eq_true, if_false, inner k d hd, wrap_succ hk (show l.length ≤ 4611686018427387904 by omega)])
    (fun k d hd hp => by cases hp)
    (by simp [drossref18_Same_l4])
  unfold drossref18_Same
  rw [if_neg (by simp), h, Option.bind_some]
  have : (l.all fun _ => true) = true := by simp
  rw [this]; rfl
theorem viol_at {t : Table} (H : DT t) {d : Denial} (he : denErr t d = 0) (hl : d.Atoms.length ≤ 1048576) : denial_Violations t d = some (setO (violL t d), 0) := by
  rw [DViolations_eq t d H.ok H.str H.few hl]
  unfold violR
  rw [if_pos he]
theorem awake18 : drosslaw18_awake = some true := by
  have h1 : denial_FromFD 2 (FD.mk 1 2) = some ([want18], 0) := by
    have h := FromFD_eq (n := 2) (s := 1) (r := 2) (by omega) (by omega) (by omega)
    have e : (if fdB 2 1 2 = true then (fdL 1 2, (0 : Int)) else ([], 1)) = ([want18], 0) := by decide +kernel
    rw [e] at h
    exact h
  have h2 : denial_Violations exT18 want18 = some ([[1, 2]], 0) := by
    rw [viol_at ex_dt (by decide +kernel) (by decide), viol_want]
  have h3 : denial_Violations exT18 less18 = some ([[1], [2]], 0) := by
    rw [viol_at ex_dt (by decide +kernel) (by decide), viol_less]
  have h4 : denial_FromOD 2 (OD.mk [0] [1]) = some (odL [0] [1], 0) := by
    have h := FromOD_eq 2 (OD.mk [0] [1]) (by simp) (by simp)
    have e : odR 2 (OD.mk [0] [1]) = (odL [0] [1], 0) := by decide +kernel
    rw [e] at h
    exact h
  have h5 : ((odL [0] [1]).length : Int) = 2 := by decide +kernel
  have h6 := Same_self18 [want18] (by simp) (by simp [want18])
  have h7 := Lists_self [[1, 2]] (by simp) (by simp)
  have h8 := Lists_self [[1], [2]] (by simp) (by simp)
  have h9 := Contradictory_eq no18 (by decide)
  have h10 := Contradictory_eq yes18 (by decide)
  rw [no_contra] at h9
  rw [yes_contra] at h10
  have h2' : denial_Violations exT18 (Denial.mk 2 [(Atom.mk (Term.mk 1 0 (Value.mk 0 0 [])) 1 (Term.mk 2 0 (Value.mk 0 0 []))), (Atom.mk (Term.mk 1 1 (Value.mk 0 0 [])) 2 (Term.mk 2 1 (Value.mk 0 0 [])))]) = _ := h2
  have h3' : denial_Violations exT18 (Denial.mk 1 [(Atom.mk (Term.mk 1 0 (Value.mk 0 0 [])) 3 (Term.mk 0 0 (Value.mk 1 6 [])))]) = _ := h3
  have h6' : drossref18_Same [want18] [(Denial.mk 2 [(Atom.mk (Term.mk 1 0 (Value.mk 0 0 [])) 1 (Term.mk 2 0 (Value.mk 0 0 []))), (Atom.mk (Term.mk 1 1 (Value.mk 0 0 [])) 2 (Term.mk 2 1 (Value.mk 0 0 [])))])] = _ := h6
  have h9' : denial_Contradictory [(Atom.mk (Term.mk 1 0 (Value.mk 0 0 [])) 3 (Term.mk 1 1 (Value.mk 0 0 []))), (Atom.mk (Term.mk 1 1 (Value.mk 0 0 [])) 4 (Term.mk 0 0 (Value.mk 1 5 []))), (Atom.mk (Term.mk 0 0 (Value.mk 1 6 [])) 3 (Term.mk 1 0 (Value.mk 0 0 [])))] = _ := h9
  have h10' : denial_Contradictory [(Atom.mk (Term.mk 1 0 (Value.mk 0 0 [])) 3 (Term.mk 0 0 (Value.mk 1 2 []))), (Atom.mk (Term.mk 0 0 (Value.mk 1 1 [])) 3 (Term.mk 1 0 (Value.mk 0 0 [])))] = _ := h10
  simp only [drosslaw18_awake, Wide18, h1, drosslaw18_at, drosslaw18_num, Option.bind_some, h2', h3', h4, bne_self_eq_false, Bool.false_eq_true, if_false, h6', if_true, h7, h8, h5, h9', h10', Bool.not_false]
end Go.Proofs.YtlaodgbkpmdhoaaGreatDoor
/- Denial: violations of several constraints; pairs of rows. -/
set_option linter.unusedVariables false
set_option linter.unusedSimpArgs false
namespace Go.Proofs.YtlaodgbkpmdhoaaGreatDoor
open Go Go.Ab

theorem search_l19 (out : List (List Int)) (x : List Int) (hl : out.length ≤ 1000000) (ho : ∀ y ∈ out, y.length ≤ 1000000) (hx : x.length ≤ 1000000) :
    LoopF (drosslaw18_together_l19 out x) 0 = some (if x ∈ out then .inr () else .inl ()) := search_l5 out x hl ho hx
theorem ins_l20 (out : List (List Int)) (x : List Int) (hl : out.length ≤ 1000000) (ho : ∀ y ∈ out, y.length ≤ 1000000) (hx : x.length ≤ 1000000) (hm : x ∉ out) :
    LoopF drosslaw18_together_l20 (out ++ [x], IntKind.i64.wrap ((((out.length + 1) : Nat) : Int) - 1)) = some (putL out x) := ins_l6 out x hl ho hx hm
theorem put_l21 (R : List (List Int) × Int) (hR : R.1.length ≤ 1000) (hs : ∀ y ∈ R.1, y.length ≤ 3) (out : List (List Int)) (hl : out.length ≤ 500000) (ho : ∀ y ∈ out, y.length ≤ 3) :
    LoopF (drosslaw18_together_l21 R) (out, 0) = some (R.1.foldl putL out) := by
  have h := LoopF_foldl R.1 (fun (b : List (List Int)) (m : Int) => (b, m)) (drosslaw18_together_l21 R) putL id (fun k b => b.length ≤ out.length + k ∧ ∀ y ∈ b, y.length ≤ 3) (b0 := out) (s0 := (out, 0)) rfl ⟨Nat.le_refl _, ho⟩
    (fun k b x hx hk hI => by
      obtain ⟨hI1, hI2⟩ := hI
      have hxl := hs x (List.mem_of_getElem? hx)
      constructor
      · simp only [drosslaw18_together_l21, if_pos (lt_true hx), idx_get hx, Option.bind_some, wrap_succ hk (show R.1.length ≤ 4611686018427387904 by omega)]
        rw [search_l19 b x (by omega) (fun y hy => by have := hI2 y hy; omega) (by omega)]
        by_cases hmm : x ∈ b
        · rw [if_pos hmm]
          simp only [Option.bind_some, putL, if_pos hmm]
        · rw [if_neg hmm]
          simp only [Option.bind_some, room_le (show b.length + 1 ≤ 1073741824 by omega) (show 24 ≤ 65536 by omega), if_true, ins_l20 b x (by omega) (fun y hy => by have := hI2 y hy; omega) (by omega) hmm]
      · refine ⟨by have := putL_len b x; omega, fun y hy => ?_⟩
        rcases (putL_mem _ _ _).1 hy with hy | rfl
        · exact hI2 y hy
        · exact hxl)
    (fun b _ => by simp [drosslaw18_together_l21])
  rw [h]; rfl
def allV (t : Table) (l : List Denial) : List (List Int) := l.flatMap (violL t)
theorem together_eq {t : Table} (H : DT t) (l : List Denial) (hl : l.length ≤ 100) (h : ∀ d ∈ l, denErr t d = 0) : drosslaw18_together t l = some (setO (allV t l), true) := by
  have hden : ∀ d ∈ l, denB t.Attrs.length d = true := fun d hd => (denErr_zero (h d hd)).2
  have key : ∀ (r : List Denial) (k : Nat) (out : List (List Int)) (W : List (List Int)), l.drop k = r → k ≤ l.length → out = setO W → (∀ z ∈ W, z.length ≤ 3) → W.length ≤ k * 343 →
      LoopF (drosslaw18_together_l22 t l) (out, (k : Int)) = some (.inl (setO (W ++ allV t r))) := by
    intro r
    induction r with
    | nil =>
      intro k out W hd hk ho hW hWl
      have := drop_n18 hd hk
      subst this
      rw [Loop_done (t := .inl out) (by simp [drosslaw18_together_l22])]
      rw [ho]; simp [allV]
    | cons d r ih =>
      intro k out W hd hk ho hW hWl
      obtain ⟨x1, x2, x3⟩ := drop_c18 hd
      have hm := List.mem_of_getElem? x1
      obtain ⟨⟨hv1, hv2, hv3⟩, hat⟩ := denB_parts (hden d hm)
      have hV := viol_at H (h d hm) (by omega)
      have hVl := violL_len H.few hv2
      have hVs : ∀ y ∈ setO (violL t d), y.length ≤ 3 := fun y hy => by rw [violL_short ((setO_mem _ _).1 hy)]; omega
      have hol : out.length ≤ 500000 := by
        rw [ho]
        have := setO_len W
        have : k * 343 ≤ 100 * 343 := Nat.mul_le_mul_right _ (by omega)
        omega
      have hos : ∀ y ∈ out, y.length ≤ 3 := fun y hy => by rw [ho] at hy; exact hW y ((setO_mem _ _).1 hy)
      have hp := put_l21 (setO (violL t d), 0) (by have := setO_len (violL t d); simp only; omega) hVs out hol hos
      have hout : (setO (violL t d)).foldl putL out = setO (W ++ violL t d) := by
        refine asc_unique (foldP_asc _ _ (by rw [ho]; exact setO_asc W)) (setO_asc _) fun z => ?_
        rw [foldP_mem, setO_mem, setO_mem, ho, setO_mem, List.mem_append]
      rw [Loop_next (s' := (setO (W ++ violL t d), ((k + 1 : Nat) : Int))) (by
        simp only [drosslaw18_together_l22, if_pos (lt_true x1), idx_get x1, Option.bind_some, hV, bne_self_eq_false, Bool.false_eq_true, if_false, hp, hout, wrap_succ x3 (show l.length ≤ 4611686018427387904 by omega)])]
      rw [ih (k + 1) _ (W ++ violL t d) x2 x3 rfl (fun z hz => by
        rcases List.mem_append.1 hz with hz | hz
        · exact hW z hz
        · rw [violL_short hz]; omega) (by rw [List.length_append]; omega)]
      congr 3
      simp [allV, List.append_assoc]
  have := key l 0 [] [] rfl (Nat.zero_le _) rfl (by simp) (by simp)
  have h' : LoopF (drosslaw18_together_l22 t l) ([], 0) = _ := this
  unfold drosslaw18_together
  rw [h', Option.bind_some, List.nil_append]
/-- pairs of rows, in order -/
def pairsV (p : Row → Row → Bool) : List Row → List (List Int)
  | [] => []
  | a :: l => ((l.filter (p a)).map fun b => [a.ID, b.ID]) ++ pairsV p l
theorem pairsV_mem (p : Row → Row → Bool) : ∀ (l : List Row), (l.Pairwise fun a b => a.ID < b.ID) → ∀ z, z ∈ pairsV p l ↔ ∃ a ∈ l, ∃ b ∈ l, a.ID < b.ID ∧ p a b = true ∧ z = [a.ID, b.ID]
  | [], _, z => by simp [pairsV]
  | a :: l, h, z => by
    rw [List.pairwise_cons] at h
    obtain ⟨h1, h2⟩ := h
    rw [pairsV, List.mem_append, pairsV_mem p l h2 z]
    constructor
    · rintro (hz | ⟨x, hx, y, hy, h3⟩)
      · obtain ⟨b, hb, rfl⟩ := List.mem_map.1 hz
        obtain ⟨hb1, hb2⟩ := List.mem_filter.1 hb
        exact ⟨a, by simp, b, by simp [hb1], h1 b hb1, hb2, rfl⟩
      · exact ⟨x, by simp [hx], y, by simp [hy], h3⟩
    · rintro ⟨x, hx, y, hy, h3, h4, rfl⟩
      rcases List.mem_cons.1 hx with e1 | hx1
      · rcases List.mem_cons.1 hy with e2 | hy1
        · rw [e1, e2] at h3; omega
        · rw [e1] at h4 ⊢
          exact .inl (List.mem_map.2 ⟨y, List.mem_filter.2 ⟨hy1, h4⟩, rfl⟩)
      · rcases List.mem_cons.1 hy with e2 | hy1
        · have := h1 x hx1
          rw [e2] at h3; omega
        · exact .inr ⟨x, hx1, y, hy1, h3, h4, rfl⟩
theorem pairsV_asc (p : Row → Row → Bool) : ∀ (l : List Row), (l.Pairwise fun a b => a.ID < b.ID) → AscL (pairsV p l)
  | [], _ => List.Pairwise.nil
  | a :: l, h => by
    rw [List.pairwise_cons] at h
    obtain ⟨h1, h2⟩ := h
    rw [pairsV]
    refine List.pairwise_append.2 ⟨?_, pairsV_asc p l h2, fun x hx y hy => ?_⟩
    · rw [List.pairwise_map]
      refine List.Pairwise.imp ?_ (h2.filter (p a))
      intro b c hbc
      simp [ltL, hbc]
      omega
    · obtain ⟨b, hb, rfl⟩ := List.mem_map.1 hx
      obtain ⟨c, hc, d, hd, h3, h4, rfl⟩ := (pairsV_mem p l h2 y).1 hy
      have := h1 c hc
      simp only [ltL]
      rw [if_neg (by omega)]
      simpa using this
theorem pairsV_len (p : Row → Row → Bool) : ∀ (l : List Row), (pairsV p l).length ≤ l.length * l.length
  | [] => by simp [pairsV]
  | a :: l => by
    rw [pairsV, List.length_append, List.length_map]
    have h1 := pairsV_len p l
    have h2 := List.length_filter_le (p a) l
    have e : (a :: l).length * (a :: l).length = l.length * l.length + l.length + (l.length + 1) := by
      rw [List.length_cons, Nat.succ_mul, Nat.mul_succ]
    omega
theorem idsA_two {a b : Row} (h : a.ID ≠ b.ID) : idsA [a, b] = if a.ID < b.ID then [a.ID, b.ID] else [b.ID, a.ID] := by
  by_cases h1 : a.ID < b.ID
  · rw [if_pos h1]
    exact idsA_of (List.Perm.refl _) (by simp; omega)
  · rw [if_neg h1]
    exact idsA_of (List.Perm.swap _ _ _) (by simp; omega)
/-- the violations of a constraint on two rows -/
theorem viol_two {t : Table} {d : Denial} (hv : d.Vars = 2) (z : List Int) : z ∈ violL t d ↔ ∃ a ∈ t.Rows, ∃ b ∈ t.Rows, a.ID < b.ID ∧ (d.Atoms.all (satA [a, b]) = true ∨ d.Atoms.all (satA [b, a]) = true) ∧ z = [a.ID, b.ID] := by
  unfold violL
  rw [hv]
  constructor
  · intro hz
    obtain ⟨c, hc, rfl⟩ := List.mem_map.1 hz
    obtain ⟨hc1, hc2⟩ := List.mem_filter.1 hc
    obtain ⟨g1, g2, g3⟩ := asgN_mem hc1
    match c, g1, g2, g3, hc2 with
    | [x, y], _, g2, g3, hc2 =>
      have hne : x.ID ≠ y.ID := by
        have := (List.pairwise_cons.1 g3).1 y (by simp)
        exact this
      rw [idsA_two hne]
      by_cases h1 : x.ID < y.ID
      · rw [if_pos h1]
        exact ⟨x, g2 x (by simp), y, g2 y (by simp), h1, .inl hc2, rfl⟩
      · rw [if_neg h1]
        exact ⟨y, g2 y (by simp), x, g2 x (by simp), by omega, .inr hc2, rfl⟩
  · rintro ⟨a, ha, b, hb, hlt, hs, rfl⟩
    rcases hs with hs | hs
    · refine List.mem_map.2 ⟨[a, b], List.mem_filter.2 ⟨asgN_of rfl (by simp [ha, hb]) (by simp; omega), hs⟩, ?_⟩
      rw [idsA_two (by omega), if_pos hlt]
    · refine List.mem_map.2 ⟨[b, a], List.mem_filter.2 ⟨asgN_of rfl (by simp [ha, hb]) (by simp; omega), hs⟩, ?_⟩
      rw [idsA_two (by omega), if_neg (by omega)]
theorem sat_bothI (a b : Row) (op : Int) (x : Int) : satA [a, b] (bothA op x) = opB op (vcmp (cellV a x.toNat) (cellV b x.toNat)) := by
  unfold satA bothA atT valN
  simp [cellV, zeroV]
theorem sat_lessI (a b : Row) (x : Int) : satA [a, b] (lessA x) = decide (vcmp (cellV b x.toNat) (cellV a x.toNat) < 0) := by
  unfold satA lessA atT valN opB
  simp [cellV, zeroV]
end Go.Proofs.YtlaodgbkpmdhoaaGreatDoor
/- The law DenialFD. -/
set_option linter.unusedVariables false
set_option linter.unusedSimpArgs false
namespace Go.Proofs.YtlaodgbkpmdhoaaGreatDoor
open Go Go.Ab
theorem allV_pairs {t : Table} (H : DT t) {l : List Denial} (h2 : ∀ d ∈ l, d.Vars = 2) (p : Row → Row → Bool) (hp : ∀ a ∈ t.Rows, ∀ b ∈ t.Rows, a.ID < b.ID → (p a b = true ↔ (∃ d ∈ l, d.Atoms.all (satA [a, b]) = true) ∨ ∃ d ∈ l, d.Atoms.all (satA [b, a]) = true)) : setO (allV t l) = pairsV p t.Rows := by
  have hasc := (H.code).2
  refine setO_eq (pairsV_asc p t.Rows hasc) fun z => ?_
  rw [pairsV_mem p t.Rows hasc]
  unfold allV
  rw [List.mem_flatMap]
  constructor
  · rintro ⟨d, hd, hz⟩
    obtain ⟨a, ha, b, hb, hlt, hs, rfl⟩ := (viol_two (h2 d hd) z).1 hz
    refine ⟨a, ha, b, hb, hlt, (hp a ha b hb hlt).2 ?_, rfl⟩
    rcases hs with hs | hs
    · exact .inl ⟨d, hd, hs⟩
    · exact .inr ⟨d, hd, hs⟩
  · rintro ⟨a, ha, b, hb, hlt, hpp, rfl⟩
    rcases (hp a ha b hb hlt).1 hpp with ⟨d, hd, hs⟩ | ⟨d, hd, hs⟩
    · exact ⟨d, hd, (viol_two (h2 d hd) _).2 ⟨a, ha, b, hb, hlt, .inl hs, rfl⟩⟩
    · exact ⟨d, hd, (viol_two (h2 d hd) _).2 ⟨a, ha, b, hb, hlt, .inr hs, rfl⟩⟩
theorem pairsV_short (p : Row → Row → Bool) (l : List Row) (h : l.Pairwise fun a b => a.ID < b.ID) : ∀ z ∈ pairsV p l, z.length ≤ 1000000 := by
  intro z hz
  obtain ⟨a, _, b, _, _, _, rfl⟩ := (pairsV_mem p l h z).1 hz
  simp
end Go.Proofs.YtlaodgbkpmdhoaaGreatDoor
/- The law DenialOD. -/
set_option linter.unusedVariables false
set_option linter.unusedSimpArgs false
namespace Go.Proofs.YtlaodgbkpmdhoaaGreatDoor
open Go Go.Ab
def odP (d : OD) (a b : Row) : Bool := kindB a b d != 0
theorem viols_pairs (d : OD) : ∀ l : List Row, viols d l = pairsV (odP d) l
  | [] => rfl
  | a :: l => by rw [viols, pairsV, viols_pairs d l]; rfl
theorem od_sat {x y : List Int} (a b : Row) : (∃ d ∈ odL x y, d.Atoms.all (satA [a, b]) = true) ↔ cmpL a b x ≤ 0 ∧ 0 < cmpL a b y := by
  have hone : ∀ i j, (odDen x y i j).Atoms.all (satA [a, b]) = true ↔ (cmpL a b (x.take i) = 0 ∧ (∀ z, x[i]? = some z → vcmp (cellV a z.toNat) (cellV b z.toNat) < 0)) ∧ cmpL a b (y.take j) = 0 ∧ vcmp (cellV b (y.getD j 0).toNat) (cellV a (y.getD j 0).toNat) < 0 := by
    intro i j
    unfold odDen odPre
    rw [cmpL_zero, cmpL_zero]
    cases hxi : x[i]? with
    | none =>
      simp only [List.all_append, List.all_map, Bool.and_eq_true, List.all_eq_true, List.all_cons, List.all_nil, Bool.and_true, Function.comp, sat_bothI, sat_lessI, opB, if_true, decide_eq_true_eq, and_assoc]
      simp
    | some z =>
      simp only [List.all_append, List.all_map, Bool.and_eq_true, List.all_eq_true, List.all_cons, List.all_nil, Bool.and_true, Function.comp, sat_bothI, sat_lessI, opB, if_true, decide_eq_true_eq, and_assoc, show ¬ (3 : Int) = 1 by decide, show ¬ (3 : Int) = 2 by decide, if_false]
      simp
  constructor
  · rintro ⟨d, hd, hs⟩
    obtain ⟨i, hi, hd⟩ := List.mem_flatMap.1 hd
    obtain ⟨j, hj, rfl⟩ := List.mem_map.1 hd
    rw [List.mem_range] at hi hj
    obtain ⟨⟨h1, h2⟩, h3, h4⟩ := (hone i j).1 hs
    have hyj : y[j]? = some (y[j]'hj) := List.getElem?_eq_getElem hj
    rw [getD_g18 hyj] at h4
    have hn := vcmp_neg (cellV a (y[j]'hj).toNat) (cellV b (y[j]'hj).toNat)
    constructor
    · by_cases hlt : i < x.length
      · have hxi : x[i]? = some (x[i]'hlt) := List.getElem?_eq_getElem hlt
        have h5 := h2 _ hxi
        rw [cmpL_at hxi h1 (by omega)]
        omega
      · rw [List.take_of_length_le (by omega)] at h1
        omega
    · rw [cmpL_at hyj h3 (by omega)]
      omega
  · rintro ⟨h1, h2⟩
    obtain ⟨j, v, hj1, hj2, hj3, hj4⟩ := cmpL_first a b y (by omega)
    have hjl := lt_of_get hj1
    have hn := vcmp_neg (cellV a v.toNat) (cellV b v.toNat)
    have hi : ∃ i, i < x.length + 1 ∧ cmpL a b (x.take i) = 0 ∧ ∀ z, x[i]? = some z → vcmp (cellV a z.toNat) (cellV b z.toNat) < 0 := by
      by_cases h0 : cmpL a b x = 0
      · refine ⟨x.length, by omega, by rw [List.take_length]; exact h0, fun z hz => ?_⟩
        rw [List.getElem?_eq_none (Nat.le_refl _)] at hz; cases hz
      · obtain ⟨i, u, hi1, hi2, hi3, hi4⟩ := cmpL_first a b x h0
        have := lt_of_get hi1
        refine ⟨i, by omega, hi2, fun z hz => ?_⟩
        rw [hi1] at hz; cases hz
        omega
    obtain ⟨i, hi0, hi1, hi2⟩ := hi
    refine ⟨odDen x y i j, List.mem_flatMap.2 ⟨i, List.mem_range.2 hi0, List.mem_map.2 ⟨j, List.mem_range.2 hjl, rfl⟩⟩, (hone i j).2 ⟨⟨hi1, hi2⟩, hj2, ?_⟩⟩
    rw [getD_g18 hj1]
    omega
theorem bothI_atom {n : Int} {x : Int} (h0 : 0 ≤ x) (hx : x < n) {op : Int} (ho : 1 ≤ op ∧ op ≤ 4) : atomB n 2 (bothA op x) = true := by
  unfold atomB bothA atT termB
  simp only [Bool.and_eq_true, decide_eq_true_eq]
  refine ⟨ho, ?_, ?_⟩
  · rw [if_neg (by decide)]
    simp only [Bool.and_eq_true, decide_eq_true_eq]
    exact ⟨⟨by omega, by omega, by omega, by omega⟩, by decide⟩
  · rw [if_neg (by decide)]
    simp only [Bool.and_eq_true, decide_eq_true_eq]
    exact ⟨⟨by omega, by omega, by omega, by omega⟩, by decide⟩
theorem lessI_atom {n : Int} {x : Int} (h0 : 0 ≤ x) (hx : x < n) : atomB n 2 (lessA x) = true := by
  unfold atomB lessA atT termB
  simp only [Bool.and_eq_true, decide_eq_true_eq]
  refine ⟨by omega, ?_, ?_⟩
  · rw [if_neg (by decide)]
    simp only [Bool.and_eq_true, decide_eq_true_eq]
    exact ⟨⟨by omega, by omega, by omega, by omega⟩, by decide⟩
  · rw [if_neg (by decide)]
    simp only [Bool.and_eq_true, decide_eq_true_eq]
    exact ⟨⟨by omega, by omega, by omega, by omega⟩, by decide⟩
theorem odDen_ok {t : Table} (H : DT t) {x y : List Int} (hx : x.length ≤ 8) (hy : y.length ≤ 8) (hx0 : ∀ z ∈ x, 0 ≤ z ∧ z < (t.Attrs.length : Int)) (hy0 : ∀ z ∈ y, 0 ≤ z ∧ z < (t.Attrs.length : Int)) : ∀ d ∈ odL x y, denErr t d = 0 := by
  intro d hd
  obtain ⟨i, hi, hd⟩ := List.mem_flatMap.1 hd
  obtain ⟨j, hj, rfl⟩ := List.mem_map.1 hd
  rw [List.mem_range] at hi hj
  have hyj : y[j]? = some (y[j]'hj) := List.getElem?_eq_getElem hj
  have hb : denB t.Attrs.length (odDen x y i j) = true := by
    unfold denB
    have hp := odPre_len x i hx
    have hall : ∀ a ∈ (odDen x y i j).Atoms, atomB (t.Attrs.length : Int) (odDen x y i j).Vars a = true := by
      intro a ha
      unfold odDen at ha ⊢
      rcases List.mem_append.1 ha with ha | ha
      · rcases List.mem_append.1 ha with ha | ha
        · unfold odPre at ha
          rcases List.mem_append.1 ha with ha | ha
          · obtain ⟨z, hz, rfl⟩ := List.mem_map.1 ha
            have := hx0 z (List.mem_of_mem_take hz)
            exact bothI_atom this.1 this.2 (by omega)
          · cases hxi : x[i]? with
            | none => rw [hxi] at ha; cases ha
            | some z =>
              rw [hxi] at ha
              rw [List.mem_singleton.1 ha]
              have := hx0 z (List.mem_of_getElem? hxi)
              exact bothI_atom this.1 this.2 (by omega)
        · obtain ⟨z, hz, rfl⟩ := List.mem_map.1 ha
          have := hy0 z (List.mem_of_mem_take hz)
          exact bothI_atom this.1 this.2 (by omega)
      · rw [List.mem_singleton.1 ha, getD_g18 hyj]
        have := hy0 _ (List.getElem_mem hj)
        exact lessI_atom this.1 this.2
    simp only [Bool.and_eq_true, decide_eq_true_eq, List.all_eq_true]
    refine ⟨⟨by simp [odDen], by simp [odDen], ?_⟩, hall⟩
    simp only [odDen, List.length_append, List.length_map, List.length_take, List.length_singleton]
    omega
  unfold denErr
  rw [if_neg (by simp [H.err]), if_pos hb, if_neg (by rintro ⟨h, _⟩; cases h)]
theorem listB_all {n : Int} {l : List Int} (h : listB n l = true) : ∀ z ∈ l, 0 ≤ z ∧ z < n := by
  simp only [listB, Bool.and_eq_true, List.all_eq_true, decide_eq_true_eq] at h
  intro z hz
  have := h.2 z hz
  omega
theorem clone_int18 (l : List Int) (hl : l.length ≤ 1048576) : slices_Clone_int l = some l := by
  unfold slices_Clone_int
  rw [if_pos (room_le (by omega) (by omega))]
theorem DenialOD_holds (x : Drossref03_Recipe) (d : OD) (h0 : okDrossref03_Recipe x) (h1 : okOD d) : drosslaw18_DenialOD x d = some true := by
  rcases recipe7 x h0 with ⟨t, ht, ha⟩ | ⟨t, ht, hok, G, hn, hat⟩
  · simp only [drosslaw18_DenialOD, ht, awake18, Option.bind_some, if_true, Bool.false_eq_true, if_false]
  · have H := dt_of hok G hn
    have hl1 : d.Lhs.length ≤ 1048576 := h1.1.1
    have hl2 : d.Rhs.length ≤ 1048576 := h1.2.1
    by_cases hc1 : (d.Lhs.length : Int) > 12
    · simp only [drosslaw18_DenialOD, ht, awake18, Option.bind_some, if_true, Bool.false_eq_true, if_false, hc1, decide_true]
    by_cases hc2 : (d.Rhs.length : Int) > 12
    · simp only [drosslaw18_DenialOD, ht, awake18, Option.bind_some, if_true, Bool.false_eq_true, if_false, hc1, hc2, decide_true, decide_false]
    simp only [drosslaw18_DenialOD, ht, awake18, Option.bind_some, if_true, Bool.false_eq_true, if_false, hc1, hc2, decide_false, clone_int18 _ hl1, clone_int18 _ hl2, FromOD_eq _ d hl1 hl2, ref_FromOD_eq _ d hl1 hl2, bne_self_eq_false, beq_self_eq_true]
    unfold odR
    by_cases hv : odOk (t.Attrs.length : Int) d = true
    · have hv' := hv
      simp only [odOk, Bool.and_eq_true, decide_eq_true_eq] at hv'
      have hvB := hv'.2
      simp only [validB, Bool.and_eq_true] at hvB
      have hx : (onceL d.Lhs).length ≤ 8 := Nat.le_trans (onceL_len18 _) (listB_len hvB.1)
      have hy : (onceL d.Rhs).length ≤ 8 := Nat.le_trans (onceL_len18 _) (listB_len hvB.2)
      have hoL : (odL (onceL d.Lhs) (onceL d.Rhs)).length ≤ 100 := by
        have key : ∀ l : List Nat, (l.flatMap fun i => (List.range (onceL d.Rhs).length).map (odDen (onceL d.Lhs) (onceL d.Rhs) i)).length = l.length * (onceL d.Rhs).length := by
          intro l
          induction l with
          | nil => simp
          | cons z l ih => rw [List.flatMap_cons, List.length_append, ih, List.length_map, List.length_range, List.length_cons, Nat.succ_mul]; omega
        unfold odL
        rw [key, List.length_range]
        have : ((onceL d.Lhs).length + 1) * (onceL d.Rhs).length ≤ 9 * 8 := Nat.mul_le_mul (by omega) hy
        omega
      have hden := odDen_ok H hx hy (fun z hz => listB_all hvB.1 z ((mem_onceL _ _).1 hz)) (fun z hz => listB_all hvB.2 z ((mem_onceL _ _).1 hz))
      have hS := Same_self18 (odL (onceL d.Lhs) (onceL d.Rhs)) (by omega) (fun e he => by
        have := (denB_parts (denErr_zero (hden e he)).2).1
        omega)
      have hvars : ∀ e ∈ odL (onceL d.Lhs) (onceL d.Rhs), e.Vars = 2 := fun e he => by
        obtain ⟨i, _, he⟩ := List.mem_flatMap.1 he
        obtain ⟨j, _, rfl⟩ := List.mem_map.1 he
        rfl
      have hT := together_eq H _ hoL hden
      have hP := allV_pairs H hvars (odP d) (fun a ha b hb hlt => by
        rw [od_sat, od_sat, cmpL_once, cmpL_once, cmpL_once, cmpL_once, cmpL_neg a b d.Lhs, cmpL_neg a b d.Rhs]
        unfold odP kindB
        rcases cmpL_range a b d.Lhs with e1 | e1 | e1 <;> rcases cmpL_range a b d.Rhs with e2 | e2 | e2 <;> rw [e1, e2] <;> decide)
      rw [hP] at hT
      have hodE : odErr t d = 0 := by
        unfold odErr
        rw [if_neg (by simp [H.err]), if_pos hv'.2]
      have hV := ref_Violations_eq t d H.ok ⟨by omega, by omega⟩
      rw [if_pos hodE, viols_pairs] at hV
      have hl := pairsV_len (odP d) t.Rows
      have h49 : t.Rows.length * t.Rows.length ≤ 7 * 7 := Nat.mul_le_mul hn hn
      have hLi := Lists_self (pairsV (odP d) t.Rows) (by omega) (pairsV_short _ _ (H.code).2)
      simp only [hv, if_true, hS, Option.bind_some, bne_self_eq_false, Bool.false_eq_true, if_false, hT, hV, beq_self_eq_true, hLi]
    · have hS := Same_self18 [] (by simp) (by simp)
      simp only [hv, Bool.false_eq_true, if_false, hS, Option.bind_some, if_true]
      rfl
end Go.Proofs.YtlaodgbkpmdhoaaGreatDoor
