/- The Lean functions that the program's functions are lifted to, and the plain laws about them. -/
import Derived.Test.YthgnkhchpjcboaaGreatL1
/- The reference's subsets. -/
set_option linter.unusedVariables false
set_option linter.unusedSimpArgs false
namespace Go.Proofs.YthgnkhchpjcboaaGreat
open Go Go.Ab
theorem Has_nat {s k : Nat} (hs : s < 4294967296) (hk : k < 32) : drossref02_Has (s : Int) (k : Int) = some (s.testBit k) := by
  rw [Has02_eq', hasB_nat hs (by omega), decide_eq_true (show 0 ≤ (k : Int) by omega), decide_eq_true (show (k : Int) < 32 by omega)]; rfl
def membN (s : Nat) : List Int := ((List.range 32).filter s.testBit).map fun (k : Nat) => (k : Int)
theorem Members_eq {s : Nat} (hs : s < 4294967296) : drossref02_Members (s : Int) = some (membN s) := by
  have hlen : (List.range 32).length = 32 := List.length_range
  have hl := LoopF_foldl (List.range 32) (fun (o : List Int) i => (o, i)) (drossref02_Members_l1 (s : Int)) (fun o (k : Nat) => if s.testBit k then o ++ [(k : Int)] else o) id (fun k o => o.length ≤ k) (b0 := []) (s0 := ([], 0)) rfl (Nat.le_refl 0)
    (fun k o z hz hk hI => by
      have hzk : z = k := by
        have := (List.getElem?_eq_some_iff.1 hz).2
        simpa using this.symm
      subst hzk
      rw [hlen] at hk
      refine ⟨?_, by cases s.testBit z <;> simp <;> omega⟩
      simp only [drossref02_Members_l1, if_pos (show (z : Int) < 32 by omega), Has_nat hs hk, Option.bind_some, room_le (show o.length + 1 ≤ 1073741824 by omega) (show 8 ≤ 65536 by omega), if_true, wrap_nat (show z < 4611686018427387904 by omega)]
      cases s.testBit z <;> rfl)
    (fun o _ => by rw [hlen]; simp [drossref02_Members_l1])
  simp only [drossref02_Members, hl, id, Option.bind_some]
  rw [foldl_keep]; rfl
def sizeN (s : Nat) : Nat := ((List.range 32).filter s.testBit).length
theorem ref_Size_eq {s : Nat} (hs : s < 4294967296) : drossref02_Size (s : Int) = some ((sizeN s : Nat) : Int) := by
  simp only [drossref02_Size, Members_eq hs, Option.bind_some, membN, List.length_map, sizeN]
/-- the next subset -/
def nxtN (x s : Nat) : Nat := if x = s then s + 1 else ((x + 18446744073709551616 - s) % 18446744073709551616) &&& s
theorem next_eq {x s : Nat} (hs : s < 4294967296) (hx : x ≤ s) : drossref02_next (x : Int) (s : Int) = some ((nxtN x s : Nat) : Int) := by
  unfold drossref02_next nxtN
  by_cases h : x = s
  · subst h
    rw [if_pos (by simp), if_pos rfl, wrap_u64 (by omega) (by omega)]; rfl
  · rw [if_neg (by simp; omega), if_neg h]
    have e : IntKind.u64.wrap ((x : Int) - (s : Int)) = (((x + 18446744073709551616 - s) % 18446744073709551616 : Nat) : Int) := by
      simp only [IntKind.wrap, IntKind.signed, IntKind.bits, Bool.false_and, Bool.false_eq_true, if_false]
      rw [show ((2 : Int) ^ 64) = 18446744073709551616 from rfl]
      omega
    have b1 : ∀ m : Nat, m < 18446744073709551616 → (BitVec.ofInt 64 (m : Int)).toNat = m := fun m hm => by
      rw [BitVec.ofInt_natCast, BitVec.toNat_ofNat]; exact Nat.mod_eq_of_lt hm
    have hm : (x + 18446744073709551616 - s) % 18446744073709551616 < 18446744073709551616 := Nat.mod_lt _ (by omega)
    rw [e, BitVec.toNat_and, b1 _ hm, b1 s (by omega)]
    have hle : ((x + 18446744073709551616 - s) % 18446744073709551616) &&& s ≤ s := Nat.and_le_right
    rw [wrap_u64 (by omega) (by omega)]
/-- the walk through the subsets -/
def walkN (s : Nat) : Nat → Nat → List Nat
  | 0, _ => []
  | f + 1, x => if x ≤ s then x :: walkN s f (nxtN x s) else []
def endN (s : Nat) : Nat → Nat → Bool
  | 0, x => decide (s < x)
  | f + 1, x => if x ≤ s then endN s f (nxtN x s) else true
theorem walk_loop (s k : Nat) (hs : s < 64) : ∀ (f x : Nat) (out : List Int), endN s f x = true → x ≤ 64 → out.length + f ≤ 100000 → LoopF (drossref02_Subsets_l3 (s : Int) (k : Int)) (out, (x : Int)) = some (out ++ ((walkN s f x).filter fun y => sizeN y == k).map fun (y : Nat) => (y : Int))
  | 0, x, out, h, hx, ho => by
    have h' : s < x := by simpa [endN] using h
    refine Loop_done ?_
    simp only [drossref02_Subsets_l3]
    rw [wrap_u64 (by omega) (by omega), if_neg (by omega)]
    simp [walkN]
  | f + 1, x, out, h, hx, ho => by
    by_cases hc : x ≤ s
    · have h' : endN s f (nxtN x s) = true := by simpa [endN, hc] using h
      have hnx : nxtN x s ≤ 64 := by
        unfold nxtN
        split
        · omega
        · have : ((x + 18446744073709551616 - s) % 18446744073709551616) &&& s ≤ s := Nat.and_le_right
          omega
      have e1 : IntKind.u64.wrap (s : Int) = (s : Int) := wrap_u64 (by omega) (by omega)
      have e2 : IntKind.u32.wrap (x : Int) = (x : Int) := wrap_u32 (by omega) (by omega)
      have hroom : roomB (out.length + 1) 4 = true := room_le (by omega) (by omega)
      have hstep : drossref02_Subsets_l3 (s : Int) (k : Int) (out, (x : Int)) = some (.next ((if sizeN x == k then out ++ [(x : Int)] else out), ((nxtN x s : Nat) : Int))) := by
        simp only [drossref02_Subsets_l3, e1, e2, ref_Size_eq (show x < 4294967296 by omega), next_eq (show s < 4294967296 by omega) hc, Option.bind_some, hroom, if_true]
        rw [if_pos (by omega)]
        have eb : (((sizeN x : Nat) : Int) == (k : Int)) = (sizeN x == k) := by
          rw [Bool.eq_iff_iff, beq_iff_eq, beq_iff_eq]; omega
        rw [eb]
        cases sizeN x == k <;> rfl
      have hol : (if (sizeN x == k) = true then out ++ [(x : Int)] else out).length ≤ out.length + 1 := by split <;> simp
      rw [Loop_next hstep, walk_loop s k hs f (nxtN x s) _ h' hnx (by omega)]
      have ew : walkN s (f + 1) x = x :: walkN s f (nxtN x s) := by simp [walkN, hc]
      rw [ew, List.filter_cons]
      by_cases hk : (sizeN x == k) = true
      · rw [if_pos hk, if_pos hk]; simp
      · rw [if_neg hk, if_neg hk]
    · refine Loop_done ?_
      simp only [drossref02_Subsets_l3]
      rw [wrap_u64 (by omega) (by omega), if_neg (by omega)]
      simp [walkN, hc]
/-- the subsets in order -/
def subsR (s : Nat) : List Nat := (List.range (sizeN s + 1)).flatMap fun k => (walkN s 70 0).filter fun y => sizeN y == k
theorem subs_ok : ∀ s ∈ List.range 64, endN s 70 0 = true ∧ sizeN s ≤ 6 ∧ (walkN s 70 0) = (List.range 64).filter (fun x => x &&& s == x) := by decide +kernel
theorem walk_len {s : Nat} (hs : s < 64) : (walkN s 70 0).length ≤ 64 := by
  rw [(subs_ok s (by rw [List.mem_range]; exact hs)).2.2]
  exact Nat.le_trans (List.length_filter_le _ _) (by simp)
theorem ref_Subsets_eq {s : Nat} (hs : s < 64) : drossref02_Subsets (s : Int) = some ((subsR s).map fun (y : Nat) => (y : Int)) := by
  obtain ⟨h1, h2, h3⟩ := subs_ok s (by rw [List.mem_range]; exact hs)
  have hwl := walk_len hs
  have hlen : (List.range (sizeN s + 1)).length = sizeN s + 1 := List.length_range
  have hl := LoopF_foldl (List.range (sizeN s + 1)) (fun (o : List Int) i => (o, i)) (drossref02_Subsets_l4 (s : Int)) (fun o (k : Nat) => o ++ ((walkN s 70 0).filter fun y => sizeN y == k).map fun (y : Nat) => (y : Int)) id (fun k o => o.length ≤ k * 64) (b0 := []) (s0 := ([], 0)) rfl (by simp)
    (fun k o z hz hk hI => by
      have hzk : z = k := by
        have := (List.getElem?_eq_some_iff.1 hz).2
        simpa using this.symm
      subst hzk
      rw [hlen] at hk
      have hfl : ((walkN s 70 0).filter fun y => sizeN y == z).length ≤ 64 := Nat.le_trans (List.length_filter_le _ _) hwl
      refine ⟨?_, by rw [List.length_append, List.length_map, Nat.add_mul]; omega⟩
      have hw := walk_loop s z hs 70 0 o h1 (by omega) (by omega)
      rw [show ((0 : Nat) : Int) = 0 from rfl] at hw
      simp only [drossref02_Subsets_l4, ref_Size_eq (show s < 4294967296 by omega), Option.bind_some, if_pos (show (z : Int) ≤ ((sizeN s : Nat) : Int) by omega), hw, wrap_nat (show z < 4611686018427387904 by omega)])
    (fun o _ => by
      rw [hlen]
      simp only [drossref02_Subsets_l4, ref_Size_eq (show s < 4294967296 by omega), Option.bind_some]
      rw [if_neg (by omega)]; rfl)
  simp only [drossref02_Subsets, ref_Size_eq (show s < 4294967296 by omega), Option.bind_some, hl, id]
  rw [if_neg (by omega)]
  congr 1
  have : ∀ (l : List Nat) (o : List Int), l.foldl (fun o (k : Nat) => o ++ ((walkN s 70 0).filter fun y => sizeN y == k).map fun (y : Nat) => (y : Int)) o = o ++ (l.flatMap fun k => (walkN s 70 0).filter fun y => sizeN y == k).map fun (y : Nat) => (y : Int) := by
    intro l
    induction l with
    | nil => intro o; simp
    | cons k l ih => intro o; rw [List.foldl_cons, ih]; simp
  rw [this]; rfl
theorem subsR_mem {s : Nat} (hs : s < 64) (x : Nat) : x ∈ subsR s ↔ ∀ k, x.testBit k = true → s.testBit k = true := by
  obtain ⟨h1, h2, h3⟩ := subs_ok s (by rw [List.mem_range]; exact hs)
  unfold subsR
  rw [List.mem_flatMap]
  have sub : (x &&& s == x) = true ↔ ∀ k, x.testBit k = true → s.testBit k = true := by
    rw [beq_iff_eq]
    constructor
    · intro h k hk
      rw [← h, Nat.testBit_and, Bool.and_eq_true] at hk
      exact hk.2
    · intro h
      apply Nat.eq_of_testBit_eq
      intro k
      rw [Nat.testBit_and]
      cases hb : x.testBit k with
      | false => rfl
      | true => rw [h k hb]; rfl
  rw [← sub, h3]
  constructor
  · rintro ⟨k, _, hx⟩
    exact (List.mem_filter.1 (List.mem_filter.1 hx).1).2
  · intro hx
    have hlt : x < 64 := by
      have : x ≤ s := by rw [← beq_iff_eq.1 hx]; exact Nat.and_le_right
      omega
    have hsz : sizeN x ≤ sizeN s := by
      unfold sizeN
      have hsub := sub.1 hx
      have e : (List.range 32).filter x.testBit = ((List.range 32).filter s.testBit).filter x.testBit := by
        rw [List.filter_filter]
        apply List.filter_congr
        intro i _
        cases hb : x.testBit i with
        | false => rfl
        | true => rw [hsub i hb]; rfl
      rw [e]; exact List.length_filter_le _ _
    exact ⟨sizeN x, by rw [List.mem_range]; omega, List.mem_filter.2 ⟨List.mem_filter.2 ⟨by rw [List.mem_range]; exact hlt, hx⟩, by simp⟩⟩
/-- all subsets of the first attributes -/
theorem subsR_ord : ∀ n ∈ List.range 7, subsR (2 ^ n - 1) = ordL n := by decide +kernel
end Go.Proofs.YthgnkhchpjcboaaGreat
/- The reference's list of all minimal statements is that of the miner. -/
set_option linter.unusedVariables false
set_option linter.unusedSimpArgs false
namespace Go.Proofs.YthgnkhchpjcboaaGreat
open Go Go.Ab
theorem holds31_eq (t : Table) (c : Canonical) (H : TabOk t) (hc : okC c) : drossref31_holds t c = some (satV t c) := by
  simp only [drossref31_holds, ref_Satisfies_eq t c H hc, Option.bind_some]
  unfold satV satVal
  by_cases h : tableErr t ≠ 0
  · rw [if_pos h]; simp
  · rw [if_neg h]
    by_cases hs : stB t.Attrs.length c = true
    · rw [if_pos hs]
      cases hb : satB t c <;> simp
    · rw [if_neg hs]; simp
/-- minimal, as the reference says it -/
def minB (t : Table) (s : Nat) (A B : Int) : Bool := !trivial31 ⟨s, A, B⟩ && (satV t ⟨s, A, B⟩ && ((subsR s).all (fun x => !((x : Int) != (s : Int) && satV t ⟨x, A, B⟩)) && ((B == -1) || (!satV t ⟨s, A, -1⟩ && !satV t ⟨s, B, -1⟩))))
theorem subsR_lt {s : Nat} (hs : s < 64) {x : Nat} (hx : x ∈ subsR s) : x < 64 := sub_lt (n := 6) hs ((subsR_mem hs x).1 hx)
theorem subsR_len {s : Nat} (hs : s < 64) : (subsR s).length ≤ 1000 := by
  have h1 := flat_len (fun k => (walkN s 70 0).filter fun y => sizeN y == k) 64 (fun k => Nat.le_trans (List.length_filter_le _ _) (walk_len hs)) (List.range (sizeN s + 1))
  rw [List.length_range] at h1
  have h2 := (subs_ok s (by rw [List.mem_range]; exact hs)).2.1
  unfold subsR
  omega
theorem Minimal_eq (t : Table) (H : TabOk t) {s : Nat} (hs : s < 64) (A B : Int) : drossref31_Minimal t ⟨s, A, B⟩ = some (minB t s A B) := by
  have ok1 : ∀ (x : Nat), x < 64 → ∀ A B : Int, okC ⟨(x : Int), A, B⟩ := fun x hx A B => ⟨by show (0 : Int) ≤ (x : Int); omega, by show (x : Int) < 4294967296; omega⟩
  have hsl := subsR_len hs
  have hloop := LoopF_all ((subsR s).map fun (y : Nat) => (y : Int)) (drossref31_Minimal_l1 t ⟨s, A, B⟩ ((subsR s).map fun (y : Nat) => (y : Int))) (fun (x : Int) => !(x != (s : Int) && satV t ⟨x, A, B⟩)) false
    (fun k x hx hk hp => by
      rw [List.length_map] at hk
      obtain ⟨y, hy, rfl⟩ := List.mem_map.1 (List.mem_of_getElem? hx)
      simp only [drossref31_Minimal_l1, if_pos (lt_true hx), idx_get hx, Option.bind_some, holds31_eq t _ H (ok1 y (subsR_lt hs hy) A B), wrap_nat (show k < 4611686018427387904 by omega)]
      cases h1 : ((y : Int) != (s : Int))
      · simp
      · rw [h1, Bool.true_and, Bool.not_eq_true'] at hp
        simp [hp])
    (fun k x hx hp => by
      obtain ⟨y, hy, rfl⟩ := List.mem_map.1 (List.mem_of_getElem? hx)
      rw [Bool.not_eq_false', Bool.and_eq_true] at hp
      simp only [drossref31_Minimal_l1, if_pos (lt_true hx), idx_get hx, Option.bind_some, holds31_eq t _ H (ok1 y (subsR_lt hs hy) A B), if_pos hp.1, if_pos hp.2])
    (by simp [drossref31_Minimal_l1])
  simp only [drossref31_Minimal, ref_Trivial_eq, holds31_eq t _ H (ok1 s hs A B), holds31_eq t _ H (ok1 s hs A (-1)), holds31_eq t _ H (ok1 s hs B (-1)), ref_Subsets_eq hs, hloop, Option.bind_some]
  unfold minB
  rw [List.all_map]
  have hcomp : ((fun (x : Int) => !(x != (s : Int) && satV t ⟨x, A, B⟩)) ∘ fun (y : Nat) => (y : Int)) = fun (x : Nat) => !((x : Int) != (s : Int) && satV t ⟨x, A, B⟩) := rfl
  rw [hcomp]
  cases trivial31 ⟨s, A, B⟩
  · cases satV t ⟨s, A, B⟩
    · simp
    · cases (subsR s).all fun (x : Nat) => !((x : Int) != (s : Int) && satV t ⟨x, A, B⟩)
      · simp
      · cases h1 : (B == -1)
        · cases satV t ⟨s, A, -1⟩ <;> simp
        · simp
  · simp
/-- minimal, in words -/
theorem minB_iff {t : Table} (h0 : tableErr t = 0) (hn : t.Attrs.length ≤ 6) {s : Nat} {A B : Int} (h : StOk t s A B) (hnt : ¬ (B ≠ -1 ∧ A = B)) : minB t s A B = true ↔
    s.testBit A.toNat = false ∧ (B = -1 ∨ (s.testBit B.toNat = false ∧ ¬ HoldsS t s A (-1) ∧ ¬ HoldsS t s B (-1))) ∧ HoldsS t s A B ∧ ∀ i, s.testBit i = true → ¬ HoldsS t (ndiff s (2 ^ i)) A B := by
  have h64 := pow6 hn
  have hs64 : s < 64 := Nat.lt_of_lt_of_le h.hs h64
  have hsub : (∀ x ∈ subsR s, ¬ ((x : Int) ≠ (s : Int) ∧ satV t ⟨(x : Int), A, B⟩ = true)) ↔ (HoldsS t s A B → ∀ i, s.testBit i = true → ¬ HoldsS t (ndiff s (2 ^ i)) A B) ∨ ¬ HoldsS t s A B := by
    constructor
    · intro hx
      left
      intro _ i hi hc
      have hlt := ndiff_less hi
      refine hx (ndiff s (2 ^ i)) ((subsR_mem hs64 _).2 ndiff_le) ⟨by omega, ?_⟩
      exact (satV_holds h0 (by omega) (h.sub ndiff_le)).2 hc
    · intro hh x hx hc
      have hxs := (subsR_mem hs64 x).1 hx
      have hxh := (satV_holds h0 (by omega) (h.sub hxs)).1 hc.2
      rcases hh with hh | hh
      · have := least_sub (hh (holds_mono hxs hxh)) hxs hxh
        omega
      · exact hh (holds_mono hxs hxh)
  have ha0 := h.a0; have ha1 := h.a1; have hb0 := h.b0; have hb1 := h.b1
  have cA := satV_holds h0 (by omega) (⟨h.hs, ha0, ha1, by omega, by omega⟩ : StOk t s A (-1))
  unfold minB
  simp only [Bool.and_eq_true, Bool.not_eq_true', List.all_eq_true, Bool.or_eq_true, beq_iff_eq]
  have e1 : trivial31 ⟨(s : Int), A, B⟩ = false ↔ ¬ (s.testBit A.toNat = true ∨ (B ≠ -1 ∧ (A = B ∨ s.testBit B.toNat = true))) := by
    rw [← trivial31_iff (by omega) h]; simp
  have e2 : (∀ x ∈ subsR s, ((x : Int) != (s : Int) && satV t ⟨(x : Int), A, B⟩) = false) ↔ ∀ x ∈ subsR s, ¬ ((x : Int) ≠ (s : Int) ∧ satV t ⟨(x : Int), A, B⟩ = true) := by
    refine forall_congr' fun x => forall_congr' fun _ => ?_
    rw [Bool.eq_false_iff, ne_eq, Bool.and_eq_true, bne_iff_ne]
  rw [e1, e2, hsub, satV_holds h0 (by omega) h]
  by_cases hB : B = -1
  · subst hB
    simp only [ne_eq, not_true_eq_false, false_and, or_false, true_or, and_true, true_and, Bool.not_eq_true]
    constructor
    · rintro ⟨p1, p2, p3⟩
      exact ⟨p1, p2, p3.elim (fun q => q p2) (fun q => absurd p2 q)⟩
    · rintro ⟨p1, p2, p3⟩
      exact ⟨p1, p2, .inl fun _ => p3⟩
  · have cB := satV_holds h0 (by omega) (⟨h.hs, by omega, hb1, by omega, by omega⟩ : StOk t s B (-1))
    have hAB : A ≠ B := fun e => hnt ⟨hB, e⟩
    have dA : satV t ⟨(s : Int), A, -1⟩ = false ↔ ¬ HoldsS t s A (-1) := by rw [← cA]; simp
    have dB : satV t ⟨(s : Int), B, -1⟩ = false ↔ ¬ HoldsS t s B (-1) := by rw [← cB]; simp
    simp only [ne_eq, hB, not_false_eq_true, true_and, hAB, false_or, not_or, Bool.not_eq_true, dA, dB]
    constructor
    · rintro ⟨⟨p1, p2⟩, p3, p4, p5, p6⟩
      exact ⟨p1, ⟨p2, p5, p6⟩, p3, p4.elim (fun q => q p3) (fun q => absurd p3 q)⟩
    · rintro ⟨p1, ⟨p2, p5, p6⟩, p3, p4⟩
      exact ⟨⟨p1, p2⟩, p3, .inl fun _ => p4, p5, p6⟩
end Go.Proofs.YthgnkhchpjcboaaGreat
/- The reference lists what the miner lists. -/
set_option linter.unusedVariables false
set_option linter.unusedSimpArgs false
namespace Go.Proofs.YthgnkhchpjcboaaGreat
open Go Go.Ab
theorem flat_if {α β : Type} (p : α → Bool) (f : α → β) : ∀ l : List α, (l.flatMap fun k => if p k then [f k] else []) = (l.filter p).map f
  | [] => rfl
  | k :: l => by
    rw [List.flatMap_cons, flat_if p f l, List.filter_cons]
    by_cases h : p k = true
    · rw [if_pos h, if_pos h]; rfl
    · rw [if_neg h, if_neg h]; rfl
/-- one comes before the other -/
def lexC (z w : Canonical) : Prop := z.A < w.A ∨ (z.A = w.A ∧ z.B < w.B)
theorem eq_of_lexC {l m : List Canonical} (hl : l.Pairwise lexC) (hm : m.Pairwise lexC) (h : ∀ z, z ∈ l ↔ z ∈ m) : l = m := by
  have nd : ∀ {l : List Canonical}, l.Pairwise lexC → l.Nodup := fun h => h.imp fun {a b} hab e => by subst e; unfold lexC at hab; omega
  exact ((List.perm_ext_iff_of_nodup (nd hl) (nd hm)).2 h).eq_of_pairwise (fun a b _ _ h1 h2 => by unfold lexC at h1 h2; omega) hl hm
theorem pairF_pair (t : Table) (s : Nat) (a : Int) : ∀ l : List Int, l.Pairwise (· < ·) → (l.flatMap (pairF t s a)).Pairwise lexC
  | [], _ => List.Pairwise.nil
  | b :: l, h => by
    rw [List.flatMap_cons, List.pairwise_append]
    obtain ⟨h1, h2⟩ := List.pairwise_cons.1 h
    refine ⟨by unfold pairF; split <;> simp, pairF_pair t s a l h2, fun x hx y hy => ?_⟩
    obtain ⟨c, hc, hy⟩ := List.mem_flatMap.1 hy
    have hbc := h1 c hc
    unfold pairF at hx hy
    split at hx
    · split at hy
      · rw [List.mem_singleton.1 hx, List.mem_singleton.1 hy]
        exact .inr ⟨rfl, hbc⟩
      · cases hy
    · cases hx
theorem pairsAt_A {t : Table} {s : Nat} {free : List Int} {i : Nat} (hi : i < free.length) {z : Canonical} (hz : z ∈ pairsAt t s free i) : z.A = free[i] := by
  unfold pairsAt at hz
  rw [List.getElem?_eq_getElem hi] at hz
  obtain ⟨b, _, hz⟩ := List.mem_flatMap.1 hz
  unfold pairF at hz
  split at hz
  · rw [List.mem_singleton.1 hz]
  · cases hz
theorem pairsB_lex (t : Table) (s : Nat) : (pairsB t s).Pairwise lexC := by
  have hasc := freeL_asc t s
  unfold pairsB
  rw [List.pairwise_flatMap]
  constructor
  · intro i hi
    rw [List.mem_range] at hi
    unfold pairsAt
    rw [List.getElem?_eq_getElem hi]
    exact pairF_pair t s _ _ (hasc.sublist (List.drop_sublist _ _))
  · refine (List.pairwise_lt_range (n := (freeL t s).length)).imp_of_mem ?_
    intro i j hi hj hij x hx y hy
    rw [List.mem_range] at hi hj
    left
    rw [pairsAt_A hi hx, pairsAt_A hj hy]
    exact List.pairwise_iff_getElem.1 hasc i j hi hj hij
/-- the reference's pairs -/
def refPairs (t : Table) (s : Nat) (a : Nat) : List Canonical := ((List.range' (a + 1) (t.Attrs.length - (a + 1))).filter fun (b : Nat) => minB t s a b).map fun (b : Nat) => (⟨s, a, b⟩ : Canonical)
theorem refPairs_lex (t : Table) (s : Nat) : ((List.range t.Attrs.length).flatMap (refPairs t s)).Pairwise lexC := by
  rw [List.pairwise_flatMap]
  constructor
  · intro a _
    unfold refPairs
    rw [List.pairwise_map]
    refine ((List.pairwise_lt_range').sublist List.filter_sublist).imp fun {x y} h => ?_
    refine Or.inr ⟨rfl, ?_⟩
    show (x : Int) < (y : Int)
    omega
  · refine (List.pairwise_lt_range (n := t.Attrs.length)).imp fun {a b} hab x hx y hy => ?_
    unfold refPairs at hx hy
    obtain ⟨_, _, rfl⟩ := List.mem_map.1 hx
    obtain ⟨_, _, rfl⟩ := List.mem_map.1 hy
    left
    show (a : Int) < (b : Int)
    omega
theorem consts_ref {t : Table} (h0 : tableErr t = 0) (hn : t.Attrs.length ≤ 6) {s : Nat} (hs : s < 2 ^ t.Attrs.length) : constsB t s = ((List.range t.Attrs.length).filter fun (a : Nat) => minB t s a (-1)).map fun (a : Nat) => (⟨s, a, -1⟩ : Canonical) := by
  unfold constsB
  have e : (List.range t.Attrs.length).flatMap (constF t s) = (List.range t.Attrs.length).flatMap fun (k : Nat) => if (!s.testBit k && leastB t s k (-1)) then [(⟨s, k, -1⟩ : Canonical)] else [] := rfl
  rw [e, flat_if]
  congr 1
  apply List.filter_congr
  intro a ha
  rw [List.mem_range] at ha
  have hst : StOk t s a (-1) := ⟨hs, by omega, by omega, by omega, by omega⟩
  rw [Bool.eq_iff_iff, Bool.and_eq_true, Bool.not_eq_true', least_iff h0 (by omega) hst, minB_iff h0 hn hst (fun hc => hc.1 rfl), Int.toNat_natCast]
  simp
theorem pairs_ref {t : Table} (h0 : tableErr t = 0) (hn : t.Attrs.length ≤ 6) {s : Nat} (hs : s < 2 ^ t.Attrs.length) : pairsB t s = (List.range t.Attrs.length).flatMap (refPairs t s) := by
  refine eq_of_lexC (pairsB_lex t s) (refPairs_lex t s) fun z => ?_
  rw [mem_pairsB, List.mem_flatMap]
  constructor
  · rintro ⟨a, b, ha, hb, hab, rfl, hl⟩
    obtain ⟨x, hx, rfl, x1, x2⟩ := (mem_freeL h0 (by omega) hs a).1 ha
    obtain ⟨y, hy, rfl, y1, y2⟩ := (mem_freeL h0 (by omega) hs b).1 hb
    have hst : StOk t s x y := ⟨hs, by omega, by omega, by omega, by omega⟩
    refine ⟨x, by rw [List.mem_range]; exact hx, List.mem_map.2 ⟨y, List.mem_filter.2 ⟨by rw [List.mem_range'_1]; omega, ?_⟩, rfl⟩⟩
    rw [minB_iff h0 hn hst (fun hc => by have := hc.2; omega), Int.toNat_natCast, Int.toNat_natCast]
    obtain ⟨l1, l2⟩ := (least_iff h0 (by omega) hst).1 hl
    exact ⟨x1, .inr ⟨y1, x2, y2⟩, l1, l2⟩
  · rintro ⟨x, hx, hz⟩
    rw [List.mem_range] at hx
    obtain ⟨y, hy, rfl⟩ := List.mem_map.1 hz
    obtain ⟨hy1, hy2⟩ := List.mem_filter.1 hy
    rw [List.mem_range'_1] at hy1
    have hst : StOk t s x y := ⟨hs, by omega, by omega, by omega, by omega⟩
    rw [minB_iff h0 hn hst (fun hc => by have := hc.2; omega), Int.toNat_natCast, Int.toNat_natCast] at hy2
    obtain ⟨q1, q2, q3, q4⟩ := hy2
    rcases q2 with q2 | ⟨p1, p2, p3⟩
    · omega
    · exact ⟨x, y, (mem_freeL h0 (by omega) hs _).2 ⟨x, hx, rfl, q1, p2⟩, (mem_freeL h0 (by omega) hs _).2 ⟨y, by omega, rfl, p1, p3⟩, by omega, rfl, (least_iff h0 (by omega) hst).2 ⟨q3, q4⟩⟩
/-! ### the loops -/
theorem up_loop {B : List Canonical × Int → Option (LS (List Canonical × Int) (List Canonical))} (n : Nat) (p : Nat → Bool) (f : Nat → Canonical)
    (hB : ∀ (k : Nat) out, k < n → out.length ≤ 1000000 → B (out, (k : Int)) = some (.next ((if p k then out ++ [f k] else out), ((k + 1 : Nat) : Int))))
    (hE : ∀ out, B (out, (n : Int)) = some (.done out)) : ∀ (r k : Nat) (out : List Canonical), k + r = n → out.length + r ≤ 1000000 → LoopF B (out, (k : Int)) = some (out ++ ((List.range' k r).filter p).map f)
  | 0, k, out, hk, _ => by
    have : k = n := by omega
    subst this
    rw [Loop_done (hE out)]; simp
  | r + 1, k, out, hk, ho => by
    have hol : (if p k = true then out ++ [f k] else out).length ≤ out.length + 1 := by split <;> simp
    rw [Loop_next (hB k out (by omega) (by omega)), up_loop n p f hB hE r (k + 1) _ (by omega) (by omega), List.range'_succ, List.filter_cons]
    by_cases h : p k = true
    · rw [if_pos h, if_pos h]; simp
    · rw [if_neg h, if_neg h]
theorem refPairs_len (t : Table) (s a : Nat) : (refPairs t s a).length ≤ t.Attrs.length := by
  unfold refPairs
  rw [List.length_map]
  have := List.length_filter_le (fun (b : Nat) => minB t s a b) (List.range' (a + 1) (t.Attrs.length - (a + 1)))
  rw [List.length_range'] at this
  omega
theorem ref_ctx (t : Table) (H : TabOk t) (h0 : tableErr t = 0) (hn : t.Attrs.length ≤ 6) (cs : List Nat) (hcs : cs.length ≤ 1000) (i s : Nat) (hi : cs[i]? = some s) (hs : s < 2 ^ t.Attrs.length) (out : List Canonical) (ho : out.length ≤ 900000) :
    drossref31_All_l16 t (cs.map fun (k : Nat) => (k : Int)) (out, (i : Int)) = some (.next (out ++ ctxB t s, ((i + 1 : Nat) : Int))) := by
  have h64 := pow6 hn
  have hs64 : s < 64 := Nat.lt_of_lt_of_le hs h64
  have hx : (cs.map fun (k : Nat) => (k : Int))[i]? = some (s : Int) := by rw [List.getElem?_map, hi]; rfl
  have hil := lt_of_get hi
  have e1 := up_loop (B := drossref31_All_l11 t (cs.map fun (k : Nat) => (k : Int)) (i : Int)) t.Attrs.length (fun (a : Nat) => minB t s a (-1)) (fun (a : Nat) => (⟨s, a, -1⟩ : Canonical))
    (fun k out hk ho => by
      simp only [drossref31_All_l11, if_pos (show (k : Int) < (t.Attrs.length : Int) by omega), idx_get hx, Option.bind_some, Minimal_eq t H hs64, room_le (show out.length + 1 ≤ 1073741824 by omega) (show 24 ≤ 65536 by omega), if_true, wrap_nat (show k < 4611686018427387904 by omega)]
      cases minB t s k (-1) <;> rfl)
    (fun out => by simp [drossref31_All_l11]) t.Attrs.length 0 out (by omega) (by omega)
  rw [show ((0 : Nat) : Int) = 0 from rfl, ← List.range_eq_range', ← consts_ref h0 hn hs] at e1
  have l1 := constsB_len t s
  have e2 : ∀ (r k : Nat) (out : List Canonical), k + r = t.Attrs.length → out.length + r * 10 ≤ 950000 → LoopF (drossref31_All_l15 t (cs.map fun (k : Nat) => (k : Int)) (i : Int)) (out, (k : Int)) = some (out ++ (List.range' k r).flatMap (refPairs t s)) := by
    intro r
    induction r with
    | zero =>
      intro k out hk ho
      have : k = t.Attrs.length := by omega
      subst this
      rw [Loop_done (show drossref31_All_l15 t (cs.map fun (k : Nat) => (k : Int)) (i : Int) (out, (t.Attrs.length : Int)) = some (.done out) by simp [drossref31_All_l15])]
      simp
    | succ r ih =>
      intro k out hk ho
      have hw := wrap_nat (show k < 4611686018427387904 by omega)
      have e3 := up_loop (B := drossref31_All_l14 t (cs.map fun (k : Nat) => (k : Int)) (i : Int) (k : Int)) t.Attrs.length (fun (b : Nat) => minB t s k b) (fun (b : Nat) => (⟨s, k, b⟩ : Canonical))
        (fun j out hj ho => by
          simp only [drossref31_All_l14, if_pos (show (j : Int) < (t.Attrs.length : Int) by omega), idx_get hx, Option.bind_some, Minimal_eq t H hs64, room_le (show out.length + 1 ≤ 1073741824 by omega) (show 24 ≤ 65536 by omega), if_true, wrap_nat (show j < 4611686018427387904 by omega)]
          cases minB t s k j <;> rfl)
        (fun out => by simp [drossref31_All_l14]) (t.Attrs.length - (k + 1)) (k + 1) out (by omega) (by omega)
      have hstep : drossref31_All_l15 t (cs.map fun (k : Nat) => (k : Int)) (i : Int) (out, (k : Int)) = some (.next (out ++ refPairs t s k, ((k + 1 : Nat) : Int))) := by
        simp only [drossref31_All_l15, if_pos (show (k : Int) < (t.Attrs.length : Int) by omega), hw, e3, Option.bind_some]
        rfl
      have hrl := refPairs_len t s k
      rw [Loop_next hstep, ih (k + 1) _ (by omega) (by rw [List.length_append]; omega), List.range'_succ, List.flatMap_cons]
      simp
  have e4 := e2 t.Attrs.length 0 (out ++ constsB t s) (by omega) (by rw [List.length_append]; omega)
  rw [show ((0 : Nat) : Int) = 0 from rfl, ← List.range_eq_range', ← pairs_ref h0 hn hs] at e4
  simp only [drossref31_All_l16, if_pos (lt_true hx), e1, e4, Option.bind_some, wrap_nat (show i < 4611686018427387904 by omega)]
  unfold ctxB
  rw [List.append_assoc]
theorem ref_All_loop (t : Table) (H : TabOk t) (h0 : tableErr t = 0) (hn : t.Attrs.length ≤ 6) (cs : List Nat) (hcs : cs.length ≤ 1000) (hc : ∀ s ∈ cs, s < 2 ^ t.Attrs.length) : ∀ (r : List Nat) (i : Nat) (out : List Canonical), cs.drop i = r → i ≤ cs.length → out.length + r.length * 300 ≤ 900000 → LoopF (drossref31_All_l16 t (cs.map fun (k : Nat) => (k : Int))) (out, (i : Int)) = some (out ++ r.flatMap (ctxB t))
  | [], i, out, hd, hi, _ => by
    have : i = cs.length := by have := congrArg List.length hd; simp at this; omega
    subst this
    have : ((cs.map fun (k : Nat) => (k : Int)).length : Int) = (cs.length : Int) := by rw [List.length_map]
    rw [Loop_done (show drossref31_All_l16 t (cs.map fun (k : Nat) => (k : Int)) (out, (cs.length : Int)) = some (.done out) by simp only [drossref31_All_l16]; rw [if_neg (by omega)])]
    simp
  | s :: r, i, out, hd, hi, ho => by
    have hx : cs[i]? = some s := by
      have := congrArg (·[0]?) hd
      simpa [List.getElem?_drop] using this
    have hd' : cs.drop (i + 1) = r := by rw [← List.drop_drop, hd]; rfl
    rw [List.length_cons] at ho
    have hl : (ctxB t s).length ≤ 300 := by
      unfold ctxB
      rw [List.length_append]
      have := constsB_len t s
      have := pairsB_len t s (by omega)
      omega
    rw [Loop_next (ref_ctx t H h0 hn cs hcs i s hx (hc s (List.mem_of_getElem? hx)) out (by omega)), ref_All_loop t H h0 hn cs hcs hc r (i + 1) _ hd' (lt_of_get hx) (by rw [List.length_append]; omega), List.flatMap_cons]
    simp
theorem ref_All_eq (t : Table) (H : TabOk t) : drossref31_All t = some (if mineErr t = 0 then (allB t, 0) else ([], mineErr t)) := by
  simp only [drossref31_All, ref_Error31_eq t H, Option.bind_some]
  by_cases h : mineErr t = 0
  · obtain ⟨h1, h2, h3⟩ := mineErr_zero h
    have h64 := pow6 h2
    have hpos : 0 < 2 ^ t.Attrs.length := Nat.pow_pos (by omega)
    have hsub := ref_Subsets_eq (s := 2 ^ t.Attrs.length - 1) (by omega)
    rw [subsR_ord t.Attrs.length (by rw [List.mem_range]; omega)] at hsub
    have hol : (ordL t.Attrs.length).length ≤ 64 := by rw [(ordL_perm h2).length_eq, List.length_range]; exact h64
    have hl := ref_All_loop t H h1 h2 (ordL t.Attrs.length) (by omega) (fun s hs => (ordL_mem h2 s).1 hs) (ordL t.Attrs.length) 0 [] rfl (Nat.zero_le _) (by simp; omega)
    rw [show ((0 : Nat) : Int) = 0 from rfl] at hl
    rw [if_pos h]
    simp only [h, bne_self_eq_false, Bool.false_eq_true, if_false, Full_eq (show t.Attrs.length ≤ 16 by omega), hsub, hl, Option.bind_some]
    rfl
  · simp [h]
end Go.Proofs.YthgnkhchpjcboaaGreat
/- OdmineCheck answers true. -/
set_option linter.unusedVariables false
set_option linter.unusedSimpArgs false
namespace Go.Proofs.YthgnkhchpjcboaaGreat
open Go Go.Ab
theorem eqL_all {l m : List Canonical} (h : l.length = m.length) : (allFrom (fun i x => match m[i]? with | some y => ceq x y | none => false) 0 l = true) ↔ l = m := by
  rw [allFrom_iff31]
  constructor
  · intro hh
    apply List.ext_getElem h
    intro i h1 h2
    have := hh i l[i] (List.getElem?_eq_getElem h1)
    rw [Nat.zero_add, List.getElem?_eq_getElem h2] at this
    exact (ceq_iff _ _).1 this
  · rintro rfl i x hx
    rw [Nat.zero_add, hx]
    exact (ceq_iff x x).2 rfl
theorem Same_eq31 (l m : List Canonical) (hl : l.length ≤ 1073741824) : drossref17_Same l m = some (decide (l = m)) := by
  simp only [drossref17_Same]
  by_cases hlen : l.length = m.length
  · have h := LoopF_allk l (drossref17_Same_l1 l m) (fun i x => match m[i]? with | some y => ceq x y | none => false) false
      (fun k x hx hk hp => by
        have hk' : k < m.length := by omega
        have hy : m[k]? = some m[k] := List.getElem?_eq_getElem hk'
        rw [hy] at hp
        simp only [ceq] at hp
        simp only [drossref17_Same_l1, if_pos (lt_true hx), idx_get hx, idx_get hy, Option.bind_some, hp, if_true, wrap_succ hk (show l.length ≤ 4611686018427387904 by omega)])
      (fun k x hx hp => by
        have hk := lt_of_get hx
        have hk' : k < m.length := by omega
        have hy : m[k]? = some m[k] := List.getElem?_eq_getElem hk'
        rw [hy] at hp
        simp only [ceq] at hp
        simp only [drossref17_Same_l1, if_pos (lt_true hx), idx_get hx, idx_get hy, Option.bind_some, hp, Bool.false_eq_true, if_false])
      (by simp [drossref17_Same_l1]) l 0 rfl (Nat.zero_le _)
    rw [show ((0 : Nat) : Int) = 0 from rfl] at h
    rw [if_neg (by simp [hlen]), h]
    by_cases he : l = m
    · rw [if_pos ((eqL_all hlen).2 he)]; simp [he]
    · rw [if_neg (fun hc => he ((eqL_all hlen).1 hc))]; simp [he]
  · rw [if_pos (by simp; omega)]
    have : l ≠ m := fun e => hlen (by rw [e])
    simp [this]
end Go.Proofs.YthgnkhchpjcboaaGreat
/- OdmineAll answers true. -/
set_option linter.unusedVariables false
set_option linter.unusedSimpArgs false
namespace Go.Proofs.YthgnkhchpjcboaaGreat
open Go Go.Ab
theorem foldl_filt {α : Type} (p : α → Bool) : ∀ (l o : List α), l.foldl (fun o x => if p x = true then o ++ [x] else o) o = o ++ l.filter p
  | [], o => by simp
  | x :: l, o => by
    rw [List.foldl_cons, foldl_filt p l, List.filter_cons]
    by_cases h : p x = true
    · rw [if_pos h, if_pos h]; simp
    · rw [if_neg h, if_neg h]
theorem ref_const_loop (l : List Canonical) (e : Int) (hl : l.length ≤ 100000) : LoopF (drossref31_Constants_l1 (l, e)) ([], 0) = some (l.filter fun c => c.B == -1) := by
  have h := LoopF_foldl l (fun (o : List Canonical) i => (o, i)) (drossref31_Constants_l1 (l, e)) (fun o (c : Canonical) => if (c.B == -1) = true then o ++ [c] else o) id (fun k o => o.length ≤ k) (b0 := []) (s0 := ([], 0)) rfl (Nat.le_refl 0)
    (fun k o c hc hk hI => by
      refine ⟨?_, by split <;> first | (rw [List.length_append, List.length_singleton]; omega) | omega⟩
      simp only [drossref31_Constants_l1, if_pos (lt_true hc), idx_get hc, Option.bind_some, room_le (show o.length + 1 ≤ 1073741824 by omega) (show 24 ≤ 65536 by omega), if_true, wrap_nat (show k < 4611686018427387904 by omega)]
      cases c.B == -1 <;> rfl)
    (fun o _ => by simp [drossref31_Constants_l1])
  rw [h, foldl_filt]
  simp
theorem ref_Constants_eq (t : Table) (H : TabOk t) : drossref31_Constants t = some (if mineErr t = 0 then (constAll t, 0) else ([], mineErr t)) := by
  simp only [drossref31_Constants, ref_All_eq t H, Option.bind_some]
  by_cases h : mineErr t = 0
  · have hl := allB_len (mineErr_zero h).2.1
    rw [if_pos h, if_pos h]
    simp only [ref_const_loop (allB t) 0 hl, Option.bind_some]
    rfl
  · rw [if_neg h, if_neg h]
    simp only [ref_const_loop [] (mineErr t) (by simp), Option.bind_some]
    rfl
theorem OdmineAll_holds (t : Table) (ht : okTable t) : drosslaw31_OdmineAll t = some true := by
  have H := tabOk_of ht
  simp only [drosslaw31_OdmineAll, awake31, few31_eq, Option.bind_some, if_true]
  cases few31 t
  · simp
  · simp only [Bool.not_true, Bool.false_eq_true, if_false, All_eq t H, ref_All_eq t H, Constants_eq t H, ref_Constants_eq t H, Option.bind_some]
    by_cases h : mineErr t = 0
    · have hl := allB_len (mineErr_zero h).2.1
      have hcl : (constAll t).length ≤ 1073741824 := by
        unfold constAll
        have := List.length_filter_le (fun c : Canonical => c.B == -1) (allB t)
        omega
      simp only [if_pos h, beq_self_eq_true, if_true, Same_eq31 (allB t) (allB t) (by omega), Same_eq31 (constAll t) (constAll t) hcl, Option.bind_some, decide_true]
    · simp only [if_neg h, beq_self_eq_true, if_true, Same_eq31 [] [] (by simp), Option.bind_some, decide_true]
end Go.Proofs.YthgnkhchpjcboaaGreat
