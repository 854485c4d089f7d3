/- The Lean functions that the program's functions are lifted to, and the plain laws about them. -/
import Derived.Test.YthgnkhchpjcboaaGreatL1
/- The reference lists what the miner lists. -/
set_option linter.unusedVariables false
set_option linter.unusedSimpArgs false
namespace Go.Proofs.YthgnkhchpjcboaaGreat
open Go Go.Ab
theorem flat_if {α β : Type} (p : α → Bool) (f : α → β) : ∀ l : List α, (l.flatMap fun k => if p k then [f k] else []) = (l.filter p).map f
  | [] => rfl
  | k :: l => by
    rw [List.flatMap_cons, flat_if p f l, List.filter_cons]
    by_cases h : p k = true
    · rw [if_pos h, if_pos h]; rfl
    · rw [if_neg h, if_neg h]; rfl
/-- one comes before the other -/
def lexC (z w : Canonical) : Prop := z.A < w.A ∨ (z.A = w.A ∧ z.B < w.B)
theorem eq_of_lexC {l m : List Canonical} (hl : l.Pairwise lexC) (hm : m.Pairwise lexC) (h : ∀ z, z ∈ l ↔ z ∈ m) : l = m := by
  have nd : ∀ {l : List Canonical}, l.Pairwise lexC → l.Nodup := fun h => h.imp fun {a b} hab e => by subst e; unfold lexC at hab; omega
  exact ((List.perm_ext_iff_of_nodup (nd hl) (nd hm)).2 h).eq_of_pairwise (fun a b _ _ h1 h2 => by unfold lexC at h1 h2; omega) hl hm
theorem pairF_pair (t : Table) (s : Nat) (a : Int) : ∀ l : List Int, l.Pairwise (· < ·) → (l.flatMap (pairF t s a)).Pairwise lexC
  | [], _ => List.Pairwise.nil
  | b :: l, h => by
    rw [List.flatMap_cons, List.pairwise_append]
    obtain ⟨h1, h2⟩ := List.pairwise_cons.1 h
    refine ⟨by unfold pairF; split <;> simp, pairF_pair t s a l h2, fun x hx y hy => ?_⟩
    obtain ⟨c, hc, hy⟩ := List.mem_flatMap.1 hy
    have hbc := h1 c hc
    unfold pairF at hx hy
    split at hx
    · split at hy
      · rw [List.mem_singleton.1 hx, List.mem_singleton.1 hy]
        exact .inr ⟨rfl, hbc⟩
      · cases hy
    · cases hx
theorem pairsAt_A {t : Table} {s : Nat} {free : List Int} {i : Nat} (hi : i < free.length) {z : Canonical} (hz : z ∈ pairsAt t s free i) : z.A = free[i] := by
  unfold pairsAt at hz
  rw [List.getElem?_eq_getElem hi] at hz
  obtain ⟨b, _, hz⟩ := List.mem_flatMap.1 hz
  unfold pairF at hz
  split at hz
  · rw [List.mem_singleton.1 hz]
  · cases hz
theorem pairsB_lex (t : Table) (s : Nat) : (pairsB t s).Pairwise lexC := by
  have hasc := freeL_asc t s
  unfold pairsB
  rw [List.pairwise_flatMap]
  constructor
  · intro i hi
    rw [List.mem_range] at hi
    unfold pairsAt
    rw [List.getElem?_eq_getElem hi]
    exact pairF_pair t s _ _ (hasc.sublist (List.drop_sublist _ _))
  · refine (List.pairwise_lt_range (n := (freeL t s).length)).imp_of_mem ?_
    intro i j hi hj hij x hx y hy
    rw [List.mem_range] at hi hj
    left
    rw [pairsAt_A hi hx, pairsAt_A hj hy]
    exact List.pairwise_iff_getElem.1 hasc i j hi hj hij
/-- the reference's pairs -/
def refPairs (t : Table) (s : Nat) (a : Nat) : List Canonical := ((List.range' (a + 1) (t.Attrs.length - (a + 1))).filter fun (b : Nat) => minB t s a b).map fun (b : Nat) => (⟨s, a, b⟩ : Canonical)
theorem refPairs_lex (t : Table) (s : Nat) : ((List.range t.Attrs.length).flatMap (refPairs t s)).Pairwise lexC := by
  rw [List.pairwise_flatMap]
  constructor
  · intro a _
    unfold refPairs
    rw [List.pairwise_map]
    refine ((List.pairwise_lt_range').sublist List.filter_sublist).imp fun {x y} h => ?_
    refine Or.inr ⟨rfl, ?_⟩
    show (x : Int) < (y : Int)
    omega
  · refine (List.pairwise_lt_range (n := t.Attrs.length)).imp fun {a b} hab x hx y hy => ?_
    unfold refPairs at hx hy
    obtain ⟨_, _, rfl⟩ := List.mem_map.1 hx
    obtain ⟨_, _, rfl⟩ := List.mem_map.1 hy
    left
    show (a : Int) < (b : Int)
    omega
theorem consts_ref {t : Table} (h0 : tableErr t = 0) (hn : t.Attrs.length ≤ 6) {s : Nat} (hs : s < 2 ^ t.Attrs.length) : constsB t s = ((List.range t.Attrs.length).filter fun (a : Nat) => minB t s a (-1)).map fun (a : Nat) => (⟨s, a, -1⟩ : Canonical) := by
  unfold constsB
  have e : (List.range t.Attrs.length).flatMap (constF t s) = (List.range t.Attrs.length).flatMap fun (k : Nat) => if (!s.testBit k && leastB t s k (-1)) then [(⟨s, k, -1⟩ : Canonical)] else [] := rfl
  rw [e, flat_if]
  congr 1
  apply List.filter_congr
  intro a ha
  rw [List.mem_range] at ha
  have hst : StOk t s a (-1) := ⟨hs, by omega, by omega, by omega, by omega⟩
  rw [Bool.eq_iff_iff, Bool.and_eq_true, Bool.not_eq_true', least_iff h0 (by omega) hst, minB_iff h0 hn hst (fun hc => hc.1 rfl), Int.toNat_natCast]
  simp
theorem pairs_ref {t : Table} (h0 : tableErr t = 0) (hn : t.Attrs.length ≤ 6) {s : Nat} (hs : s < 2 ^ t.Attrs.length) : pairsB t s = (List.range t.Attrs.length).flatMap (refPairs t s) := by
  refine eq_of_lexC (pairsB_lex t s) (refPairs_lex t s) fun z => ?_
  rw [mem_pairsB, List.mem_flatMap]
  constructor
  · rintro ⟨a, b, ha, hb, hab, rfl, hl⟩
    obtain ⟨x, hx, rfl, x1, x2⟩ := (mem_freeL h0 (by omega) hs a).1 ha
    obtain ⟨y, hy, rfl, y1, y2⟩ := (mem_freeL h0 (by omega) hs b).1 hb
    have hst : StOk t s x y := ⟨hs, by omega, by omega, by omega, by omega⟩
    refine ⟨x, by rw [List.mem_range]; exact hx, List.mem_map.2 ⟨y, List.mem_filter.2 ⟨by rw [List.mem_range'_1]; omega, ?_⟩, rfl⟩⟩
    rw [minB_iff h0 hn hst (fun hc => by have := hc.2; omega), Int.toNat_natCast, Int.toNat_natCast]
    obtain ⟨l1, l2⟩ := (least_iff h0 (by omega) hst).1 hl
    exact ⟨x1, .inr ⟨y1, x2, y2⟩, l1, l2⟩
  · rintro ⟨x, hx, hz⟩
    rw [List.mem_range] at hx
    obtain ⟨y, hy, rfl⟩ := List.mem_map.1 hz
    obtain ⟨hy1, hy2⟩ := List.mem_filter.1 hy
    rw [List.mem_range'_1] at hy1
    have hst : StOk t s x y := ⟨hs, by omega, by omega, by omega, by omega⟩
    rw [minB_iff h0 hn hst (fun hc => by have := hc.2; omega), Int.toNat_natCast, Int.toNat_natCast] at hy2
    obtain ⟨q1, q2, q3, q4⟩ := hy2
    rcases q2 with q2 | ⟨p1, p2, p3⟩
    · omega
    · exact ⟨x, y, (mem_freeL h0 (by omega) hs _).2 ⟨x, hx, rfl, q1, p2⟩, (mem_freeL h0 (by omega) hs _).2 ⟨y, by omega, rfl, p1, p3⟩, by omega, rfl, (least_iff h0 (by omega) hst).2 ⟨q3, q4⟩⟩
/-! ### the loops -/
theorem up_loop {B : List Canonical × Int → Option (LS (List Canonical × Int) (List Canonical))} (n : Nat) (p : Nat → Bool) (f : Nat → Canonical)
    (hB : ∀ (k : Nat) out, k < n → out.length ≤ 1000000 → B (out, (k : Int)) = some (.next ((if p k then out ++ [f k] else out), ((k + 1 : Nat) : Int))))
    (hE : ∀ out, B (out, (n : Int)) = some (.done out)) : ∀ (r k : Nat) (out : List Canonical), k + r = n → out.length + r ≤ 1000000 → LoopF B (out, (k : Int)) = some (out ++ ((List.range' k r).filter p).map f)
  | 0, k, out, hk, _ => by
    have : k = n := by omega
    subst this
    rw [Loop_done (hE out)]; simp
  | r + 1, k, out, hk, ho => by
    have hol : (if p k = true then out ++ [f k] else out).length ≤ out.length + 1 := by split <;> simp
    rw [Loop_next (hB k out (by omega) (by omega)), up_loop n p f hB hE r (k + 1) _ (by omega) (by omega), List.range'_succ, List.filter_cons]
    by_cases h : p k = true
    · rw [if_pos h, if_pos h]; simp
    · rw [if_neg h, if_neg h]
theorem refPairs_len (t : Table) (s a : Nat) : (refPairs t s a).length ≤ t.Attrs.length := by
  unfold refPairs
  rw [List.length_map]
  have := List.length_filter_le (fun (b : Nat) => minB t s a b) (List.range' (a + 1) (t.Attrs.length - (a + 1)))
  rw [List.length_range'] at this
  omega
theorem ref_ctx (t : Table) (H : TabOk t) (h0 : tableErr t = 0) (hn : t.Attrs.length ≤ 6) (cs : List Nat) (hcs : cs.length ≤ 1000) (i s : Nat) (hi : cs[i]? = some s) (hs : s < 2 ^ t.Attrs.length) (out : List Canonical) (ho : out.length ≤ 900000) :
    drossref31_All_l16 t (cs.map fun (k : Nat) => (k : Int)) (out, (i : Int)) = some (.next (out ++ ctxB t s, ((i + 1 : Nat) : Int))) := by
  have h64 := pow6 hn
  have hs64 : s < 64 := Nat.lt_of_lt_of_le hs h64
  have hx : (cs.map fun (k : Nat) => (k : Int))[i]? = some (s : Int) := by rw [List.getElem?_map, hi]; rfl
  have hil := lt_of_get hi
  have e1 := up_loop (B := drossref31_All_l11 t (cs.map fun (k : Nat) => (k : Int)) (i : Int)) t.Attrs.length (fun (a : Nat) => minB t s a (-1)) (fun (a : Nat) => (⟨s, a, -1⟩ : Canonical))
    (fun k out hk ho => by
      simp only [drossref31_All_l11, if_pos (show (k : Int) < (t.Attrs.length : Int) by omega), idx_get hx, Option.bind_some, Minimal_eq t H hs64, room_le (show out.length + 1 ≤ 1073741824 by omega) (show 24 ≤ 65536 by omega), if_true, wrap_nat (show k < 4611686018427387904 by omega)]
      cases minB t s k (-1) <;> rfl)
    (fun out => by simp [drossref31_All_l11]) t.Attrs.length 0 out (by omega) (by omega)
  rw [show ((0 : Nat) : Int) = 0 from rfl, ← List.range_eq_range', ← consts_ref h0 hn hs] at e1
  have l1 := constsB_len t s
  have e2 : ∀ (r k : Nat) (out : List Canonical), k + r = t.Attrs.length → out.length + r * 10 ≤ 950000 → LoopF (drossref31_All_l15 t (cs.map fun (k : Nat) => (k : Int)) (i : Int)) (out, (k : Int)) = some (out ++ (List.range' k r).flatMap (refPairs t s)) := by
    intro r
    induction r with
    | zero =>
      intro k out hk ho
      have : k = t.Attrs.length := by omega
      subst this
      rw [Loop_done (show drossref31_All_l15 t (cs.map fun (k : Nat) => (k : Int)) (i : Int) (out, (t.Attrs.length : Int)) = some (.done out) by simp [drossref31_All_l15])]
      simp
    | succ r ih =>
      intro k out hk ho
      have hw := wrap_nat (show k < 4611686018427387904 by omega)
      have e3 := up_loop (B := drossref31_All_l14 t (cs.map fun (k : Nat) => (k : Int)) (i : Int) (k : Int)) t.Attrs.length (fun (b : Nat) => minB t s k b) (fun (b : Nat) => (⟨s, k, b⟩ : Canonical))
        (fun j out hj ho => by
          simp only [drossref31_All_l14, if_pos (show (j : Int) < (t.Attrs.length : Int) by omega), idx_get hx, Option.bind_some, Minimal_eq t H hs64, room_le (show out.length + 1 ≤ 1073741824 by omega) (show 24 ≤ 65536 by omega), if_true, wrap_nat (show j < 4611686018427387904 by omega)]
          cases minB t s k j <;> rfl)
        (fun out => by simp [drossref31_All_l14]) (t.Attrs.length - (k + 1)) (k + 1) out (by omega) (by omega)
      have hstep : drossref31_All_l15 t (cs.map fun (k : Nat) => (k : Int)) (i : Int) (out, (k : Int)) = some (.next (out ++ refPairs t s k, ((k + 1 : Nat) : Int))) := by
        simp only [drossref31_All_l15, if_pos (show (k : Int) < (t.Attrs.length : Int) by omega), hw, e3, Option.bind_some]
        rfl
      have hrl := refPairs_len t s k
      rw [Loop_next hstep, ih (k + 1) _ (by omega) (by rw [List.length_append]; omega), List.range'_succ, List.flatMap_cons]
      simp
  have e4 := e2 t.Attrs.length 0 (out ++ constsB t s) (by omega) (by rw [List.length_append]; omega)
  rw [show ((0 : Nat) : Int) = 0 from rfl, ← List.range_eq_range', ← pairs_ref h0 hn hs] at e4
  simp only [drossref31_All_l16, if_pos (lt_true hx), e1, e4, Option.bind_some, wrap_nat (show i < 4611686018427387904 by omega)]
  unfold ctxB
  rw [List.append_assoc]
theorem ref_All_loop (t : Table) (H : TabOk t) (h0 : tableErr t = 0) (hn : t.Attrs.length ≤ 6) (cs : List Nat) (hcs : cs.length ≤ 1000) (hc : ∀ s ∈ cs, s < 2 ^ t.Attrs.length) : ∀ (r : List Nat) (i : Nat) (out : List Canonical), cs.drop i = r → i ≤ cs.length → out.length + r.length * 300 ≤ 900000 → LoopF (drossref31_All_l16 t (cs.map fun (k : Nat) => (k : Int))) (out, (i : Int)) = some (out ++ r.flatMap (ctxB t))
  | [], i, out, hd, hi, _ => by
    have : i = cs.length := by have := congrArg List.length hd; simp at this; omega
    subst this
    have : ((cs.map fun (k : Nat) => (k : Int)).length : Int) = (cs.length : Int) := by rw [List.length_map]
    rw [Loop_done (show drossref31_All_l16 t (cs.map fun (k : Nat) => (k : Int)) (out, (cs.length : Int)) = some (.done out) by simp only [drossref31_All_l16]; rw [if_neg (by omega)])]
    simp
  | s :: r, i, out, hd, hi, ho => by
    have hx : cs[i]? = some s := by
      have := congrArg (·[0]?) hd
      simpa [List.getElem?_drop] using this
    have hd' : cs.drop (i + 1) = r := by rw [← List.drop_drop, hd]; rfl
    rw [List.length_cons] at ho
    have hl : (ctxB t s).length ≤ 300 := by
      unfold ctxB
      rw [List.length_append]
      have := constsB_len t s
      have := pairsB_len t s (by omega)
      omega
    rw [Loop_next (ref_ctx t H h0 hn cs hcs i s hx (hc s (List.mem_of_getElem? hx)) out (by omega)), ref_All_loop t H h0 hn cs hcs hc r (i + 1) _ hd' (lt_of_get hx) (by rw [List.length_append]; omega), List.flatMap_cons]
    simp
theorem ref_All_eq (t : Table) (H : TabOk t) : drossref31_All t = some (if mineErr t = 0 then (allB t, 0) else ([], mineErr t)) := by
  simp only [drossref31_All, ref_Error31_eq t H, Option.bind_some]
  by_cases h : mineErr t = 0
  · obtain ⟨h1, h2, h3⟩ := mineErr_zero h
    have h64 := pow6 h2
    have hpos : 0 < 2 ^ t.Attrs.length := Nat.pow_pos (by omega)
    have hsub := ref_Subsets_eq (s := 2 ^ t.Attrs.length - 1) (by omega)
    rw [subsR_ord t.Attrs.length (by rw [List.mem_range]; omega)] at hsub
    have hol : (ordL t.Attrs.length).length ≤ 64 := by rw [(ordL_perm h2).length_eq, List.length_range]; exact h64
    have hl := ref_All_loop t H h1 h2 (ordL t.Attrs.length) (by omega) (fun s hs => (ordL_mem h2 s).1 hs) (ordL t.Attrs.length) 0 [] rfl (Nat.zero_le _) (by simp; omega)
    rw [show ((0 : Nat) : Int) = 0 from rfl] at hl
    rw [if_pos h]
    simp only [h, bne_self_eq_false, Bool.false_eq_true, if_false, Full_eq (show t.Attrs.length ≤ 16 by omega), hsub, hl, Option.bind_some]
    rfl
  · simp [h]
end Go.Proofs.YthgnkhchpjcboaaGreat
/- OdmineCheck answers true. -/
set_option linter.unusedVariables false
set_option linter.unusedSimpArgs false
namespace Go.Proofs.YthgnkhchpjcboaaGreat
open Go Go.Ab
theorem eqL_all {l m : List Canonical} (h : l.length = m.length) : (allFrom (fun i x => match m[i]? with | some y => ceq x y | none => false) 0 l = true) ↔ l = m := by
  rw [allFrom_iff31]
  constructor
  · intro hh
    apply List.ext_getElem h
    intro i h1 h2
    have := hh i l[i] (List.getElem?_eq_getElem h1)
    rw [Nat.zero_add, List.getElem?_eq_getElem h2] at this
    exact (ceq_iff _ _).1 this
  · rintro rfl i x hx
    rw [Nat.zero_add, hx]
    exact (ceq_iff x x).2 rfl
theorem Equal_Canonical_eq31 (l m : List Canonical) (hl : l.length ≤ 1073741824) : slices_Equal_Canonical l m = some (decide (l = m)) := by
  simp only [slices_Equal_Canonical]
  by_cases hlen : l.length = m.length
  · have h := LoopF_allk l (slices_Equal_Canonical_l1 l m) (fun i x => match m[i]? with | some y => ceq x y | none => false) false
      (fun k x hx hk hp => by
        have hk' : k < m.length := by omega
        have hy : m[k]? = some m[k] := List.getElem?_eq_getElem hk'
        rw [hy] at hp
        simp only [ceq] at hp
        simp only [slices_Equal_Canonical_l1, if_pos (lt_true hx), idx_get hx, idx_get hy, Option.bind_some, hp, if_true, wrap_succ hk (show l.length ≤ 4611686018427387904 by omega)])
      (fun k x hx hp => by
        have hk := lt_of_get hx
        have hk' : k < m.length := by omega
        have hy : m[k]? = some m[k] := List.getElem?_eq_getElem hk'
        rw [hy] at hp
        simp only [ceq] at hp
        simp only [slices_Equal_Canonical_l1, if_pos (lt_true hx), idx_get hx, idx_get hy, Option.bind_some, hp, Bool.false_eq_true, if_false])
      (by simp [slices_Equal_Canonical_l1]) l 0 rfl (Nat.zero_le _)
    rw [show ((0 : Nat) : Int) = 0 from rfl] at h
    rw [if_neg (by simp [hlen]), h]
    by_cases he : l = m
    · rw [if_pos ((eqL_all hlen).2 he)]; simp [he]
    · rw [if_neg (fun hc => he ((eqL_all hlen).1 hc))]; simp [he]
  · rw [if_pos (by simp; omega)]
    have : l ≠ m := fun e => hlen (by rw [e])
    simp [this]
theorem Same_eq31 (l m : List Canonical) (hl : l.length ≤ 1073741824) : drossref17_Same l m = some (decide (l = m)) := by
  simp only [drossref17_Same]
  by_cases hlen : l.length = m.length
  · have h := LoopF_allk l (drossref17_Same_l1 l m) (fun i x => match m[i]? with | some y => ceq x y | none => false) false
      (fun k x hx hk hp => by
        have hk' : k < m.length := by omega
        have hy : m[k]? = some m[k] := List.getElem?_eq_getElem hk'
        rw [hy] at hp
        simp only [ceq] at hp
        simp only [drossref17_Same_l1, if_pos (lt_true hx), idx_get hx, idx_get hy, Option.bind_some, hp, if_true, wrap_succ hk (show l.length ≤ 4611686018427387904 by omega)])
      (fun k x hx hp => by
        have hk := lt_of_get hx
        have hk' : k < m.length := by omega
        have hy : m[k]? = some m[k] := List.getElem?_eq_getElem hk'
        rw [hy] at hp
        simp only [ceq] at hp
        simp only [drossref17_Same_l1, if_pos (lt_true hx), idx_get hx, idx_get hy, Option.bind_some, hp, Bool.false_eq_true, if_false])
      (by simp [drossref17_Same_l1]) l 0 rfl (Nat.zero_le _)
    rw [show ((0 : Nat) : Int) = 0 from rfl] at h
    rw [if_neg (by simp [hlen]), h]
    by_cases he : l = m
    · rw [if_pos ((eqL_all hlen).2 he)]; simp [he]
    · rw [if_neg (fun hc => he ((eqL_all hlen).1 hc))]; simp [he]
  · rw [if_pos (by simp; omega)]
    have : l ≠ m := fun e => hlen (by rw [e])
    simp [this]
theorem Check31_eq (t : Table) (H : TabOk t) (l : List Canonical) : odmine_Check t l = some (if mineErr t = 0 then (decide (allB t = l), 0) else (false, mineErr t)) := by
  simp only [odmine_Check, All_eq t H, Option.bind_some]
  by_cases h : mineErr t = 0
  · have hl := allB_len (mineErr_zero h).2.1
    rw [if_pos h, if_pos h]
    simp only [beq_self_eq_true, if_true, Equal_Canonical_eq31 (allB t) l (by omega), Option.bind_some]
  · rw [if_neg h, if_neg h]
    simp [h]
theorem OdmineCheck_holds (t : Table) (l : List Canonical) (ht : okTable t) (hl : okL okCanonical l) : drosslaw31_OdmineCheck t l = some true := by
  have H := tabOk_of ht
  simp only [drosslaw31_OdmineCheck, awake31, few31_eq, Option.bind_some, if_true]
  cases few31 t
  · simp
  · simp only [if_true]
    by_cases q1 : (l.length : Int) > 40
    · simp [q1]
    · simp only [decide_eq_false q1, Bool.false_eq_true, if_false, Option.bind_some, ref_All_eq t H, Check31_eq t H, slices_Clone_Canonical]
      rw [if_pos (room_le (by omega) (by omega))]
      simp only [Option.bind_some, Check31_eq t H]
      by_cases h : mineErr t = 0
      · simp only [if_pos h, beq_self_eq_true, if_true, decide_true, Same_eq31 l (allB t) (by omega), Option.bind_some]
        by_cases he : allB t = l
        · simp [he]
        · have he' : ¬ l = allB t := fun e => he e.symm
          simp [he, he']
      · simp only [if_neg h, beq_self_eq_true, if_true]
        simp [h]
end Go.Proofs.YthgnkhchpjcboaaGreat
