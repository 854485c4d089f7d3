/- An abstract logic for calls that only compute: what each operation does to values that are trees, and rules for walking a text. -/
import Derived.Laws.IdiomCopy
import Derived.KernelRfl
import Derived.OrdersHeld
import Derived.Test.YtlaodgbkpmdhoaaGreatDoorA2
namespace Go.Ab
variable {D : Prop}
open Go
set_option linter.unusedVariables false
set_option linter.unusedSimpArgs false
def bytesA (bs : List UInt8) : List AV := bs.map fun c => .p (.int .u8 ((c.toNat : Nat) : Int))
variable {C : Cx} {Q : Exit → St → Prop} {st : St}
end Go.Ab
namespace Go.Ab
variable {D : Prop}
open Go
set_option linter.unusedVariables false
set_option linter.unusedSimpArgs false
variable {C : Cx} {Q : Exit → St → Prop} {st : St}
@[go_sem] theorem bytesA_nil : bytesA [] = [] := rfl
theorem tab_eval {C : Cx} {st : St} {inj : Inj} {a : Act} {w : World} (hs : SR C st inj a w) {g : Nat} (hg : C.P.globalNamed "math/bits.deBruijn32tab" = some g) : RowAt (fun b => C.X b ∨ F inj st.sig b) w g 0 (tabNs.map (Value.int .u8)) := tab_ev hs.ev g hg
theorem AL_tab {ops : Array Oper} {o : Oper} {rest : List Oper} {t te g : Nat} {x : Operand} {k : IntKind} {i : Nat} (hgn : C.P.globalNamed "math/bits.deBruijn32tab" = some g) (ho : o.op = .indexAddr t (.global g) x) (hg : guardA ops st.env o = some true) (hd : dstOk C.N o = true)
    (hu : C.P.underlying t = some (.array 32 te)) (hte : tyOk C.P te = true) (hc : C.P.cellsOf te = 1) (hx : ev st.env x = .p (.int k (i : Int))) (hi : i < 32)
    (h : AL C ops rest Q ⟨putE st.env o.dst (.p (.imm [.int .u8 (tabNs.getD i 0)])), st.heap⟩) : AL C ops (o :: rest) Q st := by
  intro inj a w hs
  simp only [wpList, guard_sound hs hg, if_true]
  refine .inl ?_
  have hr := tab_eval hs hgn
  have he := hs.eval x
  rw [hx] at he
  simp only [AR, PR] at he
  have hsz := run_sizeOf_ok hte w
  rw [hc] at hsz
  have hrun : (Instr.indexAt t (.pointer (some ⟨g, 0, none⟩)) (a.eval x)).run C.P w = .ok (.pointer (some ⟨g, i, none⟩)) w := by
    rw [he]
    have h1 : ((i : Int) < 32) := by omega
    simp [Instr.indexAt, asIntOf, run_underlying hu, Instr.sureAddr, hi, h1, hsz, Addr.add_lit]
  have hlen : i < tabNs.length := by simpa [tabNs] using hi
  have hcell : PR (fun b => C.X b ∨ F inj st.sig b) w (.imm [.int .u8 (tabNs.getD i 0)]) (.pointer (some ⟨g, i, none⟩)) := by
    refine ⟨g, i, [.int .u8 (tabNs.getD i 0)], rfl, ⟨_, _, rfl, rfl, rfl⟩, by intro u hu; have : u = .int .u8 (tabNs.getD i 0) := by simpa using hu
                                                                              subst this; rfl, hr.1, hr.2.1, ?_⟩
    intro j u hj
    cases j with
    | zero =>
      simp only [List.getElem?_cons_zero, Option.some.injEq] at hj
      subst hj
      have := hr.2.2 i (.int .u8 (tabNs.getD i 0)) (by rw [List.getElem?_map, List.getD_eq_getElem?_getD, List.getElem?_eq_getElem hlen]; rfl)
      simpa using this
    | succ j => simp at hj
  obtain ⟨dst, op, ty, pos, af, gd⟩ := o
  simp only at ho
  subst ho
  refine wp_val (s := Instr.indexAt t (a.eval (.global g)) (a.eval x)) rfl hrun ?_
  · exact h inj _ _ (hs.put (u := none) hd hs.hr (Ev.refl _ _ _ _) hcell)
theorem zTab {ops : Array Oper} {o : Oper} {rest : List Oper} {t te g : Nat} {x : Operand} {k : IntKind} (i : Nat) (hgn : C.P.globalNamed "math/bits.deBruijn32tab" = some g) (hu : C.P.underlying t = some (.array 32 te)) (hi : i < 32) (hx : ev st.env x = .p (.int k (i : Int)))
  (h : AL C ops rest Q ⟨putE st.env o.dst (.p (.imm [.int .u8 (tabNs.getD i 0)])), st.heap⟩) (hte : tyOk C.P te = true := by kernel_rfl) (hc : C.P.cellsOf te = 1 := by kernel_rfl)
  (ho : o.op = .indexAddr t (.global g) x := by rfl) (hg : guardA ops st.env o = some true := by exact guard_none rfl) (hd : dstOk C.N o = true := by rfl) : AL C ops (o :: rest) Q st := AL_tab hgn ho hg hd hu hte hc hx hi h
def tzI (n : Nat) : Nat := (n &&& (4294967296 - n)) * 125613361 % 4294967296 / 134217728
def tz32 (n : Nat) : Int := if n = 0 then 32 else tabNs.getD (tzI n) 0
theorem tzI_lt (n : Nat) : tzI n < 32 := by unfold tzI; omega
theorem wrapU (n : Nat) : IntKind.u32.wrap (n : Int) = ((n % 4294967296 : Nat) : Int) := by
 simp only [IntKind.wrap, IntKind.signed, IntKind.bits]
 simp only [Bool.false_and, Bool.false_eq_true, if_false]
 rw [show ((2 : Int) ^ 32) = 4294967296 from rfl]
 omega
theorem tz_idx {n : Nat} (h0 : n ≠ 0) (h : n < 4294967296) : Int.fdiv (IntKind.u32.wrap ((IntKind.u32.wrap ((BitVec.ofInt 32 (n : Int) &&& BitVec.ofInt 32 (IntKind.u32.wrap (0 - (n : Int)))).toNat : Int)) * 125613361)) (2 ^ (min 27 32)) = ((tzI n : Nat) : Int) := by
 have e1 : IntKind.u32.wrap (0 - (n : Int)) = ((4294967296 - n : Nat) : Int) := by
  simp only [IntKind.wrap, IntKind.signed, IntKind.bits]
  simp only [Bool.false_and, Bool.false_eq_true, if_false]
  rw [show ((2 : Int) ^ 32) = 4294967296 from rfl]
  omega
 rw [e1, bv_lt, BitVec.toNat_and, bv_nat h, bv_nat (a := 4294967296 - n) (by omega)]
 have e2 : ((n &&& (4294967296 - n) : Nat) : Int) * 125613361 = (((n &&& (4294967296 - n)) * 125613361 : Nat) : Int) := by simp
 rw [e2, wrapU]
 unfold tzI
 exact fdiv24 _ 27 (by omega)
theorem tab_le : ∀ i, i < 32 → 0 ≤ tabNs.getD i 0 ∧ tabNs.getD i 0 < 32 := by decide
theorem wrap_i64t {n : Nat} : IntKind.i64.wrap (tabNs.getD (tzI n) 0) = tabNs.getD (tzI n) 0 := by
 have h := tab_le (tzI n) (tzI_lt n)
 exact wrap_i64 (by omega) (by omega)
end Go.Ab
namespace Go.Ab
variable {D : Prop}
open Go
set_option linter.unusedVariables false
set_option linter.unusedSimpArgs false
variable {X : Nat → Prop} {inj : Inj} {σ : Nat → AO} {w : World} {P : Program}
theorem cells_sound (h : HR X inj σ w) {l g i off e sz b c : Nat} {es : List AV} {x y v : AV} {uv : Value} (ho : σ l = .arr e sz g es) (a4 : inj l = some (b, c)) (hx : es[i]? = some x) (hp : storePart x off v = some y) (hv : AR X inj σ w v uv) :
  ∃ w', (storeCells ⟨b, i * sz + off, none⟩ uv.cells.toList).run P w = .ok () w' ∧ HR X inj (upd σ (some (l, .arr e sz g (es.set i y)))) w' ∧ Ev D X inj σ w inj (upd σ (some (l, .arr e sz g (es.set i y)))) w' := by
 obtain ⟨vs, o1, o2, o3, o4⟩ := (ho ▸ h.obj l _ rfl : OR X inj σ w l (.arr e sz g es))
 obtain ⟨u, hu, hau⟩ := o1.get hx
 have hum : u ∈ vs := List.mem_of_getElem? hu
 have hone : oneAll u.cells.toList := fun c hc => o3 c (List.mem_flatMap.2 ⟨u, hum, hc⟩)
 obtain ⟨s1, s2, s3, u', s4, s5, s6⟩ := storePart_sound hau hv (o2 u hum) hone hp
 rcases o4 with ⟨o4, _⟩ | ⟨b', c', cur, p1, p2, p3, p4, p5, p6, p7⟩
 ·rw [a4] at o4; cases o4
 rw [a4] at p1; cases p1
 have hi : i < vs.length := (List.getElem?_eq_some_iff.1 hu).1
 have hel : es.length = vs.length := o1.length
 have hmul : (i + 1) * sz ≤ vs.length * sz := Nat.mul_le_mul_right _ hi
 have hmul2 : es.length * sz ≤ c * sz := Nat.mul_le_mul_right _ p4
 rw [hel] at hmul2
 rw [Nat.add_mul, Nat.one_mul] at hmul
 have hvl : uv.cells.toList.length = v.cells.length := by rw [Array.length_toList, s3]
 have hst := run_storeCells_at P b (i * sz + off) e uv.cells.toList 0 cur w p3 (by rw [hvl, p6]; omega) s2
 simp only [Nat.add_zero] at hst
 have hct : cur.toList.length = c * sz := by rw [Array.length_toList, p6]
 have hcurlen : i * sz + off + uv.cells.toList.length ≤ cur.toList.length := by rw [hvl, hct]; omega
 have hup := h.update (D := D) (w' := w.setRow b (splice cur.toList (i * sz + off) uv.cells.toList).toArray) (l := l) (o := .arr e sz g es) (o' := .arr e sz g (es.set i y)) (x := inj l) ho rfl rfl rfl (fun _ => Nat.le_refl _) (by simp)
  (fun a _ => frozen_setRow w b _ a) (fun k hk hne => setRow_other w b k _ (fun e => hne rfl c (by rw [e]; exact a4)))
  (fun b1 c1 h1 => .inr ⟨rfl, c1, h1⟩) ⟨Nat.le_refl _, fun _ _ => ⟨rfl, .inl ⟨e, sz, es, _, rfl, rfl, by simp⟩⟩⟩
 rw [inj_same] at hup
 obtain ⟨hev, hhr⟩ := hup
 refine ⟨_, hst, hhr ?_, hev⟩
 refine ⟨vs.set i u', (ARs.ev hev h.xlt es vs o1).set (AR.ev hev h.xlt y u' s4), ?_, ?_, .inr ⟨b, c, _, a4, p2, setRow_heap w b cur _ e _ p3, by simpa using p4, p5, ?_, ?_⟩⟩
 ·intro q hq
  rcases List.mem_or_eq_of_mem_set hq with h1 | h1
  ·exact o2 q h1
  ·rw [h1, ← Array.length_toList, s5, length_splice _ _ _ (by rw [hvl, show u.cells.toList.length = sz by rw [Array.length_toList, o2 u hum]]; exact s1), Array.length_toList, o2 u hum]
 ·intro q hq
  obtain ⟨z, hz, hq⟩ := List.mem_flatMap.1 hq
  rcases List.mem_or_eq_of_mem_set hz with h1 | h1
  ·exact o3 q (List.mem_flatMap.2 ⟨z, h1, hq⟩)
  ·rw [h1] at hq; exact s6 q hq
 ·rw [List.size_toArray, length_splice _ _ _ hcurlen, hct]
 ·rw [flat_set o2 hu s5 (by rw [hvl]; exact s1), ← p7, List.length_set]
  apply List.ext_getElem?
  intro k
  have hA : i * sz + off + uv.cells.toList.length ≤ (cur.toList.take (es.length * sz)).length := by
   rw [List.length_take, hct, hel, hvl]; omega
  rw [List.getElem?_take, get_splice _ _ _ hcurlen, get_splice _ _ _ hA, List.getElem?_take]
  by_cases hk : k < es.length * sz
  ·simp only [hk, if_true]
  ·simp only [hk, if_false]
   rw [if_neg (by rw [hel] at hk; omega), if_neg (by rw [hel] at hk; rw [hvl]; omega)]
theorem upd_self {l : Nat} {o : AO} (h : σ l = o) : upd σ (some (l, o)) = σ := by
 funext k
 simp only [upd, supd]
 by_cases hk : k = l
 ·subst hk; simp [h]
 ·simp [hk]
theorem builtin_copy (at_ : Array TypeId) (ty : TypeId) (cs : Array Bool) (args : Array Value) : builtin .copy at_ ty cs args = (do pure (Next.value (← Builtin.copy_ at_ ty args))) := rfl
def int3 (a b c : Int) : AV := .p (.agg [.int .i64 a, .int .i64 b, .int .i64 c])
theorem copy_part (c0 c1 c2 : Int) (L : List Int) (h : L ≠ []) : storePart (int3 c0 c1 c2) 0 (.p (.agg ((L.take 3).map (PV.int .i64)))) = some (int3 (L.getD 0 c0) (L.getD 1 c1) (L.getD 2 c2)) := by
 cases L with
 | nil => exact absurd rfl h
 | cons a L =>
  cases L with
  | nil => rfl
  | cons b L =>
   cases L with
   | nil => rfl
   | cons c L =>
    have e : (a :: b :: c :: L).take 3 = [a, b, c] := rfl
    rw [e]; rfl
theorem AR_ints (L : List Int) (X : Nat → Prop) (inj : Inj) (σ : Nat → AO) (w : World) : AR X inj σ w (.p (.agg (L.map (PV.int .i64)))) (.agg (L.map (Value.int .i64)).toArray) := by
 simp only [AR, PR]
 refine ⟨L.map (Value.int .i64), rfl, ?_, ?_⟩
 ·induction L with
  | nil => simp [PRs]
  | cons a L ih => exact ⟨_, _, rfl, rfl, ih⟩
 ·intro u hu
  obtain ⟨a, _, rfl⟩ := List.mem_map.1 hu
  rfl
theorem put_same {a : Act} {d : Nat} {v : Value} (h : d < a.tmps.size) : (a.put (some d) v).eval (.tmp d) = v := by
 simp [Act.eval, Act.put, h]
theorem put_other {a : Act} {d t : Nat} {v : Value} (h : t ≠ d) : (a.put (some d) v).eval (.tmp t) = a.eval (.tmp t) := by
 simp [Act.eval, Act.put, Array.getElem?_setIfInBounds_ne (Ne.symm h)]
variable {C : Cx} {Q : Exit → St → Prop} {st : St}
theorem AL_cpa {ops : Array Oper} {o1 o2 o3 : Oper} {rest : List Oper} {tA te dT sT : TypeId} {x y : Operand} {d1 d2 l g : Nat} {c0 c1 c2 : Int} {L : List Int}
  (h1 : o1.op = .slice tA x none none none) (hd1 : o1.dst = some d1) (h2 : o2.op = .move y) (hd2 : o2.dst = some d2) (h3 : o3.op = .call ⟨.builtin .copy, #[.tmp d1, .tmp d2], #[dT, sT]⟩)
  (g1 : o1.guard = none) (g2 : o2.guard = none) (g3 : o3.guard = none) (n1 : dstOk C.N o1 = true) (n2 : dstOk C.N o2 = true) (n3 : dstOk C.N o3 = true) (hne : d1 ≠ d2)
  (hu : C.P.underlying tA = some (.array 3 te)) (hte : tyOk C.P te = true) (hc : C.P.cellsOf te = 1) (hdT : C.P.underlying dT = some (.slice te)) (hy : y ≠ .tmp d1)
  (hx : ev st.env x = .loc l g 0 0) (ho : hget st.heap l = .arr tA 3 g [int3 c0 c1 c2]) (hyv : ev st.env y = .p (.slc (L.map (PV.int .i64))))
  (h : AL C ops rest Q ⟨putE (putE (putE st.env o1.dst .any) o2.dst (.p (.slc (L.map (PV.int .i64))))) o3.dst .any, hset st.heap l (.arr tA 3 g [int3 (L.getD 0 c0) (L.getD 1 c1) (L.getD 2 c2)])⟩) : AL C ops (o1 :: o2 :: o3 :: rest) Q st := by
 intro inj a w hs
 have hg : ∀ (o : Oper) (st' : St), o.guard = none → guardA ops st'.env o = some true := fun o st' e => by unfold guardA; rw [e]
 have hloc := hs.eval x
 rw [hx] at hloc
 obtain ⟨_, a2⟩ := hloc
 have hσ : st.sig l = .arr tA 3 g [int3 c0 c1 c2] := ho
 obtain ⟨_, a3⟩ := a2 _ hσ
 obtain ⟨b, c, a4, hptr⟩ := a3 rfl tA 3 _ rfl
 simp only [Nat.zero_mul, Nat.zero_add] at hptr
 -- the slice
 have r1 : (Instr.sliceAt tA (a.eval x) none none none).run C.P w = .ok (.slice (some ⟨b, 0, none⟩) 3 3) w := by
  rw [hptr]
  simp [Instr.sliceAt, run_underlying hu, Instr.sureAddr, Instr.sliceBounds, run_sizeOf_ok hte w, Addr.add_lit]
 simp only [wpList, guard_sound hs (hg o1 st g1), if_true]
 refine .inl ?_
 obtain ⟨dst1, op1, ty1, pos1, af1, gd1⟩ := o1
 simp only at h1 hd1
 subst h1 hd1
 refine wp_val (s := Instr.sliceAt tA (a.eval x) none none none) rfl r1 ?_
 have hs1 := hs.put (o := ⟨some d1, .slice tA x none none none, ty1, pos1, af1, gd1⟩) (v := .any) (val := .slice (some ⟨b, 0, none⟩) 3 3) (u := none) n1 hs.hr (Ev.refl _ _ _ _) trivial
 simp only [putH] at hs1
 -- the source
 have hd1N : d1 < C.N := by simpa [dstOk] using n1
 have e1 : ∀ t, t ≠ d1 → (a.put (some d1) (.slice (some ⟨b, 0, none⟩) 3 3)).tmps.getD t undef = a.tmps.getD t undef := fun t ht => by
  simp [Act.put, Array.getElem?_setIfInBounds_ne (Ne.symm ht)]
 have hy1 : ev (putE st.env (some d1) .any) y = .p (.slc (L.map (PV.int .i64))) := by
  cases y with
  | tmp t =>
   have ht : t ≠ d1 := fun e => hy (by rw [e])
   simp only [ev, putE, Env.get]
   rw [if_neg (Ne.symm ht)]
   exact hyv
  | const v => exact hyv
  | global g => exact hyv
  | func f => exact hyv
 simp only [wpList, guard_sound hs1 (hg o2 _ g2), if_true]
 refine .inl ?_
 obtain ⟨dst2, op2, ty2, pos2, af2, gd2⟩ := o2
 simp only at h2 hd2
 subst h2 hd2
 have hsrc := hs1.eval y
 simp only at hsrc
 rw [hy1] at hsrc
 refine wp_val (s := pure ((a.put (some d1) (.slice (some ⟨b, 0, none⟩) 3 3)).eval y)) (by simp [execOp]) (Sem.run_pure _ _ _) ?_
 have hs2 := hs1.put (o := ⟨some d2, .move y, ty2, pos2, af2, gd2⟩) (v := .p (.slc (L.map (PV.int .i64)))) (u := none) n2 hs1.hr (Ev.refl _ _ _ _) hsrc
 simp only [putH] at hs2
 simp only [AR, PR] at hsrc
 obtain ⟨sa, cap, vs, hva, hcap, hvs, hsl⟩ := hsrc
 have hvs' := PRs_ints hvs
 subst hvs'
 rw [List.length_map] at hva hcap
 generalize hV : (a.put (some d1) (.slice (some ⟨b, 0, none⟩) 3 3)).eval y = vy at *
 subst hva
 -- the copy
 simp only [wpList, guard_sound hs2 (hg o3 _ g3), if_true]
 refine .inl ?_
 obtain ⟨dst3, op3, ty3, pos3, af3, gd3⟩ := o3
 simp only at h3
 subst h3
 have hd2N : d2 < C.N := by simpa [dstOk] using n2
 have v1 : ((a.put (some d1) (.slice (some ⟨b, 0, none⟩) 3 3)).put (some d2) (.slice sa L.length cap)).eval (.tmp d1) = .slice (some ⟨b, 0, none⟩) 3 3 := by
  rw [put_other hne]
  exact put_same (by rw [hs.size]; exact hd1N)
 have v2 : ((a.put (some d1) (.slice (some ⟨b, 0, none⟩) 3 3)).put (some d2) (.slice sa L.length cap)).eval (.tmp d2) = .slice sa L.length cap := put_same (by rw [hs1.size]; exact hd2N)
 have key : ∃ (rv : Value) (w' : World), (Builtin.copy_ #[dT, sT] ty3 #[.slice (some ⟨b, 0, none⟩) 3 3, .slice sa L.length cap]).run C.P w = .ok rv w' ∧ HR C.X inj (upd st.sig (some (l, .arr tA 3 g [int3 (L.getD 0 c0) (L.getD 1 c1) (L.getD 2 c2)]))) w' ∧ Ev C.D C.X inj st.sig w inj (upd st.sig (some (l, .arr tA 3 g [int3 (L.getD 0 c0) (L.getD 1 c1) (L.getD 2 c2)]))) w' := by
  obtain ⟨inf, hinf⟩ := Option.isSome_iff_exists.1 hte
  have hsize : inf.size = 1 := by
   unfold Program.cellsOf at hc; rw [hinf] at hc; simpa using hc
  have hinfs : (C.P.info? te).map (·.size) = some 1 := by rw [hinf]; simp [hsize]
  by_cases hL : L = []
  ·subst hL
   refine ⟨goInt 0, w, ?_, ?_, ?_⟩
   ·exact run_copy_none w dT sT ty3 te _ _ _ _ _ _ hdT hinfs rfl
   ·have := upd_self hσ
    simp only [List.getD_nil] at this ⊢
    rw [this]; exact hs.hr
   ·have := upd_self hσ
    simp only [List.getD_nil] at this ⊢
    rw [this]; exact Ev.refl _ _ _ _
  ·obtain ⟨w', q1, q2, q3⟩ := cells_sound (D := C.D) (P := C.P) hs.hr hσ a4 (i := 0) (off := 0) (x := int3 c0 c1 c2) rfl (copy_part c0 c1 c2 L hL) (AR_ints (L.take 3) _ _ _ _)
   simp only [Nat.zero_mul, Nat.zero_add, List.set_cons_zero] at q1 q2 q3
   refine ⟨goInt (Nat.min L.length 3), w', ?_, q2, q3⟩
   rcases hsl with hsl | ⟨sb, so, sz, rfl, hcs, hone, hrow⟩
   ·exact absurd (by simpa using hsl) hL
   ·have hflat : flat (L.map (Value.int .i64)) = L.map (Value.int .i64) := by
     unfold flat
     rw [List.flatMap_map]
     have : ∀ l : List Int, (l.flatMap fun n => (Value.int .i64 n).cells.toList) = l.map (Value.int .i64) := by
      intro l
      induction l with
      | nil => rfl
      | cons n l ih => rw [List.flatMap_cons, ih]; rfl
     exact this L
    rw [hflat] at hrow
    have hcl : ((L.take 3).map (Value.int .i64)).length = Nat.min L.length 3 := by rw [List.length_map, List.length_take]; exact Nat.min_comm _ _
    have hload := run_loadCells_list (P := C.P) w ⟨sb, so, none⟩ ((L.take 3).map (Value.int .i64)) (fun j v hv => by
     rw [List.map_take, List.getElem?_take] at hv
     split at hv
     ·have := hrow.2.2 j v hv
      simpa [Addr.add_lit] using this
     ·cases hv)
    rw [hcl] at hload
    have hq1 : (storeCells ⟨b, 0, none⟩ (List.take 3 (L.map (Value.int .i64)))).run C.P w = .ok () w' := by
     rw [← List.map_take]
     exact q1
    simp [Builtin.copy_, run_underlying hdT, Builtin.lenOf, Builtin.firstCells, sizeOf, typeInfo, hinf, hsize, hload, hq1]
 obtain ⟨rv, w', k1, k2, k3⟩ := key
 have hexec : (execOp ((a.put (some d1) (.slice (some ⟨b, 0, none⟩) 3 3)).put (some d2) (.slice sa L.length cap)).eval ⟨dst3, .call ⟨.builtin .copy, #[.tmp d1, .tmp d2], #[dT, sT]⟩, ty3, pos3, af3, gd3⟩).run C.P w = .ok (Next.value rv) w' := by
  simp only [execOp, resolve, Sem.run_bind, Sem.run_pure, Result.andThen_ok, invoke, builtin_copy]
  have : (#[Operand.tmp d1, Operand.tmp d2] : Array Operand).map ((a.put (some d1) (.slice (some ⟨b, 0, none⟩) 3 3)).put (some d2) (.slice sa L.length cap)).eval = #[.slice (some ⟨b, 0, none⟩) 3 3, .slice sa L.length cap] := by
   simp [v1, v2]
  rw [this, k1]
  simp
 unfold Oper.wp
 rw [hexec]
 simp only [Oper.upon]
 refine h inj _ _ ?_
 have hs3 := hs2.put (o := ⟨dst3, .call ⟨.builtin .copy, #[.tmp d1, .tmp d2], #[dT, sT]⟩, ty3, pos3, af3, gd3⟩) (v := .any) (val := rv) (u := some (l, .arr tA 3 g [int3 (L.getD 0 c0) (L.getD 1 c1) (L.getD 2 c2)])) n3 k2 k3 trivial
 exact hs3
theorem zCpa {ops : Array Oper} {o1 o2 o3 : Oper} {rest : List Oper} {tA te dT sT : TypeId} {x y : Operand} {d1 d2 g : Nat} (l : Nat) (c0 c1 c2 : Int) (L : List Int)
  (hu : C.P.underlying tA = some (.array 3 te)) (hdT : C.P.underlying dT = some (.slice te))
  (h : AL C ops rest Q ⟨putE (putE (putE st.env o1.dst .any) o2.dst (.p (.slc (L.map (PV.int .i64))))) o3.dst .any, hset st.heap l (.arr tA 3 g [.p (.agg [.int .i64 (L.getD 0 c0), .int .i64 (L.getD 1 c1), .int .i64 (L.getD 2 c2)])])⟩)
  (h1 : o1.op = .slice tA x none none none := by rfl) (hd1 : o1.dst = some d1 := by rfl) (h2 : o2.op = .move y := by rfl) (hd2 : o2.dst = some d2 := by rfl) (h3 : o3.op = .call ⟨.builtin .copy, #[.tmp d1, .tmp d2], #[dT, sT]⟩ := by rfl)
  (g1 : o1.guard = none := by rfl) (g2 : o2.guard = none := by rfl) (g3 : o3.guard = none := by rfl) (n1 : dstOk C.N o1 = true := by rfl) (n2 : dstOk C.N o2 = true := by rfl) (n3 : dstOk C.N o3 = true := by rfl) (hne : d1 ≠ d2 := by decide)
  (hte : tyOk C.P te = true := by kernel_rfl) (hc : C.P.cellsOf te = 1 := by kernel_rfl) (hy : y ≠ .tmp d1 := by simp)
  (hx : ev st.env x = .loc l g 0 0 := by simp only [go_sem, seval, *]; all_goals first | exact rfl | exact ⟨rfl, rfl⟩)
  (ho : hget st.heap l = .arr tA 3 g [.p (.agg [.int .i64 c0, .int .i64 c1, .int .i64 c2])] := by simp only [go_sem, seval, *]; all_goals first | exact rfl | exact ⟨rfl, rfl⟩)
  (hyv : ev st.env y = .p (.slc (L.map (PV.int .i64))) := by simp only [go_sem, seval, *]; all_goals first | exact rfl | exact ⟨rfl, rfl⟩) : AL C ops (o1 :: o2 :: o3 :: rest) Q st :=
 AL_cpa h1 hd1 h2 hd2 h3 g1 g2 g3 n1 n2 n3 hne hu hte hc hdT hy hx ho hyv h
end Go.Ab
namespace Go.Ab
open Go
set_option linter.unusedVariables false
set_option linter.unusedSimpArgs false
def RowsH (rows : List (Nat × List Value)) (w : World) : Prop := ∀ r ∈ rows, ∀ (j : Nat) (u : Value), r.2[j]? = some u → w.cell? ⟨r.1, j, none⟩ = some u
def QN (C : Cx) (Q : Exit → St → Prop) : Exit → Act → World → Prop := fun ex a w => ex = .normal ∧ lift C Q .normal a w
def HJ (C : Cx) (ops : Array Oper) (rows : List (Nat × List Value)) (Q : Exit → St → Prop) (fuel : Nat) (listed : Array Bool) (st : St) : Prop :=
 ∀ inj a w, SR C st inj a w → RowsH rows w → wpAnyH C.P .any ops (QN C Q) (RowsH rows) fuel listed a w
def Lk (C : Cx) (rows : List (Nat × List Value)) (l : Nat) : Prop := ∃ e sz g x b c u, hget C.H0 l = .arr e sz g [x] ∧ C.inj0 l = some (b, c) ∧ AR C.X C.inj0 (hget C.H0) C.w0 x u ∧ u.cells.size = sz ∧ (b, u.cells.toList) ∈ rows
def LkR (C : Cx) (Ls : List Nat) (r : Nat × List Value) : Prop := ∃ p ∈ Ls, ∃ e sz g x c u, hget C.H0 p = .arr e sz g [x] ∧ C.inj0 p = some (r.1, c) ∧ AR C.X C.inj0 (hget C.H0) C.w0 x u ∧ r.2 = u.cells.toList
variable {C : Cx} {Q : Exit → St → Prop} {st : St} {inj : Inj} {a : Act} {w : World}
theorem one_row {X : Nat → Prop} {inj : Inj} {σ : Nat → AO} {w : World} (h : HR X inj σ w) {l e sz g b c : Nat} {x : AV} (ho : σ l = .arr e sz g [x]) (hi : inj l = some (b, c)) :
  ∃ u, AR X inj σ w x u ∧ u.cells.size = sz ∧ ∀ (j : Nat) (v : Value), u.cells.toList[j]? = some v → w.cell? ⟨b, j, none⟩ = some v := by
 obtain ⟨vs, o1, o2, o3, o4⟩ := (ho ▸ h.obj l _ rfl : OR X inj σ w l (.arr e sz g [x]))
 simp only [ARs] at o1
 obtain ⟨u, r, rfl, hu, rfl⟩ := o1
 rcases o4 with ⟨_, h0⟩ | ⟨b', c', cur, p1, p2, p3, p4, p5, p6, p7⟩
 ·cases h0
 rw [hi] at p1; cases p1
 refine ⟨u, hu, o2 u (by simp), fun j v hj => ?_⟩
 have hfl : flat [u] = u.cells.toList := by simp [flat]
 rw [hfl] at p7
 have hc : cur.toList[j]? = some v := by
  rw [← p7, List.getElem?_take] at hj
  split at hj
  ·exact hj
  ·cases hj
 simp only [World.cell?, p3]
 rw [← Array.getElem?_toList]
 exact hc
theorem awp_held {id : Nat} {l : List Oper} (Ls : List Nat) (hm : C.P.follows .mixedOrders = true) (hl : ∀ p ∈ Ls, ∃ e sz g x, hget st.heap p = .arr e sz g [x])
  (h : ∀ inj w hT rows, (∀ p ∈ Ls, Lk ⟨C.P, C.N, C.B, C.X, st.heap, inj, w, C.D, hT⟩ rows p) → (∀ r ∈ rows, LkR ⟨C.P, C.N, C.B, C.X, st.heap, inj, w, C.D, hT⟩ Ls r) → HJ ⟨C.P, C.N, C.B, C.X, st.heap, inj, w, C.D, hT⟩ l.toArray rows Q l.toArray.size (Array.replicate l.toArray.size false) st) : AWp C (.region id l.toArray true) Q st := by
 intro inj a w hs
 have hf : Fr C.D w { w with drawn := w.drawn + 1 } := ⟨rfl, rfl, rfl, fun _ => Nat.le_succ _, Nat.le_refl _, fun _ _ => rfl, fun _ _ => rfl⟩
 have hE : Ev C.D C.X inj st.sig w inj st.sig { w with drawn := w.drawn + 1 } := hf.ev
 have hs1 : SR C st inj a { w with drawn := w.drawn + 1 } := ⟨fun t => AR.ev hE hs.hr.xlt _ _ (hs.env t), hs.size, hs.defers, hs.hr.fr hf, hs.ev.trans hE⟩
 generalize hw1 : ({ w with drawn := w.drawn + 1 } : World) = w1 at hs1
 -- the rows
 have hrows : ∃ rows, RowsH rows w1 ∧ (∀ p ∈ Ls, Lk ⟨C.P, C.N, C.B, C.X, st.heap, inj, w1, C.D, tab_ev hs1.ev⟩ rows p) ∧ ∀ r ∈ rows, LkR ⟨C.P, C.N, C.B, C.X, st.heap, inj, w1, C.D, tab_ev hs1.ev⟩ Ls r := by
  clear h
  induction Ls with
  | nil => exact ⟨[], (by unfold RowsH; simp), (by simp), (by simp)⟩
  | cons p Ls ih =>
   obtain ⟨rows, r1, r2, r3⟩ := ih (fun q hq => hl q (by simp [hq]))
   obtain ⟨e, sz, g, x, hp⟩ := hl p (by simp)
   have hOR := hs1.hr.obj p _ hp
   have hinj : ∃ b c, inj p = some (b, c) := by
    obtain ⟨vs, o1, o2, o3, o4⟩ := hOR
    rcases o4 with ⟨_, h0⟩ | ⟨b', c', cur, p1, _⟩
    ·cases h0
    ·exact ⟨b', c', p1⟩
   obtain ⟨b, c, hi⟩ := hinj
   obtain ⟨u, u1, u2, u3⟩ := one_row hs1.hr hp hi
   refine ⟨(b, u.cells.toList) :: rows, ?_, ?_, ?_⟩
   ·intro r hr j v hv
    rcases List.mem_cons.1 hr with rfl | hr
    ·exact u3 j v hv
    ·exact r1 r hr j v hv
   ·intro q hq
    rcases List.mem_cons.1 hq with rfl | hq
    ·exact ⟨e, sz, g, x, b, c, u, hp, hi, u1, u2, by simp⟩
    ·obtain ⟨e', sz', g', x', b', c', u', k1, k2, k3, k4, k5⟩ := r2 q hq
     exact ⟨e', sz', g', x', b', c', u', k1, k2, k3, k4, by simp [k5]⟩
   ·intro r hr
    rcases List.mem_cons.1 hr with rfl | hr
    ·exact ⟨p, by simp, e, sz, g, x, c, u, hp, hi, u1, rfl⟩
    ·obtain ⟨q, hq, rest⟩ := r3 r hr
     exact ⟨q, by simp [hq], rest⟩
 obtain ⟨rows, r1, r2, r3⟩ := hrows
 have hj := h inj w1 (tab_ev hs1.ev) rows r2 r3 inj a w1 ⟨hs1.env, hs1.size, hs1.defers, hs1.hr, Ev.refl _ _ _ _⟩ r1
 have hreg : (Code.region id l.toArray true).wp C.P (QN ⟨C.P, C.N, C.B, C.X, st.heap, inj, w1, C.D, tab_ev hs1.ev⟩ Q) a w := wp_region_held hm (by rw [hw1]; exact hj)
 refine wp_mono hreg ?_
 rintro e a' w' ⟨rfl, s, inj', hs', hq⟩
 exact ⟨s, inj', ⟨hs'.env, hs'.size, hs'.defers, hs'.hr, hs1.ev.trans hs'.ev⟩, hq⟩
theorem op_wp_mono {P : Program} {o : Oper} {a : Act} {w : World} {K K' : Act → World → Prop} {Q Q' : Exit → Act → World → Prop} (h : ∀ a w, K a w → K' a w) (hq : ∀ c a w, Q (.panic c) a w → Q' (.panic c) a w) (hl : LetsOut Q → LetsOut Q')
  (hh : o.wp P a w K Q) : o.wp P a w K' Q' := by
 unfold Oper.wp at *
 generalize (execOp a.eval o).run P w = r at *
 cases r with
 | ok n w' =>
  cases n <;> simp only [Oper.upon] at hh ⊢ <;>
   first
    | exact h _ _ hh
    | exact Calls.mono hh (fun e w'' he => by cases e <;> first | exact h _ _ he | exact hq _ _ _ he | exact hl he)
    | exact Rows.mono hh (fun _ _ he => h _ _ he)
 | halt x w' => cases x <;> simp only [Oper.upon] at hh ⊢ <;> exact hq _ _ _ hh
theorem hj_take {ops : Array Oper} {rows : List (Nat × List Value)} {fuel : Nat} {listed : Array Bool} {i : Nat} {o : Oper} {y : AV} (hi : ops[i]? = some o) (hs : Region.noSelect ops = true) (hf : Region.free .any ops listed i = true) (hr : (Region.ready .any ops listed).contains i = true)
  (hg : o.guard = none) (hd : dstOk C.N o = true) (hy : ∀ inj a w, SR C st inj a w → RowsH rows w → ∃ v, (∀ w', RowsH rows w' → (execOp a.eval o).run C.P w' = .ok (.value v) w') ∧ AR C.X inj st.sig w y v)
  (h : HJ C ops rows Q fuel (listed.setIfInBounds i true) ⟨putE st.env o.dst y, st.heap⟩) : HJ C ops rows Q (fuel + 1) listed st := by
 intro inj a w hsr hR
 obtain ⟨v, h1, h2⟩ := hy inj a w hsr hR
 refine wpAnyH_take hi hs hf hr (fun c a w hq => by cases hq.1) (.inl ⟨by simp [Region.wanted, hg], h1⟩) hR ?_
 have := hsr.put (o := o) (v := y) (val := v) (u := none) hd hsr.hr (Ev.refl _ _ _ _) h2
 exact h inj _ w this hR
mutual
def rigidP : PV → Bool
 | .int _ _ => true
 | .bool _ => true
 | .str _ => true
 | .nilp => true
 | .nilf => true
 | .nili => true
 | .nilm => true
 | .agg cs => rigidPs cs
 | _ => false
def rigidPs : List PV → Bool
 | [] => true
 | p :: ps => rigidP p && rigidPs ps
end
mutual
theorem PR_rigid {X X' : Nat → Prop} {w w' : World} : ∀ (p : PV) {v v' : Value}, rigidP p = true → PR X w p v → PR X' w' p v' → v = v'
 | .int _ _, _, _, _, h, h' => by simp only [PR] at h h'; rw [h, h']
 | .bool _, _, _, _, h, h' => by simp only [PR] at h h'; rw [h, h']
 | .str _, _, _, _, h, h' => by simp only [PR] at h h'; rw [h, h']
 | .nilp, _, _, _, h, h' => by simp only [PR] at h h'; rw [h, h']
 | .nilf, _, _, _, h, h' => by simp only [PR] at h h'; rw [h, h']
 | .nili, _, _, _, h, h' => by simp only [PR] at h h'; rw [h, h']
 | .nilm, _, _, _, h, h' => by simp only [PR] at h h'; rw [h, h']
 | .agg cs, _, _, hr, h, h' => by
  simp only [PR] at h h'
  obtain ⟨vs, rfl, h1, _⟩ := h
  obtain ⟨vs', rfl, h2, _⟩ := h'
  rw [PRs_rigid cs (by simpa [rigidP] using hr) h1 h2]
 | .slc _, _, _, hr, _, _ => by cases hr
 | .nnil _, _, _, hr, _, _ => by cases hr
 | .clip _, _, _, hr, _, _ => by cases hr
 | .imm _, _, _, hr, _, _ => by cases hr
 | .mapv _ _, _, _, hr, _, _ => by cases hr
 | .func _ _, _, _, hr, _, _ => by cases hr
 | .tup _, _, _, hr, _, _ => by cases hr
theorem PRs_rigid {X X' : Nat → Prop} {w w' : World} : ∀ (ps : List PV) {vs vs' : List Value}, rigidPs ps = true → PRs X w ps vs → PRs X' w' ps vs' → vs = vs'
 | [], _, _, _, h, h' => by simp only [PRs] at h h'; rw [h, h']
 | p :: ps, _, _, hr, h, h' => by
  simp only [PRs] at h h'
  obtain ⟨v, r, rfl, h1, h2⟩ := h
  obtain ⟨v', r', rfl, h3, h4⟩ := h'
  simp only [rigidPs, Bool.and_eq_true] at hr
  rw [PR_rigid p hr.1 h1 h3, PRs_rigid ps hr.2 h2 h4]
end
def Stb (C : Cx) (s : St) (p : Nat) : Prop := (∃ e sz g pv, hget C.H0 p = .arr e sz g [.p pv] ∧ hget s.heap p = .arr e sz g [.p pv] ∧ rigidP pv = true) ∨
 (∃ e sz g o g' off e1 sz1 es1 es2, hget C.H0 p = .arr e sz g [.loc o g' 0 off] ∧ hget s.heap p = .arr e sz g [.loc o g' 0 off] ∧ hget C.H0 o = .arr e1 sz1 g' es1 ∧ hget s.heap o = .arr e1 sz1 g' es2)
theorem rows_kept {Ls : List Nat} {rows : List (Nat × List Value)} {s : St} {inj : Inj} {a : Act} {w : World} (hs : SR C s inj a w) (hk : ∀ r ∈ rows, LkR C Ls r) (hb : ∀ p ∈ Ls, Stb C s p) : RowsH rows w := by
 intro r hr j v hv
 obtain ⟨p, hp, e, sz, g, x, c, u, k1, k2, k3, k4⟩ := hk r hr
 rw [k4] at hv
 have same : ∀ (q : Nat) (e1 sz1 g1 : Nat) (es1 es2 : List AV), hget C.H0 q = .arr e1 sz1 g1 es1 → hget s.heap q = .arr e1 sz1 g1 es2 → inj q = C.inj0 q := by
  intro q e1 sz1 g1 es1 es2 h1 h2
  have := hs.ev.objs q
  have h3 := this.2 (by rw [show s.sig q = hget s.heap q from rfl, h2]; rfl) (by rw [show s.sig q = hget s.heap q from rfl, h1, h2]; rfl)
  exact h3.1
 rcases hb p hp with ⟨e', sz', g', pv, b1, b2, b3⟩ | ⟨e', sz', g', o, go, off, e1, sz1, es1, es2, b1, b2, b4, b5⟩
 ·rw [k1] at b1
  obtain ⟨rfl, rfl, rfl, hx⟩ := AO.arr.inj b1
  cases hx
  have hi := same p _ _ _ _ _ k1 b2
  rw [k2] at hi
  obtain ⟨u', u1, u2, u3⟩ := one_row hs.hr b2 hi
  have : u' = u := by
   simp only [AR] at u1 k3
   exact PR_rigid pv b3 u1 k3
  subst this
  exact u3 j v hv
 ·rw [k1] at b1
  obtain ⟨rfl, rfl, rfl, hx⟩ := AO.arr.inj b1
  cases hx
  have hi := same p _ _ _ _ _ k1 b2
  rw [k2] at hi
  obtain ⟨u', u1, u2, u3⟩ := one_row hs.hr b2 hi
  have : u' = u := by
   simp only [AR] at u1 k3
   obtain ⟨_, m1⟩ := u1
   obtain ⟨_, m2⟩ := k3
   obtain ⟨_, m1⟩ := m1 _ b5
   obtain ⟨_, m2⟩ := m2 _ b4
   obtain ⟨bb, cc, q1, q2⟩ := m1 rfl _ _ _ rfl
   obtain ⟨bb', cc', q3, q4⟩ := m2 rfl _ _ _ rfl
   have ho := same o _ _ _ _ _ b4 b5
   rw [ho, q3] at q1
   cases q1
   rw [q2, q4]
  subst this
  exact u3 j v hv
theorem hj_step {ops : Array Oper} {rows : List (Nat × List Value)} {Ls : List Nat} {fuel : Nat} {listed : Array Bool} {i : Nat} {o : Oper} (hi : ops[i]? = some o) (hr : Region.ready .any ops listed = [i]) (hk : ∀ r ∈ rows, LkR C Ls r)
  (h : AL C ops [o] (fun ex s => ex = .normal ∧ (∀ p ∈ Ls, Stb C s p) ∧ HJ C ops rows Q fuel (listed.setIfInBounds i true) s) st) : HJ C ops rows Q (fuel + 1) listed st := by
 intro inj a w hs hR
 refine wpAnyH_all hr (by simp) ?_
 intro j hj
 obtain rfl := List.mem_singleton.1 hj
 have h1 := h inj a w hs
 have key : ∀ a' w', lift C (fun ex s => ex = .normal ∧ (∀ p ∈ Ls, Stb C s p) ∧ HJ C ops rows Q fuel (listed.setIfInBounds j true) s) .normal a' w' → RowsH rows w' ∧ wpAnyH C.P .any ops (QN C Q) (RowsH rows) fuel (listed.setIfInBounds j true) a' w' := by
  rintro a' w' ⟨s, inj', hs', _, hb, hh⟩
  have := rows_kept hs' hk hb
  exact ⟨this, hh inj' a' w' hs' this⟩
 unfold wpOp
 simp only [hi]
 simp only [wpList] at h1
 split
 ·rename_i hw
  rw [if_pos hw] at h1
  rcases h1 with h1 | ⟨_, a', w', s, inj', _, hq⟩
  ·refine .inl (op_wp_mono (fun a' w' hh => key a' w' hh) (fun c a' w' hq => ?_) (fun hl => ?_) h1)
   ·obtain ⟨s, inj', _, hq⟩ := hq
    cases hq.1
   ·obtain ⟨a', w', s, inj', _, hq⟩ := hl
    cases hq.1
  ·cases hq.1
 ·rename_i hw
  rw [if_neg hw] at h1
  exact key _ _ h1
theorem hj_done {ops : Array Oper} {rows : List (Nat × List Value)} {fuel : Nat} {listed : Array Bool} (hr : Region.ready .any ops listed = []) (h : Q .normal st) : HJ C ops rows Q fuel listed st :=
 fun inj a w hs _ => wpAnyH_done hr ⟨rfl, st, inj, hs, h⟩ fuel
theorem tk_load {rows : List (Nat × List Value)} {l e sz g off : Nat} {t : TypeId} {x y : AV} {o : Oper} {xo : Operand} {bb : Bool} (hk : Lk C rows l) (hl0 : hget C.H0 l = .arr e sz g [x]) (hl : hget st.heap l = .arr e sz g [x])
  (ho : o.op = .load t xo) (hv : ev st.env xo = .loc l g 0 off) (hy : (loadA C.P t (.loc l g 0 off)).run st.sig = some y) (hle : off + C.P.cellsOf t ≤ sz) (hlt : off < sz) (hb : isAggT C.P t = some bb) :
  ∀ inj a w, SR C st inj a w → RowsH rows w → ∃ v, (∀ w', RowsH rows w' → (execOp a.eval o).run C.P w' = .ok (.value v) w') ∧ AR C.X inj st.sig w y v := by
 intro inj a w hs hR
 obtain ⟨e', sz', g', x', b, c, u, k1, k2, k3, k4, k5⟩ := hk
 rw [hl0] at k1
 obtain ⟨rfl, rfl, rfl, _⟩ := AO.arr.inj k1
 have hsame : inj l = C.inj0 l := by
  have h3 := (hs.ev.objs l).2 (by rw [show st.sig l = hget st.heap l from rfl, hl]; rfl) (by rw [show st.sig l = hget st.heap l from rfl, hl0, hl])
  exact h3.1
 have hloc := hs.eval xo
 rw [hv] at hloc
 obtain ⟨u1, q1, q2⟩ := loadA_sound (P := C.P) hs.hr hloc hy
 obtain ⟨_, a2⟩ := hloc
 obtain ⟨_, a3⟩ := a2 _ (show st.sig l = _ from hl)
 obtain ⟨b', c', a4, hptr⟩ := a3 rfl _ _ _ rfl
 rw [hsame, k2] at a4
 cases a4
 simp only [Nat.zero_mul, Nat.zero_add] at hptr
 have hcell : ∀ w', RowsH rows w' → ∀ (j : Nat) (v : Value), u.cells.toList[j]? = some v → w'.cell? ⟨b, j, none⟩ = some v := fun w' hR' j v hj => hR' _ k5 j v hj
 have hlen : u.cells.toList.length = sz := by rw [Array.length_toList, k4]
 have huniv : ∃ v, ∀ w', RowsH rows w' → (Instr.loadAt t (a.eval xo)).run C.P w' = .ok v w' := by
  cases bb with
  | true =>
   refine ⟨.agg ((u.cells.toList.drop off).take (C.P.cellsOf t)).toArray, fun w' hR' => ?_⟩
   rw [hptr]
   have := run_loadVar_agg (P := C.P) (w := w') hb (a := ⟨b, off, none⟩) (cs := (u.cells.toList.drop off).take (C.P.cellsOf t)) (fun j v hj => by
    rw [List.getElem?_take] at hj
    split at hj
    ·rw [List.getElem?_drop] at hj
     rw [Addr.add_lit]
     exact hcell w' hR' _ v hj
    ·cases hj) (by rw [List.length_take, List.length_drop]; omega)
   simpa [Instr.loadAt, Instr.sureAddr] using this
  | false =>
   have hoff : u.cells.toList[off]? = some (u.cells.toList[off]'(by omega)) := List.getElem?_eq_getElem _
   refine ⟨u.cells.toList[off]'(by omega), fun w' hR' => ?_⟩
   rw [hptr]
   have := run_loadVar_one (P := C.P) (w := w') hb (a := ⟨b, off, none⟩) (hcell w' hR' off _ hoff)
   simpa [Instr.loadAt, Instr.sureAddr] using this
 obtain ⟨v, hv'⟩ := huniv
 have := hv' w hR
 rw [q1] at this
 cases this
 refine ⟨u1, fun w' hR' => ?_, q2⟩
 obtain ⟨dst, op, ty, pos, af, gd⟩ := o
 simp only at ho
 subst ho
 have h1 := hv' w' hR'
 simp [execOp, h1]
theorem tk_field {rows : List (Nat × List Value)} {s f : Nat} {y : AV} {o : Oper} {xo : Operand} (ho : o.op = .fieldAddr s xo f) (hy : fieldAddrA C.P s f (ev st.env xo) = some y) (hl : ∃ l g i off, ev st.env xo = .loc l g i off) :
  ∀ inj a w, SR C st inj a w → RowsH rows w → ∃ v, (∀ w', RowsH rows w' → (execOp a.eval o).run C.P w' = .ok (.value v) w') ∧ AR C.X inj st.sig w y v := by
 intro inj a w hs hR
 have hx := hs.eval xo
 obtain ⟨v, q1, q2⟩ := fieldAddrA_sound (P := C.P) hx hy
 refine ⟨v, fun w' hR' => ?_, q2⟩
 have hp : ∃ b, a.eval xo = .pointer (some b) := by
  obtain ⟨l, g, i, off, hl⟩ := hl
  rw [hl] at hx
  exact hx.1
 obtain ⟨b, hb⟩ := hp
 have h1 : (Instr.fieldAt s (a.eval xo) f).run C.P w' = .ok v w' := by
  rw [hb] at q1 ⊢
  unfold fieldAddrA fieldOff at hy
  cases hu : C.P.underlying s with
  | none => simp [hu] at hy
  | some d =>
   cases d with
   | struct fs =>
    cases hf : fs[f]? with
    | none => simp [hu, hf] at hy
    | some fd =>
     by_cases hz : C.P.cellsOf fd.type = 0
     ·simp [hu, hf, hz] at hy
     ·have hsz : ∀ w, (sizeOf fd.type).run C.P w = .ok (C.P.cellsOf fd.type) w := by
       intro w
       unfold Program.cellsOf at hz ⊢
       cases hi : C.P.info? fd.type with
       | none => simp [hi] at hz
       | some i => simp [sizeOf, typeInfo, hi]
      simp [Instr.fieldAt, run_underlying hu, hf, Instr.sureAddr, fieldPlace, hsz, hz] at q1 ⊢
      exact q1
   | _ => simp [hu] at hy
 obtain ⟨dst, op, ty, pos, af, gd⟩ := o
 simp only at ho
 subst ho
 simp [execOp, h1]
theorem tk_move {rows : List (Nat × List Value)} {y : AV} {o : Oper} {xo : Operand} (ho : o.op = .move xo ∨ o.op = .assign xo) (hy : ev st.env xo = y) :
  ∀ inj a w, SR C st inj a w → RowsH rows w → ∃ v, (∀ w', RowsH rows w' → (execOp a.eval o).run C.P w' = .ok (.value v) w') ∧ AR C.X inj st.sig w y v := by
 intro inj a w hs hR
 have hx := hs.eval xo
 rw [hy] at hx
 refine ⟨a.eval xo, fun w' hR' => ?_, hx⟩
 obtain ⟨dst, op, ty, pos, af, gd⟩ := o
 simp only at ho
 rcases ho with rfl | rfl <;> simp [execOp]
end Go.Ab
namespace Go.Ab
open Go
set_option linter.unusedVariables false
set_option linter.unusedSimpArgs false
variable {C : Cx} {Q : Exit → St → Prop} {st : St}
def one1 : AO → Bool
 | .arr _ _ _ [_] => true
 | _ => false
theorem one1_arr (e sz g : Nat) (x : AV) : one1 (.arr e sz g [x]) = true := rfl
def ones1 (h : List (Nat × AO)) : List Nat → Prop
 | [] => True
 | p :: ps => one1 (hget h p) = true ∧ ones1 h ps
theorem ones1_spec {h : List (Nat × AO)} : ∀ {ps : List Nat}, ones1 h ps → ∀ p ∈ ps, ∃ e sz g x, hget h p = .arr e sz g [x]
 | [], _, _, hp => by cases hp
 | q :: ps, ho, p, hp => by
  rcases List.mem_cons.1 hp with rfl | hp
  ·have := ho.1
   unfold one1 at this
   split at this
   ·rename_i e sz g x hx; exact ⟨e, sz, g, x, hx⟩
   ·cases this
  ·exact ones1_spec ho.2 p hp
theorem ones1_nil (h : List (Nat × AO)) : ones1 h [] = True := rfl
theorem ones1_cons (h : List (Nat × AO)) (p : Nat) (ps : List Nat) : ones1 h (p :: ps) = (one1 (hget h p) = true ∧ ones1 h ps) := rfl
attribute [go_sem] one1_arr ones1_nil ones1_cons
theorem zH {id : Nat} {l : List Oper} (Ls : List Nat) {n : Nat} {fs : Array Bool} (hm : C.P.follows .mixedOrders = true)
  (h : ∀ inj w hT rows, (∀ p ∈ Ls, Lk ⟨C.P, C.N, C.B, C.X, st.heap, inj, w, C.D, hT⟩ rows p) → (∀ r ∈ rows, LkR ⟨C.P, C.N, C.B, C.X, st.heap, inj, w, C.D, hT⟩ Ls r) → HJ ⟨C.P, C.N, C.B, C.X, st.heap, inj, w, C.D, hT⟩ l.toArray rows Q n fs st)
  (hl : ones1 st.heap Ls := by simp only [go_sem, seval, *]; all_goals exact zF) (hn : l.toArray.size = n := by rfl) (hfs : Array.replicate n false = fs := by rfl) : AWp C (.region id l.toArray true) Q st := by
 subst hn
 subst hfs
 exact awp_held Ls hm (ones1_spec hl) h
def isLoc : AV → Bool
 | .loc _ _ _ _ => true
 | _ => false
theorem isLoc_loc (l g i off : Nat) : isLoc (.loc l g i off) = true := rfl
theorem isLoc_spec {v : AV} (h : isLoc v = true) : ∃ l g i off, v = .loc l g i off := by
 unfold isLoc at h
 split at h
 ·exact ⟨_, _, _, _, rfl⟩
 ·cases h
attribute [go_sem] isLoc_loc
theorem zHl {ops : Array Oper} {rows : List (Nat × List Value)} {Ls : List Nat} {fuel : Nat} {listed listed' : Array Bool} {o : Oper} {e sz g off : Nat} {t : TypeId} {x y : AV} {xo : Operand} {bb : Bool} {st' : St}
  (i l : Nat) (hk : ∀ p ∈ Ls, Lk C rows p) (h : HJ C ops rows Q fuel listed' st') (hs : Region.noSelect ops = true := by kernel_rfl) (hi : ops[i]? = some o := by rfl) (ho : o.op = .load t xo := by rfl)
  (hf : Region.free .any ops listed i = true := by kernel_rfl) (hr : (Region.ready .any ops listed).contains i = true := by kernel_rfl) (hg : o.guard = none := by rfl) (hd : dstOk C.N o = true := by rfl) (hm : l ∈ Ls := by simp)
  (hv : ev st.env xo = .loc l g 0 off := by simp only [go_sem, seval, *]; all_goals exact zF) (hl0 : hget C.H0 l = .arr e sz g [x] := by simp only [go_sem, seval, *]; all_goals exact zF) (hl : hget st.heap l = .arr e sz g [x] := by simp only [go_sem, seval, *]; all_goals exact zF)
  (hy : (loadA C.P t (.loc l g 0 off)).run (hget st.heap) = some y := by simp only [go_sem, seval, *]; all_goals exact zF) (hle : off + C.P.cellsOf t ≤ sz := by simp only [go_sem, seval]; all_goals decide) (hlt : off < sz := by decide) (hb : isAggT C.P t = some bb := by simp only [isAggT, go_sem, seval]; all_goals exact rfl)
  (hlist : listed.setIfInBounds i true = listed' := by rfl) (hst : (⟨putE st.env o.dst y, st.heap⟩ : St) = st' := by rfl) : HJ C ops rows Q (fuel + 1) listed st := by
 subst hlist
 subst hst
 exact hj_take hi hs hf hr hg hd (tk_load (hk l hm) hl0 hl ho hv hy hle hlt hb) h
theorem zHf {ops : Array Oper} {rows : List (Nat × List Value)} {fuel : Nat} {listed listed' : Array Bool} {o : Oper} {s f : Nat} {xo : Operand} {y : AV} {st' : St}
  (i : Nat) (h : HJ C ops rows Q fuel listed' st') (hs : Region.noSelect ops = true := by kernel_rfl) (hi : ops[i]? = some o := by rfl) (ho : o.op = .fieldAddr s xo f := by rfl)
  (hf : Region.free .any ops listed i = true := by kernel_rfl) (hr : (Region.ready .any ops listed).contains i = true := by kernel_rfl) (hg : o.guard = none := by rfl) (hd : dstOk C.N o = true := by rfl)
  (hl : isLoc (ev st.env xo) = true := by simp only [go_sem, seval, *]; done) (hy : fieldAddrA C.P s f (ev st.env xo) = some y := by simp only [go_sem, seval, *]; all_goals exact zF)
  (hlist : listed.setIfInBounds i true = listed' := by rfl) (hst : (⟨putE st.env o.dst y, st.heap⟩ : St) = st' := by rfl) : HJ C ops rows Q (fuel + 1) listed st := by
 subst hlist
 subst hst
 exact hj_take hi hs hf hr hg hd (tk_field ho hy (isLoc_spec hl)) h
theorem zHm {ops : Array Oper} {rows : List (Nat × List Value)} {fuel : Nat} {listed listed' : Array Bool} {o : Oper} {xo : Operand} {y : AV} {st' : St}
  (i : Nat) (h : HJ C ops rows Q fuel listed' st') (hs : Region.noSelect ops = true := by kernel_rfl) (hi : ops[i]? = some o := by rfl) (ho : o.op = .move xo ∨ o.op = .assign xo := by first | exact .inl rfl | exact .inr rfl)
  (hf : Region.free .any ops listed i = true := by kernel_rfl) (hr : (Region.ready .any ops listed).contains i = true := by kernel_rfl) (hg : o.guard = none := by rfl) (hd : dstOk C.N o = true := by rfl)
  (hy : ev st.env xo = y := by simp only [go_sem, seval, *]; all_goals exact rfl)
  (hlist : listed.setIfInBounds i true = listed' := by rfl) (hst : (⟨putE st.env o.dst y, st.heap⟩ : St) = st' := by rfl) : HJ C ops rows Q (fuel + 1) listed st := by
 subst hlist
 subst hst
 exact hj_take hi hs hf hr hg hd (tk_move ho hy) h
def HK (C : Cx) (ops : Array Oper) (rows : List (Nat × List Value)) (Ls : List Nat) (Q : Exit → St → Prop) (fuel : Nat) (listed : Array Bool) : Exit → St → Prop := fun ex s => ex = .normal ∧ (∀ p ∈ Ls, Stb C s p) ∧ HJ C ops rows Q fuel listed s
theorem zHs {ops : Array Oper} {rows : List (Nat × List Value)} {Ls : List Nat} {fuel : Nat} {listed listed' : Array Bool} {o : Oper} (i : Nat) (hk : ∀ r ∈ rows, LkR C Ls r) (h : AL C ops [o] (HK C ops rows Ls Q fuel listed') st)
  (hi : ops[i]? = some o := by rfl) (hr : Region.ready .any ops listed = [i] := by kernel_rfl) (hlist : listed.setIfInBounds i true = listed' := by rfl) : HJ C ops rows Q (fuel + 1) listed st := by
 subst hlist
 exact hj_step hi hr hk h
def stbL (C : Cx) (s : St) : List Nat → Prop
 | [] => True
 | p :: ps => Stb C s p ∧ stbL C s ps
theorem stbL_spec {s : St} : ∀ {ps : List Nat}, stbL C s ps → ∀ p ∈ ps, Stb C s p
 | [], _, _, hp => by cases hp
 | q :: ps, h, p, hp => by
  rcases List.mem_cons.1 hp with rfl | hp
  ·exact h.1
  ·exact stbL_spec h.2 p hp
theorem zHk {ops : Array Oper} {rows : List (Nat × List Value)} {Ls : List Nat} {fuel : Nat} {listed : Array Bool} (hb : stbL C st Ls) (h : HJ C ops rows Q fuel listed st) : HK C ops rows Ls Q fuel listed .normal st := ⟨rfl, stbL_spec hb, h⟩
theorem stb_loc {s : St} {p e sz g o g' off e1 sz1 : Nat} {es1 es2 : List AV} (h1 : hget C.H0 p = .arr e sz g [.loc o g' 0 off] := by simp only [go_sem, seval, *]; all_goals exact zF) (h2 : hget s.heap p = .arr e sz g [.loc o g' 0 off] := by simp only [go_sem, seval, *]; all_goals exact zF)
  (h3 : hget C.H0 o = .arr e1 sz1 g' es1 := by simp only [go_sem, seval, *]; all_goals exact zF) (h4 : hget s.heap o = .arr e1 sz1 g' es2 := by simp only [go_sem, seval, *]; all_goals exact zF) : Stb C s p := .inr ⟨e, sz, g, o, g', off, e1, sz1, es1, es2, h1, h2, h3, h4⟩
theorem stb_rig {s : St} {p e sz g : Nat} {pv : PV} (h1 : hget C.H0 p = .arr e sz g [.p pv] := by simp only [go_sem, seval, *]; all_goals exact zF) (h2 : hget s.heap p = .arr e sz g [.p pv] := by simp only [go_sem, seval, *]; all_goals exact zF)
  (h3 : rigidP pv = true := by first | rfl | (simp only [go_sem, seval, rigidP, rigidPs]; done) | (simp [go_sem, seval, rigidP, rigidPs]; done)) : Stb C s p := .inl ⟨e, sz, g, pv, h1, h2, h3⟩
theorem zHe {ops : Array Oper} {rows : List (Nat × List Value)} {fuel : Nat} {listed : Array Bool} (h : Q .normal st) (hr : Region.ready .any ops listed = [] := by kernel_rfl) : HJ C ops rows Q fuel listed st := hj_done hr h
section
variable {α : Type} {h h' H0 rest : List (Nat × AO)} {f f' k e sz G G' e' sz' : Nat} {o : AO} {enc : α → PV} {ll : List (List α)}
def hasFamG (h : List (Nat × AO)) (f e sz : Nat) (enc : α → PV) (ll : List (List α)) : Prop := ∃ G, hasFam h f e sz G enc ll
theorem hasFamG_low (hk : k < 1048576) : hasFamG ((k, o) :: h) f e sz enc ll = hasFamG h f e sz enc ll := by simp only [hasFamG, hasFam_low hk]
theorem hasFamG_same : hasFamG (famL f e sz G enc ll rest) f e sz enc ll = True := by
 rw [eq_iff_iff, iff_true]
 exact ⟨G, by rw [hasFam_same]; trivial⟩
theorem leHeap_fam_gen (h1 : hasFamG h f e sz enc ll) (h2 : hasFam h' f e sz G enc ll) (hg : 1 ≤ G) (hk : famKeep H0 f G) : leHeap (hget h) (hget h') H0 (famL f e sz G enc ll rest) = leHeap (hget h) (hget h') H0 rest := by
 obtain ⟨G1, h1⟩ := h1
 exact leHeap_famL fun i x hx => leO_arr (h1 i x hx) (h2 i x hx) hg fun ha => .inr (hk i ha)
end
def keysLe {β : Type} (n : Nat) (ll : List β) : Prop := n ≤ ll.length
section
variable {β : Type} {f n e sz G : Nat} {ll ll' : List β}
theorem keysLe_self : keysLe ll.length ll = True := by simp [keysLe]
theorem keysLe_set {i : Nat} {y : β} : keysLe n (ll.set i y) = keysLe n ll := by simp [keysLe]
theorem keysLe_setL {γ : Type} {l : List γ} {i : Nat} {y : γ} : keysLe (l.set i y).length ll = keysLe l.length ll := by simp [keysLe]
theorem keysLe_app (h : keysLe n ll) : keysLe n (ll ++ ll') = True := by
 rw [eq_iff_iff, iff_true]
 unfold keysLe at *
 rw [List.length_append]; omega
theorem keysLe_app' {y : β} : keysLe (ll.length + 1) (ll ++ [y]) = True := by simp [keysLe]
end
def keysRest (rest : List (Nat × AO)) (f a n : Nat) : Prop := ∀ i, i < n → a ≤ i → (rest.any fun x => x.1 == fx f i) = true
theorem hasKeys_fam {α : Type} {f n e sz G : Nat} {enc : α → PV} {ll : List (List α)} {rest : List (Nat × AO)} : hasKeys (famL f e sz G enc ll rest) f n = (keysLe n ll ∨ keysRest rest f ll.length n) := by
 rw [eq_iff_iff]
 constructor
 ·intro H
  by_cases hn : n ≤ ll.length
  ·exact .inl hn
  ·refine .inr fun i hi hl => ?_
   have := H i hi
   unfold famL at this
   rw [List.any_append, Bool.or_eq_true] at this
   rcases this with this | this
   ·rw [List.any_eq_true] at this
    obtain ⟨x, hx, hx2⟩ := this
    obtain ⟨k, hk, rfl⟩ := List.mem_mapIdx.1 hx
    simp only [beq_iff_eq, fx_inj] at hx2
    omega
   ·exact this
 ·rintro (hk | hr) i hi
  ·have h1 : hasKeys (famL f e sz G enc ll rest) f ll.length := by rw [hasKeys_same]; trivial
   exact h1 i (Nat.lt_of_lt_of_le hi hk)
  ·by_cases hl : i < ll.length
   ·have h1 : hasKeys (famL f e sz G enc ll rest) f ll.length := by rw [hasKeys_same]; trivial
    exact h1 i hl
   ·unfold famL
    rw [List.any_append, Bool.or_eq_true]
    exact .inr (hr i hi (by omega))
theorem get_keysLe {β : Type} {l l2 : List β} (hk : keysLe l.length l2) : l[l2.length]? = none := List.getElem?_eq_none hk
attribute [go_sem] keysLe_self keysLe_set keysLe_setL keysLe_app keysLe_app' hasKeys_fam get_keysLe true_or
attribute [go_sem] hasFamG_low hasFamG_same leHeap_fam_gen
theorem zSwA {c : Code} (x y : Nat) (h : AWp C c Q ⟨renE (swp x y) st.env, hren (swp x y) st.heap⟩)
  (h1 : RenOk (hget C.H0 x) (hget st.heap y) := by simp only [go_sem, seval, *]; all_goals first | exact fun h => h | (simp; done) | (simp [*]; done)) (h2 : RenOk (hget C.H0 y) (hget st.heap x) := by simp only [go_sem, seval, *]; all_goals first | exact fun h => h | (simp; done) | (simp [*]; done)) : AWp C c Q st := awp_swp x y h1 h2 h
end Go.Ab
namespace Go.Ab
open Go
set_option linter.unusedVariables false
set_option linter.unusedSimpArgs false
def inner (ops : Array Oper) : Bool := ops.toList.all fun o => (o.after.toList.all fun e => decide (e.on < ops.size)) && (match o.guard with | some (g, _) => decide (g < ops.size) | none => true)
variable {C : Cx} {Q : Exit → St → Prop} {st : St}
end Go.Ab
namespace Go.Ab
open Go
theorem view6_own (D : Nat → Bool) (l g off len : Nat) : view D 6 (.own l g off len) = viewOwn D 5 l g off len := rfl
theorem view6_agg (D : Nat → Bool) (cs : List AV) : view D 6 (.agg cs) = (viewAll (view D 5) cs).bind fun xs => .ret (.agg xs) := rfl
theorem view5_p (D : Nat → Bool) (x : PV) : view D 5 (.p x) = .ret x := rfl
theorem view5_nils (D : Nat → Bool) : view D 5 .nils = .ret (.slc []) := rfl
theorem view5_own (D : Nat → Bool) (l g off len : Nat) : view D 5 (.own l g off len) = viewOwn D 4 l g off len := rfl
theorem view4_p (D : Nat → Bool) (x : PV) : view D 4 (.p x) = .ret x := rfl
attribute [go_sem] view6_own view6_agg view5_p view5_nils view5_own view4_p
end Go.Ab
namespace Go.Ab
open Go
set_option linter.unusedVariables false
variable {C : Cx} {Q : Exit → St → Prop} {st : St}
theorem ex_tup (σ σ' : Nat → AO) (cs0 cs' : List AV) : (∃ cs, AV.tup cs0 = AV.tup cs ∧ LeVs σ σ' cs cs') = LeVs σ σ' cs0 cs' := by
 refine propext ⟨?_, ?_⟩
 ·rintro ⟨cs, h, h2⟩
  cases h
  exact h2
 ·intro h
  exact ⟨_, rfl, h⟩
theorem zMt {ops : Array Oper} {l : List Oper} (st' : St) (k : AL C ops l Q st') (h : Le C st st' := by simp only [go_sem, seval, ex_tup, *]; all_goals exact zF) : AL C ops l Q st := AL_le h k
end Go.Ab
