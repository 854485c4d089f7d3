/- An abstract logic for calls that only compute: what each operation does to values that are trees, and rules for walking a text. -/
import Derived.WalkKit
import Derived.ProofKit
import Derived.Laws.OwnMore
import Derived.Lib.Strings
import Derived.WalkSpells
import Derived.Laws.StructEq
import Derived.Laws.IdiomStrings
import Derived.Laws.BytesString
import Derived.MapKept
import Derived.Carry
import Derived.Great.BuildSlice
import Derived.Deep.LoopGhost
namespace Go.Ab
open Go
set_option linter.unusedVariables false
set_option linter.unusedSimpArgs false
inductive PV where
 | int (k : IntKind) (n : Int)
 | bool (b : Bool)
 | str (s : List UInt8)
 | nilp | nilf | nili | nilm
 | slc (es : List PV)
 | nnil (es : List PV)
 | clip (es : List PV)
 | imm (cs : List PV)
 | mapv (ks vs : List PV)
 | func (fn : Fn) (cs : List PV)
 | agg (cs : List PV)
 | tup (cs : List PV)
def RowAt (X : Nat → Prop) (w : World) (b o : Nat) (vs : List Value) : Prop :=
 b < w.heap.size ∧ ¬ X b ∧ ∀ j u, vs[j]? = some u → w.cell? ⟨b, o + j, none⟩ = some u
def flat (vs : List Value) : List Value := vs.flatMap fun v => v.cells.toList
def oneAll (vs : List Value) : Prop := ∀ u ∈ vs, u.oneCell' = true
def SliceAt (X : Nat → Prop) (w : World) (a : Option Addr) (vs : List Value) : Prop :=
 vs = [] ∨ ∃ b o sz, a = some ⟨b, o, none⟩ ∧ (∀ v ∈ vs, v.cells.size = sz) ∧ oneAll (flat vs) ∧ RowAt X w b o (flat vs)
mutual
def PR (X : Nat → Prop) (w : World) : PV → Value → Prop
 | .int k n, v => v = .int k n
 | .bool b, v => v = .bool b
 | .str s, v => v = .string ⟨s.toArray⟩
 | .nilp, v => v = .pointer none
 | .nilf, v => v = .nilFunc
 | .nili, v => v = .nilIface
 | .nilm, v => v = .map none
 | .slc es, v => ∃ a cap vs, v = .slice a es.length cap ∧ es.length ≤ cap ∧ PRs X w es vs ∧ SliceAt X w a vs
 | .nnil es, v => ∃ a cap vs, v = .slice (some a) es.length cap ∧ es.length ≤ cap ∧ PRs X w es vs ∧ SliceAt X w (some a) vs
 | .clip es, v => ∃ a vs, v = .slice a es.length es.length ∧ PRs X w es vs ∧ SliceAt X w a vs
 | .imm cs, v => ∃ b o vs, v = .pointer (some ⟨b, o, none⟩) ∧ PRs X w cs vs ∧ oneAll vs ∧ RowAt X w b o vs
 | .mapv ks es, v => (v = .map none ∧ ks = [] ∧ es = []) ∨ ∃ r ms clock, v = .map (some r) ∧ r < w.heap.size ∧ ¬ X r ∧ w.heap[r]? = some (.map ms clock) ∧
   PRs X w ks (ms.toList.map (·.key)) ∧ PRs X w es (ms.toList.map (·.val))
 | .func fn cs, v => ∃ vs, v = .func fn #[] vs.toArray ∧ PRs X w cs vs
 | .agg cs, v => ∃ vs, v = .agg vs.toArray ∧ PRs X w cs vs ∧ oneAll vs
 | .tup cs, v => ∃ vs, v = .tuple vs.toArray ∧ PRs X w cs vs
def PRs (X : Nat → Prop) (w : World) : List PV → List Value → Prop
 | [], vs => vs = []
 | p :: ps, vs => ∃ v r, vs = v :: r ∧ PR X w p v ∧ PRs X w ps r
end
structure Keeps (X X' : Nat → Prop) (w w' : World) : Prop where
 size : w.heap.size ≤ w'.heap.size
 blk : ∀ b, b < w.heap.size → ¬ X b → w'.heap[b]? = w.heap[b]?
 prot : ∀ b, b < w.heap.size → ¬ X b → ¬ X' b
def tabNs : List Int := [0, 1, 28, 2, 29, 14, 24, 3, 30, 22, 20, 15, 25, 17, 4, 8, 31, 27, 13, 23, 21, 19, 16, 7, 26, 12, 18, 6, 11, 5, 10, 9]
def TabOk (P : Program) (X : Nat → Prop) (w : World) : Prop :=
 ∀ g, P.globalNamed "math/bits.deBruijn32tab" = some g → RowAt X w g 0 (tabNs.map (Value.int .u8))
theorem Keeps.refl (X : Nat → Prop) (w : World) : Keeps X X w w := ⟨Nat.le_refl _, fun _ _ _ => rfl, fun _ _ h => h⟩
theorem RowAt.keep {X X' w w' b o vs} (k : Keeps X X' w w') (h : RowAt X w b o vs) : RowAt X' w' b o vs := by
 obtain ⟨h1, h2, h3⟩ := h
 refine ⟨Nat.lt_of_lt_of_le h1 k.size, k.prot b h1 h2, fun j u hu => ?_⟩
 rw [World.cell?_of_block (w := w) (w' := w') (a := ⟨b, o + j, none⟩) (k.blk b h1 h2)]
 exact h3 j u hu
theorem TabOk.keep {P : Program} {X X' w w'} (k : Keeps X X' w w') (h : TabOk P X w) : TabOk P X' w' := fun g hg => (h g hg).keep k
mutual
theorem PR.keep {X X' w w'} (k : Keeps X X' w w') : ∀ (p : PV) (v : Value), PR X w p v → PR X' w' p v
 | .int _ _, _, h => h
 | .bool _, _, h => h
 | .str _, _, h => h
 | .nilp, _, h => h
 | .nilf, _, h => h
 | .nili, _, h => h
 | .nilm, _, h => h
 | .slc es, v, h => by
  obtain ⟨a, cap, vs, h1, hc, h2, h3⟩ := h
  refine ⟨a, cap, vs, h1, hc, PRs.keep k es vs h2, ?_⟩
  rcases h3 with h3 | ⟨b, o, sz, ha, hz, ho, hr⟩
  ·exact .inl h3
  ·exact .inr ⟨b, o, sz, ha, hz, ho, hr.keep k⟩
 | .nnil es, v, h => by
  obtain ⟨a, cap, vs, h1, hc, h2, h3⟩ := h
  refine ⟨a, cap, vs, h1, hc, PRs.keep k es vs h2, ?_⟩
  rcases h3 with h3 | ⟨b, o, sz, ha, hz, ho, hr⟩
  ·exact .inl h3
  ·exact .inr ⟨b, o, sz, ha, hz, ho, hr.keep k⟩
 | .clip es, v, h => by
  obtain ⟨a, vs, h1, h2, h3⟩ := h
  refine ⟨a, vs, h1, PRs.keep k es vs h2, ?_⟩
  rcases h3 with h3 | ⟨b, o, sz, ha, hz, ho, hr⟩
  ·exact .inl h3
  ·exact .inr ⟨b, o, sz, ha, hz, ho, hr.keep k⟩
 | .imm cs, v, h => by
  obtain ⟨b, o, vs, h1, h2, ho, h3⟩ := h
  exact ⟨b, o, vs, h1, PRs.keep k cs vs h2, ho, h3.keep k⟩
 | .mapv ks es, v, h => by
  rcases h with h | ⟨r, ms, clock, h1, h2, h3, h4, h5, h6⟩
  ·exact .inl h
  ·exact .inr ⟨r, ms, clock, h1, Nat.lt_of_lt_of_le h2 k.size, k.prot r h2 h3, by rw [k.blk r h2 h3]; exact h4, PRs.keep k ks _ h5, PRs.keep k es _ h6⟩
 | .func fn cs, v, h => by
  obtain ⟨vs, h1, h2⟩ := h
  exact ⟨vs, h1, PRs.keep k cs vs h2⟩
 | .agg cs, v, h => by
  obtain ⟨vs, h1, h2, h3⟩ := h
  exact ⟨vs, h1, PRs.keep k cs vs h2, h3⟩
 | .tup cs, v, h => by
  obtain ⟨vs, h1, h2⟩ := h
  exact ⟨vs, h1, PRs.keep k cs vs h2⟩
theorem PRs.keep {X X' w w'} (k : Keeps X X' w w') : ∀ (ps : List PV) (vs : List Value), PRs X w ps vs → PRs X' w' ps vs
 | [], _, h => h
 | p :: ps, vs, h => by
  obtain ⟨v, r, h1, h2, h3⟩ := h
  exact ⟨v, r, h1, PR.keep k p v h2, PRs.keep k ps r h3⟩
end
theorem PRs.length {X w} : ∀ {ps : List PV} {vs : List Value}, PRs X w ps vs → ps.length = vs.length
 | [], _, h => by simp only [PRs] at h; subst h; rfl
 | p :: ps, _, h => by
  simp only [PRs] at h
  obtain ⟨v, r, rfl, _, h3⟩ := h
  simp [PRs.length h3]
theorem PRs.get {X w} : ∀ {ps : List PV} {vs : List Value} {i : Nat} {p : PV}, PRs X w ps vs → ps[i]? = some p → ∃ v, vs[i]? = some v ∧ PR X w p v
 | [], _, i, p, _, hp => by simp at hp
 | q :: ps, _, i, p, h, hp => by
  simp only [PRs] at h
  obtain ⟨v, r, rfl, h2, h3⟩ := h
  cases i with
  | zero => simp at hp; subst hp; exact ⟨v, by simp, h2⟩
  | succ i => simp at hp; obtain ⟨u, hu, hr⟩ := PRs.get h3 hp; exact ⟨u, by simpa using hu, hr⟩
inductive AV where
 | any
 | p (x : PV)
 | nils
 | loc (l g i off : Nat)
 | own (l g off len : Nat)
 | mapo (l : Nat) (g : Nat)
 | func (fn : Fn) (cs : List AV)
 | agg (cs : List AV)
 | tup (cs : List AV)
inductive AO where
 | dead (g : Nat)
 | arr (e sz g : Nat) (es : List AV)
 | map (g : Nat) (ks vs : List AV)
def AO.gen : AO → Nat
 | .dead g => g
 | .arr _ _ g _ => g
 | .map g _ _ => g
def AO.alive : AO → Bool
 | .dead _ => false
 | _ => true
abbrev Inj := Nat → Option (Nat × Nat)
def Foot (D : Nat → Bool) (inj : Inj) (σ : Nat → AO) (b : Nat) : Prop :=
 ∃ l c o, σ l = o ∧ o.alive = true ∧ D l = false ∧ inj l = some (b, c)
abbrev F (inj : Inj) (σ : Nat → AO) (b : Nat) : Prop := Foot (fun _ => false) inj σ b
def LocR (inj : Inj) (σ : Nat → AO) (l g i off : Nat) (v : Value) : Prop :=
 (∃ a, v = .pointer (some a)) ∧ ∀ o, σ l = o → g ≤ o.gen ∧ (g = o.gen → ∀ e sz es, o = .arr e sz g es → ∃ b c, inj l = some (b, c) ∧ v = .pointer (some ⟨b, i * sz + off, none⟩))
def OwnR (inj : Inj) (σ : Nat → AO) (l g off len : Nat) (v : Value) : Prop :=
  (∃ a n c, v = .slice a n c) ∧ ∀ o, σ l = o → g ≤ o.gen ∧ (g = o.gen → ∀ e sz es, o = .arr e sz g es → off + len ≤ es.length ∧
    ((inj l = none ∧ v = .slice none 0 0 ∧ off = 0 ∧ len = 0) ∨
     ∃ b c a, inj l = some (b, c) ∧ v = .slice a len (c - off) ∧ off + len ≤ c ∧ ((off ≠ 0 ∧ off = c) ∨ a = some ⟨b, off * sz, none⟩)))
def MapR (inj : Inj) (σ : Nat → AO) (l g : Nat) (v : Value) : Prop :=
 (∃ r, v = .map r) ∧ ∀ o, σ l = o → g ≤ o.gen ∧ (g = o.gen → ∀ ks vs, o = .map g ks vs → ∃ b c, inj l = some (b, c) ∧ v = .map (some b))
mutual
def AR (X : Nat → Prop) (inj : Inj) (σ : Nat → AO) (w : World) : AV → Value → Prop
 | .any, _ => True
 | .p x, v => PR (fun b => X b ∨ F inj σ b) w x v
 | .nils, v => v = .slice none 0 0
 | .loc l g i off, v => LocR inj σ l g i off v
 | .own l g off len, v => OwnR inj σ l g off len v
 | .mapo l g, v => MapR inj σ l g v
 | .func fn cs, v => ∃ vs, v = .func fn #[] vs.toArray ∧ ARs X inj σ w cs vs
 | .agg cs, v => ∃ vs, v = .agg vs.toArray ∧ ARs X inj σ w cs vs ∧ oneAll vs
 | .tup cs, v => ∃ vs, v = .tuple vs.toArray ∧ ARs X inj σ w cs vs
def ARs (X : Nat → Prop) (inj : Inj) (σ : Nat → AO) (w : World) : List AV → List Value → Prop
 | [], vs => vs = []
 | p :: ps, vs => ∃ v r, vs = v :: r ∧ AR X inj σ w p v ∧ ARs X inj σ w ps r
end
theorem ARs.length {X inj σ w} : ∀ {ps : List AV} {vs : List Value}, ARs X inj σ w ps vs → ps.length = vs.length
 | [], _, h => by simp only [ARs] at h; subst h; rfl
 | p :: ps, _, h => by
  simp only [ARs] at h
  obtain ⟨v, r, rfl, _, h3⟩ := h
  simp [ARs.length h3]
theorem ARs.get {X inj σ w} : ∀ {ps : List AV} {vs : List Value} {i : Nat} {p : AV}, ARs X inj σ w ps vs → ps[i]? = some p → ∃ v, vs[i]? = some v ∧ AR X inj σ w p v
 | [], _, i, p, _, hp => by simp at hp
 | q :: ps, _, i, p, h, hp => by
  simp only [ARs] at h
  obtain ⟨v, r, rfl, h2, h3⟩ := h
  cases i with
  | zero => simp at hp; subst hp; exact ⟨v, by simp, h2⟩
  | succ i => simp at hp; obtain ⟨u, hu, hr⟩ := ARs.get h3 hp; exact ⟨u, by simpa using hu, hr⟩
def OEv (o o' : AO) (same : Prop) : Prop :=
 o.gen ≤ o'.gen ∧ (o'.alive = true → o.gen = o'.gen → same ∧
  ((∃ e sz es es', o = .arr e sz o.gen es ∧ o' = .arr e sz o.gen es' ∧ es.length = es'.length) ∨ (∃ ks vs ks' vs', o = .map o.gen ks vs ∧ o' = .map o.gen ks' vs')))
structure Ev (D : Prop) (X : Nat → Prop) (inj : Inj) (σ : Nat → AO) (w : World) (inj' : Inj) (σ' : Nat → AO) (w' : World) : Prop where
 os : w'.os = w.os
 tape : w'.tape = w.tape
 output : w'.output = w.output
 dr : D → w.drawn ≤ w'.drawn
 size : w.heap.size ≤ w'.heap.size
 fz : ∀ a, a.block < w.heap.size → w'.frozen? a = w.frozen? a
 blk : ∀ b, b < w.heap.size → ¬ F inj σ b → w'.heap[b]? = w.heap[b]?
 fp : ∀ b, F inj' σ' b → F inj σ b ∨ w.heap.size ≤ b
 objs : ∀ l, OEv (σ l) (σ' l) (inj' l = inj l)
theorem OEv.refl (o : AO) : OEv o o True := by
 refine ⟨Nat.le_refl _, fun h _ => ⟨trivial, ?_⟩⟩
 cases o with
 | dead g => simp [AO.alive] at h
 | arr e sz g es => exact .inl ⟨e, sz, es, es, rfl, rfl, rfl⟩
 | map g ks vs => exact .inr ⟨ks, vs, ks, vs, rfl, rfl⟩
theorem OEv.of {o o' : AO} {p q : Prop} (h : OEv o o' p) (hq : p → q) : OEv o o' q :=
 ⟨h.1, fun a b => ⟨hq (h.2 a b).1, (h.2 a b).2⟩⟩
variable {D : Prop}
theorem Ev.refl (X inj σ w) : Ev D X inj σ w inj σ w :=
 ⟨rfl, rfl, rfl, fun _ => Nat.le_refl _, Nat.le_refl _, fun _ _ => rfl, fun _ _ _ => rfl, fun _ h => .inl h, fun l => (OEv.refl _).of fun _ => rfl⟩
theorem Ev.weak {X inj σ w inj' σ' w'} (h : Ev True X inj σ w inj' σ' w') : Ev D X inj σ w inj' σ' w' := ⟨h.os, h.tape, h.output, fun _ => h.dr trivial, h.size, h.fz, h.blk, h.fp, h.objs⟩
theorem OEv.trans {a b c : AO} {p q r : Prop} (h1 : OEv a b p) (h2 : OEv b c q) (hr : p → q → r) : OEv a c r := by
 refine ⟨Nat.le_trans h1.1 h2.1, fun hc hg => ?_⟩
 have hab : a.gen = b.gen := by have := h1.1; have := h2.1; omega
 have hbc : b.gen = c.gen := by omega
 obtain ⟨hq, k2⟩ := h2.2 hc hbc
 have hb : b.alive = true := by
  rcases k2 with ⟨e, sz, es, es', e1, e2, _⟩ | ⟨ks, vs, ks', vs', e1, e2⟩ <;> rw [e1] <;> rfl
 obtain ⟨hp, k1⟩ := h1.2 hb hab
 refine ⟨hr hp hq, ?_⟩
 rcases k1 with ⟨e, sz, es, es', e1, e2, e3⟩ | ⟨ks, vs, ks', vs', e1, e2⟩
 ·rcases k2 with ⟨f, tz, fs, fs', f1, f2, f3⟩ | ⟨_, _, _, _, f1, _⟩
  ·rw [e2] at f1
   simp only [AO.gen, AO.arr.injEq] at f1
   obtain ⟨rfl, rfl, _, rfl⟩ := f1
   exact .inl ⟨e, sz, es, fs', e1, by rw [f2, ← hab], e3.trans f3⟩
  ·rw [e2] at f1; simp [AO.gen] at f1
 ·rcases k2 with ⟨f, tz, fs, fs', f1, f2, f3⟩ | ⟨gs, us, gs', us', f1, f2⟩
  ·rw [e2] at f1; simp [AO.gen] at f1
  ·exact .inr ⟨ks, vs, gs', us', e1, by rw [f2, ← hab]⟩
theorem Ev.trans {X inj σ w inj1 σ1 w1 inj2 σ2 w2} (a : Ev D X inj σ w inj1 σ1 w1) (b : Ev D X inj1 σ1 w1 inj2 σ2 w2) : Ev D X inj σ w inj2 σ2 w2 := by
 refine ⟨b.os.trans a.os, b.tape.trans a.tape, b.output.trans a.output, fun d => Nat.le_trans (a.dr d) (b.dr d), Nat.le_trans a.size b.size, fun x hx => (b.fz x (Nat.lt_of_lt_of_le hx a.size)).trans (a.fz x hx), ?_, ?_, ?_⟩
 ·intro x hx hf
  have h1 : ¬ F inj1 σ1 x := fun h => by
   rcases a.fp x h with h | h
   ·exact hf h
   ·omega
  rw [b.blk x (Nat.lt_of_lt_of_le hx a.size) h1, a.blk x hx hf]
 ·intro x hx
  rcases b.fp x hx with h | h
  ·exact a.fp x h
  ·exact .inr (Nat.le_trans a.size h)
 ·intro l
  exact (a.objs l).trans (b.objs l) fun p q => q.trans p
theorem Ev.keeps {X inj σ w inj' σ' w'} (h : Ev D X inj σ w inj' σ' w') (hx : ∀ b, X b → b < w.heap.size) : Keeps (fun b => X b ∨ F inj σ b) (fun b => X b ∨ F inj' σ' b) w w' :=
 ⟨h.size, fun b hb hn => h.blk b hb fun f => hn (.inr f), fun b hb hn hn' => by
  rcases hn' with hn' | hn'
  ·exact hn (.inl hn')
  ·rcases h.fp b hn' with h1 | h1
   ·exact hn (.inr h1)
   ·omega⟩
def supd (σ : Nat → AO) (l : Nat) (o : AO) : Nat → AO := fun k => if k = l then o else σ k
@[simp] theorem supd_same (σ l o) : supd σ l o l = o := by simp [supd]
theorem supd_ne (σ l o) {k : Nat} (h : k ≠ l) : supd σ l o k = σ k := by simp [supd, h]
theorem LocR.ev {X inj σ w inj' σ' w' l g i off v} (h : Ev D X inj σ w inj' σ' w') (r : LocR inj σ l g i off v) : LocR inj' σ' l g i off v := by
 obtain ⟨hs, r⟩ := r
 refine ⟨hs, fun o' ho' => ?_⟩
 have e1 := h.objs l
 rw [ho'] at e1
 have r1 := r _ rfl
 refine ⟨Nat.le_trans r1.1 e1.1, fun hg e sz es ho => ?_⟩
 have hgo : g = (σ l).gen := by have := r1.1; have := e1.1; omega
 obtain ⟨hi, k⟩ := e1.2 (by rw [ho]; rfl) (by omega)
 rw [hi]
 rcases k with ⟨e', sz', es', es'', a1, a2, _⟩ | ⟨_, _, _, _, _, a2⟩
 ·rw [ho] at a2
  simp only [AO.arr.injEq] at a2
  obtain ⟨rfl, rfl, _, _⟩ := a2
  exact r1.2 hgo e sz es' (by rw [hgo]; exact a1)
 ·rw [ho] at a2; cases a2
theorem OwnR.ev {X inj σ w inj' σ' w' l g i off v} (h : Ev D X inj σ w inj' σ' w') (r : OwnR inj σ l g i off v) : OwnR inj' σ' l g i off v := by
 obtain ⟨hs, r⟩ := r
 refine ⟨hs, fun o' ho' => ?_⟩
 have e1 := h.objs l
 rw [ho'] at e1
 have r1 := r _ rfl
 refine ⟨Nat.le_trans r1.1 e1.1, fun hg e sz es ho => ?_⟩
 have hgo : g = (σ l).gen := by have := r1.1; have := e1.1; omega
 obtain ⟨hi, k⟩ := e1.2 (by rw [ho]; rfl) (by omega)
 rw [hi]
 rcases k with ⟨e', sz', es', es'', a1, a2, a3⟩ | ⟨_, _, _, _, _, a2⟩
 ·rw [ho] at a2
  simp only [AO.arr.injEq] at a2
  obtain ⟨rfl, rfl, _, rfl⟩ := a2
  rw [← a3]
  exact r1.2 hgo e sz es' (by rw [hgo]; exact a1)
 ·rw [ho] at a2; cases a2
theorem MapR.ev {X inj σ w inj' σ' w' l g v} (h : Ev D X inj σ w inj' σ' w') (r : MapR inj σ l g v) : MapR inj' σ' l g v := by
 obtain ⟨hs, r⟩ := r
 refine ⟨hs, fun o' ho' => ?_⟩
 have e1 := h.objs l
 rw [ho'] at e1
 have r1 := r _ rfl
 refine ⟨Nat.le_trans r1.1 e1.1, fun hg ks vs ho => ?_⟩
 have hgo : g = (σ l).gen := by have := r1.1; have := e1.1; omega
 obtain ⟨hi, k⟩ := e1.2 (by rw [ho]; rfl) (by omega)
 rw [hi]
 rcases k with ⟨e', sz', es', es'', a1, a2, a3⟩ | ⟨ks', vs', ks'', vs'', a1, a2⟩
 ·rw [ho] at a2; cases a2
 ·exact r1.2 hgo ks' vs' (by rw [hgo]; exact a1)
mutual
theorem AR.ev {X inj σ w inj' σ' w'} (h : Ev D X inj σ w inj' σ' w') (hx : ∀ b, X b → b < w.heap.size) : ∀ (p : AV) (v : Value), AR X inj σ w p v → AR X inj' σ' w' p v
 | .any, _, _ => trivial
 | .p x, v, r => PR.keep (h.keeps hx) x v r
 | .nils, _, r => r
 | .loc l g i off, _, r => LocR.ev h r
 | .own l g off len, _, r => OwnR.ev h r
 | .mapo l g, _, r => MapR.ev h r
 | .func fn cs, v, r => by
  obtain ⟨vs, h1, h2⟩ := r
  exact ⟨vs, h1, ARs.ev h hx cs vs h2⟩
 | .agg cs, v, r => by
  obtain ⟨vs, h1, h2, h3⟩ := r
  exact ⟨vs, h1, ARs.ev h hx cs vs h2, h3⟩
 | .tup cs, v, r => by
  obtain ⟨vs, h1, h2⟩ := r
  exact ⟨vs, h1, ARs.ev h hx cs vs h2⟩
theorem ARs.ev {X inj σ w inj' σ' w'} (h : Ev D X inj σ w inj' σ' w') (hx : ∀ b, X b → b < w.heap.size) : ∀ (ps : List AV) (vs : List Value), ARs X inj σ w ps vs → ARs X inj' σ' w' ps vs
 | [], _, r => r
 | p :: ps, vs, r => by
  obtain ⟨v, rs, h1, h2, h3⟩ := r
  exact ⟨v, rs, h1, AR.ev h hx p v h2, ARs.ev h hx ps rs h3⟩
end
def OR (X : Nat → Prop) (inj : Inj) (σ : Nat → AO) (w : World) (l : Nat) : AO → Prop
 | .dead _ => True
 | .arr e sz _ es => ∃ vs, ARs X inj σ w es vs ∧ (∀ v ∈ vs, v.cells.size = sz) ∧ oneAll (flat vs) ∧
   ((inj l = none ∧ es = []) ∨ ∃ b c cur, inj l = some (b, c) ∧ ¬ X b ∧ w.heap[b]? = some (.cells cur e (0, 0)) ∧ es.length ≤ c ∧ c ≤ maxLen ∧ cur.size = c * sz ∧
    cur.toList.take (es.length * sz) = flat vs)
 | .map _ ks vs => ∃ b c ms clock, inj l = some (b, c) ∧ ¬ X b ∧ w.heap[b]? = some (.map ms clock) ∧
   ARs X inj σ w ks (ms.toList.map (·.key)) ∧ ARs X inj σ w vs (ms.toList.map (·.val))
structure HR (X : Nat → Prop) (inj : Inj) (σ : Nat → AO) (w : World) : Prop where
 obj : ∀ l o, σ l = o → OR X inj σ w l o
 inj1 : ∀ l l' o o' b c c', σ l = o → σ l' = o' → o.alive = true → o'.alive = true → inj l = some (b, c) → inj l' = some (b, c') → l = l'
 xlt : ∀ b, X b → b < w.heap.size
theorem HR.flt {X inj σ w} (h : HR X inj σ w) {D b} (hf : Foot D inj σ b) : b < w.heap.size ∧ ¬ X b := by
 obtain ⟨l, c, o, h1, h2, _, h3⟩ := hf
 have := h.obj l o h1
 cases o with
 | dead g => simp [AO.alive] at h2
 | arr e sz g es =>
  obtain ⟨vs, _, _, _, h4 | ⟨b', c', cur, h5, h6, h7, _⟩⟩ := this
  ·rw [h3] at h4; cases h4.1
  ·rw [h3] at h5; cases h5
   exact ⟨(Array.getElem?_eq_some_iff.1 h7).1, h6⟩
 | map g ks vs =>
  obtain ⟨b', c', ms, clock, h5, h6, h7, _⟩ := this
  rw [h3] at h5; cases h5
  exact ⟨(Array.getElem?_eq_some_iff.1 h7).1, h6⟩
theorem HR.update {X inj σ w w' l o o' x} (h : HR X inj σ w) (hl : σ l = o)
  (hos : w'.os = w.os) (htape : w'.tape = w.tape) (hout : w'.output = w.output) (hdr : D → w.drawn ≤ w'.drawn) (hsz : w.heap.size ≤ w'.heap.size)
  (hfz : ∀ a, a.block < w.heap.size → w'.frozen? a = w.frozen? a)
  (hblk : ∀ b, b < w.heap.size → (o.alive = true → ∀ c, inj l ≠ some (b, c)) → w'.heap[b]? = w.heap[b]?)
  (hx : ∀ b c, x = some (b, c) → w.heap.size ≤ b ∨ (o.alive = true ∧ ∃ c', inj l = some (b, c')))
  (hev : OEv o o' (x = inj l)) :
  Ev D X inj σ w (fun k => if k = l then x else inj k) (supd σ l o') w' ∧
  (OR X (fun k => if k = l then x else inj k) (supd σ l o') w' l o' → HR X (fun k => if k = l then x else inj k) (supd σ l o') w') := by
 have hev' : Ev D X inj σ w (fun k => if k = l then x else inj k) (supd σ l o') w' := by
  refine ⟨hos, htape, hout, hdr, hsz, hfz, ?_, ?_, ?_⟩
  ·intro b hb hf
   exact hblk b hb fun ha c hc => hf ⟨l, c, o, hl, ha, rfl, hc⟩
  ·rintro b ⟨k, c, ok, hk, ha, _, hi⟩
   by_cases hkl : k = l
   ·subst hkl
    simp only [if_true] at hi
    rcases hx b c hi with h1 | ⟨h1, c', h2⟩
    ·exact .inr h1
    ·exact .inl ⟨k, c', o, hl, h1, rfl, h2⟩
   ·simp only [if_neg hkl] at hi
    rw [supd_ne _ _ _ hkl] at hk
    exact .inl ⟨k, c, ok, hk, ha, rfl, hi⟩
  ·intro k
   by_cases hkl : k = l
   ·subst hkl
    rw [hl]
    simpa using hev
   ·rw [supd_ne _ _ _ hkl]
    exact (OEv.refl _).of fun _ => if_neg hkl
 refine ⟨hev', fun hor => ⟨?_, ?_, fun b hb => Nat.lt_of_lt_of_le (h.xlt b hb) hsz⟩⟩
 ·intro k ok hk
  by_cases hkl : k = l
  ·subst hkl
   rw [supd_same] at hk
   subst hk
   exact hor
  ·rw [supd_ne _ _ _ hkl] at hk
   have hk0 := h.obj k ok hk
   have hne : ∀ b c, ok.alive = true → inj k = some (b, c) → w'.heap[b]? = w.heap[b]? := fun b c ha hi =>
    hblk b (h.flt (D := fun _ => false) ⟨k, c, ok, hk, ha, rfl, hi⟩).1 fun ha' c' hc' => hkl (h.inj1 k l ok o b c c' hk hl ha ha' hi hc')
   cases ok with
   | dead g => trivial
   | arr e sz g es =>
    obtain ⟨vs, h1, h2, h3, h4⟩ := hk0
    refine ⟨vs, ARs.ev hev' h.xlt es vs h1, h2, h3, ?_⟩
    simp only [if_neg hkl]
    rcases h4 with h4 | ⟨b, c, cur, h5, h6, h7, h8⟩
    ·exact .inl h4
    ·exact .inr ⟨b, c, cur, h5, h6, by rw [hne b c rfl h5]; exact h7, h8⟩
   | map g ks vs =>
    obtain ⟨b, c, ms, clock, h5, h6, h7, h8, h9⟩ := hk0
    exact ⟨b, c, ms, clock, by simp only [if_neg hkl]; exact h5, h6, by rw [hne b c rfl h5]; exact h7, ARs.ev hev' h.xlt ks _ h8, ARs.ev hev' h.xlt vs _ h9⟩
 ·intro k k' ok ok' b c c' hk hk' ha ha' hi hi'
  have fresh : ∀ m om cm, m ≠ l → σ m = om → om.alive = true → inj m = some (b, cm) → x = some (b, c) ∨ x = some (b, c') → False := by
   intro m om cm hml hm ham him hxx
   have hlt := (h.flt (D := fun _ => false) ⟨m, cm, om, hm, ham, rfl, him⟩).1
   have : w.heap.size ≤ b ∨ (o.alive = true ∧ ∃ c', inj l = some (b, c')) := by rcases hxx with e | e <;> exact hx _ _ e
   rcases this with h1 | ⟨h1, c1, h2⟩
   ·omega
   ·exact hml (h.inj1 m l om o b cm c1 hm hl ham h1 him h2)
  by_cases h1 : k = l <;> by_cases h2 : k' = l
  ·rw [h1, h2]
  ·simp only [if_pos h1] at hi
   simp only [if_neg h2] at hi'
   rw [supd_ne _ _ _ h2] at hk'
   exact (fresh k' ok' c' h2 hk' ha' hi' (.inl hi)).elim
  ·simp only [if_neg h1] at hi
   simp only [if_pos h2] at hi'
   rw [supd_ne _ _ _ h1] at hk
   exact (fresh k ok c h1 hk ha hi (.inr hi')).elim
  ·simp only [if_neg h1] at hi
   simp only [if_neg h2] at hi'
   rw [supd_ne _ _ _ h1] at hk
   rw [supd_ne _ _ _ h2] at hk'
   exact h.inj1 k k' ok ok' b c c' hk hk' ha ha' hi hi'
end Go.Ab
namespace Go.Ab
open Go
set_option linter.unusedVariables false
set_option linter.unusedSimpArgs false
inductive L (α : Type) where
 | ret (a : α)
 | look (l : Nat) (k : AO → L α)
 | fail
def L.bind {α β : Type} : L α → (α → L β) → L β
 | .ret a, f => f a
 | .look l k, f => .look l fun o => (k o).bind f
 | .fail, _ => .fail
instance : Monad L where
 pure := L.ret
 bind := L.bind
def L.run {α : Type} : L α → (Nat → AO) → Option α
 | .ret a, _ => some a
 | .look l k, σ => (k (σ l)).run σ
 | .fail, _ => none
def L.reads {α : Type} : L α → (Nat → AO) → List Nat
 | .ret _, _ => []
 | .look l k, σ => l :: (k (σ l)).reads σ
 | .fail, _ => []
@[simp] theorem L.run_ret {α : Type} (a : α) (σ) : (L.ret a).run σ = some a := rfl
@[simp] theorem L.run_pure {α : Type} (a : α) (σ) : (pure a : L α).run σ = some a := rfl
@[simp] theorem L.run_fail {α : Type} (σ) : (L.fail : L α).run σ = none := rfl
theorem L.run_look {α : Type} (l k σ) : (L.look l k : L α).run σ = (k (σ l)).run σ := rfl
theorem L.run_bind {α β : Type} (m : L α) (f : α → L β) (σ) : (m >>= f).run σ = (m.run σ).bind fun a => (f a).run σ := by
 show (m.bind f).run σ = _
 induction m with
 | ret a => rfl
 | look l k ih => exact ih (σ l)
 | fail => rfl
theorem L.frame {α : Type} {σ τ : Nat → AO} (m : L α) {r} (h : m.run σ = some r) (he : ∀ l ∈ m.reads σ, τ l = σ l) : m.run τ = some r ∧ m.reads τ = m.reads σ := by
 induction m with
 | ret a => exact ⟨h, rfl⟩
 | look l k ih =>
  simp only [L.run] at h
  have hl : τ l = σ l := he l (by simp [L.reads])
  have := ih (σ l) h fun j hj => he j (by simp [L.reads, hj])
  simp [L.run, L.reads, hl, this]
 | fail => cases h
def PV.cells : PV → List PV
 | .agg cs => cs
 | v => [v]
def PV.isAgg : PV → Bool
 | .agg _ => true
 | _ => false
def PV.isTup : PV → Bool
 | .tup _ => true
 | _ => false
def AV.cells : AV → List AV
 | .p x => x.cells.map .p
 | .agg cs => cs
 | v => [v]
def AV.known : AV → Bool
 | .any | .tup _ => false
 | .p x => !x.isTup
 | _ => true
def AV.isAgg : AV → Bool
 | .agg _ => true
 | .p x => x.isAgg
 | _ => false
def AV.one (v : AV) : Bool := v.known && !v.isAgg
def allP : List AV → Option (List PV)
 | [] => some []
 | .p x :: r => match allP r with | some xs => some (x :: xs) | none => none
 | _ :: _ => none
def mkAgg (cs : List AV) : AV := match allP cs with | some xs => .p (.agg xs) | none => .agg cs
def mkTup (cs : List AV) : AV := match allP cs with | some xs => .p (.tup xs) | none => .tup cs
def mkFunc (fn : Fn) (cs : List AV) : AV := match allP cs with | some xs => .p (.func fn xs) | none => .func fn cs
def ofV1 : Value → AV
 | .bool b => .p (.bool b)
 | .int k n => .p (.int k n)
 | .string s => .p (.str s.data.toList)
 | .pointer none => .p .nilp
 | .slice none 0 0 => .nils
 | .map none => .p (.mapv [] [])
 | .nilFunc => .p .nilf
 | .nilIface => .p .nili
 | _ => .any
def ofV : Value → AV
 | .agg cs => if (cs.toList.all fun v => (ofV1 v).one) then mkAgg (cs.toList.map ofV1) else .any
 | v => ofV1 v
abbrev Env := List (Nat × AV)
def Env.get : Env → Nat → AV
 | [], _ => .any
 | (k, v) :: r, t => if k = t then v else Env.get r t
def ev (env : Env) : Operand → AV
 | .tmp t => env.get t
 | .const v => ofV v
 | .func f => .p (.func (.func f) [])
 | .global _ => .any
def isAggT (P : Program) (t : TypeId) : Option Bool := match P.underlying t with | some (.struct _) | some (.array _ _) => some true | some _ => some false | none => none
def viewAll (f : AV → L PV) : List AV → L (List PV)
 | [] => .ret []
 | c :: cs => (f c).bind fun x => (viewAll f cs).bind fun xs => .ret (x :: xs)
def view (D : Nat → Bool) : Nat → AV → L PV
 | 0, _ => .fail
 | n + 1, .p x => .ret x
 | n + 1, .any => .fail
 | n + 1, .nils => .ret (.slc [])
 | n + 1, .own l g off len => if D l then .look l fun o => match o with
   | .arr _ _ g' es => if g = g' ∧ off + len ≤ es.length then (viewAll (view D n) ((es.drop off).take len)).bind fun xs => .ret (.slc xs) else .fail
   | _ => .fail
  else .fail
 | n + 1, .loc l g i off => if D l then .look l fun o => match o with
   | .arr _ _ g' es => if g = g' then (match es[i]? with
    | some x => (viewAll (view D n) (x.cells.drop off)).bind fun ys => .ret (.imm ys)
    | none => .fail) else .fail
   | _ => .fail
  else .fail
 | n + 1, .mapo l g => if D l then .look l fun o => match o with
   | .map g' ks vs => if g = g' then (viewAll (view D n) ks).bind fun xs => (viewAll (view D n) vs).bind fun ys => .ret (.mapv xs ys) else .fail
   | _ => .fail
  else .fail
 | n + 1, .func fn cs => (viewAll (view D n) cs).bind fun xs => .ret (.func fn xs)
 | n + 1, .agg cs => (viewAll (view D n) cs).bind fun xs => .ret (.agg xs)
 | n + 1, .tup cs => (viewAll (view D n) cs).bind fun xs => .ret (.tup xs)
theorem viewAll_p (D : Nat → Bool) (n : Nat) (xs : List PV) : viewAll (view D (n + 1)) (xs.map .p) = .ret xs := by
 induction xs with
 | nil => rfl
 | cons x xs ih => simp only [List.map_cons, viewAll, view, ih, L.bind]
theorem L.run_bind' {α β : Type} (m : L α) (f : α → L β) (σ) : (m.bind f).run σ = (m.run σ).bind fun a => (f a).run σ := L.run_bind m f σ
theorem flat_cons (v : Value) (vs : List Value) : flat (v :: vs) = v.cells.toList ++ flat vs := rfl
theorem flat_append (a b : List Value) : flat (a ++ b) = flat a ++ flat b := by simp [flat]
theorem flat_length {sz : Nat} : ∀ {vs : List Value}, (∀ v ∈ vs, v.cells.size = sz) → (flat vs).length = vs.length * sz
 | [], _ => by simp [flat]
 | v :: vs, h => by
  rw [flat_cons, List.length_append, flat_length (fun u hu => h u (by simp [hu])), List.length_cons, Nat.add_mul]
  have := h v (by simp)
  simp only [Array.length_toList, this]; omega
theorem flat_drop {sz : Nat} : ∀ {vs : List Value} (k : Nat), (∀ v ∈ vs, v.cells.size = sz) → flat (vs.drop k) = (flat vs).drop (k * sz)
 | [], k, _ => by simp [flat]
 | v :: vs, 0, _ => by simp
 | v :: vs, k + 1, h => by
  rw [List.drop_succ_cons, flat_drop k (fun u hu => h u (by simp [hu])), flat_cons, Nat.add_mul, Nat.one_mul, Nat.add_comm (k * sz) sz]
  have := h v (by simp)
  rw [← List.drop_drop, List.drop_append_of_le_length (by rw [Array.length_toList, this]; exact Nat.le_refl _), List.drop_of_length_le (l := v.cells.toList) (i := sz) (by rw [Array.length_toList, this]; exact Nat.le_refl _), List.nil_append]
theorem flat_take {sz : Nat} : ∀ {vs : List Value} (k : Nat), (∀ v ∈ vs, v.cells.size = sz) → flat (vs.take k) = (flat vs).take (k * sz)
 | [], k, _ => by simp [flat]
 | v :: vs, 0, _ => by simp [flat]
 | v :: vs, k + 1, h => by
  rw [List.take_succ_cons, flat_cons, flat_take k (fun u hu => h u (by simp [hu])), flat_cons, Nat.add_mul, Nat.one_mul, Nat.add_comm (k * sz) sz]
  have := h v (by simp)
  rw [List.take_append]
  simp only [Array.length_toList, this, Nat.add_sub_cancel_left]
  rw [List.take_of_length_le (l := v.cells.toList) (by rw [Array.length_toList, this]; omega)]
theorem ARs.drop {X inj σ w} : ∀ {ps : List AV} {vs : List Value} (k : Nat), ARs X inj σ w ps vs → ARs X inj σ w (ps.drop k) (vs.drop k)
 | [], _, k, h => by simp only [ARs] at h; subst h; simp [ARs]
 | p :: ps, _, 0, h => h
 | p :: ps, _, k + 1, h => by
  simp only [ARs] at h
  obtain ⟨v, r, rfl, h2, h3⟩ := h
  simpa using ARs.drop k h3
theorem ARs.take {X inj σ w} : ∀ {ps : List AV} {vs : List Value} (k : Nat), ARs X inj σ w ps vs → ARs X inj σ w (ps.take k) (vs.take k)
 | [], _, k, h => by simp only [ARs] at h; subst h; simp [ARs]
 | p :: ps, _, 0, h => by simp [ARs]
 | p :: ps, _, k + 1, h => by
  simp only [ARs] at h
  obtain ⟨v, r, rfl, h2, h3⟩ := h
  exact ⟨v, r.take k, by simp, h2, ARs.take k h3⟩
theorem PRs.drop {X w} : ∀ {ps : List PV} {vs : List Value} (k : Nat), PRs X w ps vs → PRs X w (ps.drop k) (vs.drop k)
 | [], _, k, h => by simp only [PRs] at h; subst h; simp [PRs]
 | p :: ps, _, 0, h => h
 | p :: ps, _, k + 1, h => by
  simp only [PRs] at h
  obtain ⟨v, r, rfl, h2, h3⟩ := h
  simpa using PRs.drop k h3
theorem PRs.take {X w} : ∀ {ps : List PV} {vs : List Value} (k : Nat), PRs X w ps vs → PRs X w (ps.take k) (vs.take k)
 | [], _, k, h => by simp only [PRs] at h; subst h; simp [PRs]
 | p :: ps, _, 0, h => by simp [PRs]
 | p :: ps, _, k + 1, h => by
  simp only [PRs] at h
  obtain ⟨v, r, rfl, h2, h3⟩ := h
  exact ⟨v, r.take k, by simp, h2, PRs.take k h3⟩
theorem ARs_map_p {X inj σ w} : ∀ {cs : List PV} {vs : List Value}, ARs X inj σ w (cs.map .p) vs ↔ PRs (fun b => X b ∨ F inj σ b) w cs vs
 | [], _ => by simp [ARs, PRs]
 | c :: cs, _ => by simp [ARs, PRs, AR, ARs_map_p]
theorem PR.cells_of {X w} : ∀ {x : PV} {v : Value}, PR X w x v → PRs X w x.cells v.cells.toList
 | .agg cs, _, h => by obtain ⟨vs, rfl, h2, _⟩ := h; simpa [PV.cells, Value.cells] using h2
 | .int _ _, _, h => by simp only [PR] at h; subst h; simp [PV.cells, Value.cells, PRs, PR]
 | .bool _, _, h => by simp only [PR] at h; subst h; simp [PV.cells, Value.cells, PRs, PR]
 | .str _, _, h => by simp only [PR] at h; subst h; simp [PV.cells, Value.cells, PRs, PR]
 | .nilp, _, h => by simp only [PR] at h; subst h; simp [PV.cells, Value.cells, PRs, PR]
 | .nilf, _, h => by simp only [PR] at h; subst h; simp [PV.cells, Value.cells, PRs, PR]
 | .nili, _, h => by simp only [PR] at h; subst h; simp [PV.cells, Value.cells, PRs, PR]
 | .nilm, _, h => by simp only [PR] at h; subst h; simp [PV.cells, Value.cells, PRs, PR]
 | .slc es, _, h => by have h' := h; simp only [PR] at h; obtain ⟨a, cap, vs, rfl, _⟩ := h; simpa [PV.cells, Value.cells, PRs] using h'
 | .nnil es, _, h => by have h' := h; simp only [PR] at h; obtain ⟨a, cap, vs, rfl, _⟩ := h; simpa [PV.cells, Value.cells, PRs] using h'
 | .clip es, _, h => by have h' := h; simp only [PR] at h; obtain ⟨a, vs, rfl, _⟩ := h; simpa [PV.cells, Value.cells, PRs] using h'
 | .imm cs, _, h => by have h' := h; simp only [PR] at h; obtain ⟨b, o, vs, rfl, _⟩ := h; simpa [PV.cells, Value.cells, PRs] using h'
 | .mapv ks es, _, h => by have h' := h; simp only [PR] at h; rcases h with ⟨rfl, _⟩ | ⟨r, ms, ck, rfl, _⟩ <;> simpa [PV.cells, Value.cells, PRs] using h'
 | .func fn cs, _, h => by have h' := h; simp only [PR] at h; obtain ⟨vs, rfl, _⟩ := h; simpa [PV.cells, Value.cells, PRs] using h'
 | .tup cs, _, h => by have h' := h; simp only [PR] at h; obtain ⟨vs, rfl, _⟩ := h; simpa [PV.cells, Value.cells, PRs] using h'
theorem AR.cells_of {X inj σ w} : ∀ {x : AV} {v : Value}, x.known = true → AR X inj σ w x v → ARs X inj σ w x.cells v.cells.toList ∧ oneAll v.cells.toList
 | .any, _, h, _ => by cases h
 | .p x, v, hk, h => by
  refine ⟨ARs_map_p.2 (PR.cells_of h), ?_⟩
  cases x with
  | agg cs => obtain ⟨vs, rfl, _, h3⟩ := h; simpa [Value.cells] using h3
  | tup cs => cases hk
  | slc es => simp only [AR, PR] at h; obtain ⟨a, cap, vs, rfl, _⟩ := h; simp [Value.cells, oneAll, Value.oneCell']
  | nnil es => simp only [AR, PR] at h; obtain ⟨a, cap, vs, rfl, _⟩ := h; simp [Value.cells, oneAll, Value.oneCell']
  | clip es => simp only [AR, PR] at h; obtain ⟨a, vs, rfl, _⟩ := h; simp [Value.cells, oneAll, Value.oneCell']
  | imm cs => simp only [AR, PR] at h; obtain ⟨b, o, vs, rfl, _⟩ := h; simp [Value.cells, oneAll, Value.oneCell']
  | mapv ks es => simp only [AR, PR] at h; rcases h with ⟨rfl, _⟩ | ⟨r, ms, ck, rfl, _⟩ <;> simp [Value.cells, oneAll, Value.oneCell']
  | func fn cs => simp only [AR, PR] at h; obtain ⟨vs, rfl, _⟩ := h; simp [Value.cells, oneAll, Value.oneCell']
  | _ => simp only [AR, PR] at h; subst h; simp [Value.cells, oneAll, Value.oneCell']
 | .nils, _, _, h => by simp only [AR] at h; subst h; simp [AV.cells, Value.cells, ARs, AR, oneAll, Value.oneCell']
 | .agg cs, _, _, h => by obtain ⟨vs, rfl, h2, h3⟩ := h; exact ⟨by simpa [AV.cells, Value.cells] using h2, by simpa [Value.cells] using h3⟩
 | .tup cs, _, h, _ => by cases h
 | .func fn cs, _, _, h => by
  have h' := h
  simp only [AR] at h; obtain ⟨vs, rfl, _⟩ := h
  exact ⟨by simpa [AV.cells, Value.cells, ARs] using h', by simp [Value.cells, oneAll, Value.oneCell']⟩
 | .loc l g i off, v, _, h => by
  have h' := h
  simp only [AR] at h; obtain ⟨⟨a, rfl⟩, _⟩ := h
  exact ⟨by simpa [AV.cells, Value.cells, ARs] using h', by simp [Value.cells, oneAll, Value.oneCell']⟩
 | .own l g i off, v, _, h => by
  have h' := h
  simp only [AR] at h; obtain ⟨⟨a, n, c, rfl⟩, _⟩ := h
  exact ⟨by simpa [AV.cells, Value.cells, ARs] using h', by simp [Value.cells, oneAll, Value.oneCell']⟩
 | .mapo l g, v, _, h => by
  have h' := h
  simp only [AR] at h; obtain ⟨⟨r, rfl⟩, _⟩ := h
  exact ⟨by simpa [AV.cells, Value.cells, ARs] using h', by simp [Value.cells, oneAll, Value.oneCell']⟩
theorem Foot.mono {D D' : Nat → Bool} {inj σ b} (hd : ∀ l, D l = false → D' l = false) (h : Foot D inj σ b) : Foot D' inj σ b := by
 obtain ⟨l, c, o, h1, h2, h3, h4⟩ := h
 exact ⟨l, c, o, h1, h2, hd l h3, h4⟩
theorem viewAll_sound {X inj σ w D} {f : AV → L PV}
  (hf : ∀ v val x, AR X inj σ w v val → (f v).run σ = some x → PR (fun b => X b ∨ Foot D inj σ b) w x val) :
  ∀ (cs : List AV) (vs : List Value) (xs : List PV), ARs X inj σ w cs vs → (viewAll f cs).run σ = some xs → PRs (fun b => X b ∨ Foot D inj σ b) w xs vs
 | [], _, xs, h, hr => by simp only [viewAll, L.run_ret, Option.some.injEq] at hr; subst hr; exact h
 | c :: cs, _, xs, h, hr => by
  obtain ⟨v, r, rfl, h2, h3⟩ := h
  simp only [viewAll, L.run_bind', L.run_ret] at hr
  cases hc : (f c).run σ with
  | none => rw [hc] at hr; cases hr
  | some x =>
   cases hcs : (viewAll f cs).run σ with
   | none => rw [hc, hcs] at hr; cases hr
   | some ys =>
    rw [hc, hcs] at hr
    simp only [Option.bind_some, Option.some.injEq] at hr
    subst hr
    exact ⟨v, r, rfl, hf c v x h2 hc, viewAll_sound hf cs r ys h3 hcs⟩
theorem cell_cur {w : World} {b j : Nat} {cur : Array Value} {e : TypeId} {u : Value} (h : w.heap[b]? = some (.cells cur e (0, 0))) (hu : cur.toList[j]? = some u) : w.cell? ⟨b, j, none⟩ = some u := by
 rw [cell_of_row w b j cur e (0, 0) h]; simpa using hu
theorem take_get {α : Type} {l m : List α} {k j : Nat} {u : α} (h : l.take k = m) (hu : m[j]? = some u) : l[j]? = some u := by
 subst h
 rw [List.getElem?_take] at hu
 split at hu
 ·exact hu
 ·cases hu
theorem view_sound {X inj σ w} (h : HR X inj σ w) (D : Nat → Bool) : ∀ (n : Nat) (v : AV) (val : Value) (x : PV), AR X inj σ w v val → (view D n v).run σ = some x →
  PR (fun b => X b ∨ Foot D inj σ b) w x val
 | 0, _, _, _, _, hr => by simp [view] at hr
 | n + 1, .any, _, _, _, hr => by simp [view] at hr
 | n + 1, .p y, val, x, ha, hr => by
  simp only [view, L.run_ret, Option.some.injEq] at hr
  subst hr
  refine PR.keep ⟨Nat.le_refl _, fun _ _ _ => rfl, fun b _ hn hn' => hn ?_⟩ y val ha
  rcases hn' with h1 | h1
  ·exact .inl h1
  ·exact .inr (h1.mono fun _ _ => rfl)
 | n + 1, .nils, val, x, ha, hr => by
  simp only [view, L.run_ret, Option.some.injEq] at hr
  subst hr
  simp only [AR] at ha
  exact ⟨none, 0, [], by simpa using ha, by simp, rfl, .inl rfl⟩
 | n + 1, .func fn cs, val, x, ha, hr => by
  simp only [view, L.run_bind', L.run_ret] at hr
  obtain ⟨vs, h1, h2⟩ := ha
  cases hc : (viewAll (view D n) cs).run σ with
  | none => rw [hc] at hr; cases hr
  | some xs =>
   rw [hc] at hr
   simp only [Option.bind_some, Option.some.injEq] at hr
   subst hr
   exact ⟨vs, h1, viewAll_sound (view_sound h D n) cs vs xs h2 hc⟩
 | n + 1, .agg cs, val, x, ha, hr => by
  simp only [view, L.run_bind', L.run_ret] at hr
  obtain ⟨vs, h1, h2, h3⟩ := ha
  cases hc : (viewAll (view D n) cs).run σ with
  | none => rw [hc] at hr; cases hr
  | some xs =>
   rw [hc] at hr
   simp only [Option.bind_some, Option.some.injEq] at hr
   subst hr
   exact ⟨vs, h1, viewAll_sound (view_sound h D n) cs vs xs h2 hc, h3⟩
 | n + 1, .tup cs, val, x, ha, hr => by
  simp only [view, L.run_bind', L.run_ret] at hr
  obtain ⟨vs, h1, h2⟩ := ha
  cases hc : (viewAll (view D n) cs).run σ with
  | none => rw [hc] at hr; cases hr
  | some xs =>
   rw [hc] at hr
   simp only [Option.bind_some, Option.some.injEq] at hr
   subst hr
   exact ⟨vs, h1, viewAll_sound (view_sound h D n) cs vs xs h2 hc⟩
 | n + 1, .own l g off len, val, x, ha, hr => by
  simp only [view] at hr
  split at hr
  case isFalse => simp at hr
  rename_i hD
  simp only [L.run] at hr
  split at hr
  case h_2 => simp at hr
  rename_i e sz g' es ho
  split at hr
  case isFalse => simp at hr
  rename_i hg
  obtain ⟨rfl, hlen⟩ := hg
  simp only [L.run_bind', L.run_ret] at hr
  cases hc : (viewAll (view D n) ((es.drop off).take len)).run σ with
  | none => rw [hc] at hr; cases hr
  | some xs =>
   rw [hc] at hr
   simp only [Option.bind_some, Option.some.injEq] at hr
   subst hr
   obtain ⟨vs, o1, o2, o3, o4⟩ := h.obj l _ ho
   obtain ⟨_, a2⟩ := ha
   obtain ⟨_, a3⟩ := a2 _ ho
   obtain ⟨a4, a5⟩ := a3 rfl e sz es rfl
   have hps := viewAll_sound (view_sound h D n) _ _ xs ((o1.drop off).take len) hc
   have hl : xs.length = len := by
    rw [hps.length, ← ((o1.drop off).take len).length, List.length_take, List.length_drop]; omega
   rcases a5 with ⟨i1, rfl, rfl, rfl⟩ | ⟨b, c, a, i1, rfl, i2, i3⟩
   ·simp only [List.drop_zero, List.take_zero] at hps
    have hx : xs = [] := List.eq_nil_of_length_eq_zero hl
    subst hx
    exact ⟨none, 0, [], by simp, by simp, rfl, .inl rfl⟩
   ·refine ⟨a, c - off, _, by rw [hl], by omega, hps, ?_⟩
    by_cases h0 : len = 0
    ·subst h0; exact .inl (by simp)
    ·rcases i3 with ⟨_, i3⟩ | i3
     ·omega
     ·subst i3
      rcases o4 with ⟨o4, _⟩ | ⟨b', c', cur, p1, p2, p3, p4, p5, p6, p7⟩
      ·rw [i1] at o4; cases o4
      ·rw [i1] at p1; cases p1
       have hsz : ∀ v ∈ (vs.drop off).take len, v.cells.size = sz := fun v hv => o2 v (List.mem_of_mem_drop (List.mem_of_mem_take hv))
       have hfl : flat ((vs.drop off).take len) = ((flat vs).drop (off * sz)).take (len * sz) := by
        rw [flat_take len fun v hv => o2 v (List.mem_of_mem_drop hv), flat_drop off o2]
       refine .inr ⟨b, off * sz, sz, rfl, hsz, ?_, (Array.getElem?_eq_some_iff.1 p3).1, ?_, ?_⟩
       ·rw [hfl]; exact fun u hu => o3 u (List.mem_of_mem_drop (List.mem_of_mem_take hu))
       ·rintro (hX | ⟨l', c', o', q1, q2, q3, q4⟩)
        ·exact p2 hX
        ·have := h.inj1 l' l o' _ b c' c q1 ho q2 rfl q4 i1
         subst this
         rw [hD] at q3; cases q3
       ·intro j u hu
        refine cell_cur p3 ?_
        rw [hfl, List.getElem?_take] at hu
        split at hu
        ·rw [List.getElem?_drop] at hu
         exact take_get p7 hu
        ·cases hu
 | n + 1, .loc l g i off, val, x, ha, hr => by
  simp only [view] at hr
  split at hr
  case isFalse => simp at hr
  rename_i hD
  simp only [L.run] at hr
  split at hr
  case h_2 => simp at hr
  rename_i e sz g' es ho
  split at hr
  case isFalse => simp at hr
  rename_i hg
  subst hg
  split at hr
  case h_2 => simp at hr
  rename_i y hy
  simp only [L.run_bind', L.run_ret] at hr
  cases hc : (viewAll (view D n) (y.cells.drop off)).run σ with
  | none => rw [hc] at hr; cases hr
  | some xs =>
   rw [hc] at hr
   simp only [Option.bind_some, Option.some.injEq] at hr
   subst hr
   obtain ⟨vs, o1, o2, o3, o4⟩ := h.obj l _ ho
   obtain ⟨_, a2⟩ := ha
   obtain ⟨_, a3⟩ := a2 _ ho
   obtain ⟨b, c, a4, a5⟩ := a3 rfl e sz es rfl
   obtain ⟨u, hu, hau⟩ := o1.get hy
   have hyk : y.known = true ∨ y = .any := by
    cases y with
    | any => exact .inr rfl
    | tup cs =>
     obtain ⟨us, rfl, _⟩ := hau
     have := o3 (.tuple us.toArray) (List.mem_flatMap.2 ⟨_, List.mem_of_getElem? hu, by simp [Value.cells]⟩)
     cases this
    | p q =>
     cases q with
     | tup cs =>
      obtain ⟨us, rfl, _⟩ := hau
      have := o3 (.tuple us.toArray) (List.mem_flatMap.2 ⟨_, List.mem_of_getElem? hu, by simp [Value.cells]⟩)
      cases this
     | _ => exact .inl rfl
    | _ => exact .inl rfl
   rcases hyk with hyk | rfl
   case inr =>
    cases off with
    | zero => cases n <;> simp [AV.cells, viewAll, view, L.run_bind'] at hc
    | succ off =>
     simp only [AV.cells, List.drop_succ_cons, List.drop_nil, viewAll, L.run_ret, Option.some.injEq] at hc
     subst hc
     rcases o4 with ⟨o4, _⟩ | ⟨b', c', cur, p1, p2, p3, p4, p5, p6, p7⟩
     ·rw [a4] at o4; cases o4
     ·rw [a4] at p1; cases p1
      refine ⟨_, _, [], a5, rfl, (fun u hu => by cases hu), (Array.getElem?_eq_some_iff.1 p3).1, ?_, (fun j u hu => by simp at hu)⟩
      rintro (hX | ⟨l', c', o', q1, q2, q3, q4⟩)
      ·exact p2 hX
      ·have := h.inj1 l' l o' _ _ c' _ q1 ho q2 rfl q4 a4
       subst this
       rw [hD] at q3; cases q3
   obtain ⟨hcs, hone⟩ := AR.cells_of hyk hau
   have hps := viewAll_sound (view_sound h D n) _ _ xs (hcs.drop off) hc
   rcases o4 with ⟨o4, _⟩ | ⟨b', c', cur, p1, p2, p3, p4, p5, p6, p7⟩
   ·rw [a4] at o4; cases o4
   ·rw [a4] at p1; cases p1
    refine ⟨_, i * sz + off, u.cells.toList.drop off, a5, hps, fun u' hu' => hone u' (List.mem_of_mem_drop hu'), (Array.getElem?_eq_some_iff.1 p3).1, ?_, ?_⟩
    ·rintro (hX | ⟨l', c', o', q1, q2, q3, q4⟩)
     ·exact p2 hX
     ·have := h.inj1 l' l o' _ _ c' _ q1 ho q2 rfl q4 a4
      subst this
      rw [hD] at q3; cases q3
    ·intro j u' hu'
     refine cell_cur p3 (take_get p7 ?_)
     rw [List.getElem?_drop] at hu'
     have hi : i < vs.length := (List.getElem?_eq_some_iff.1 hu).1
     have hui : vs[i] = u := (List.getElem?_eq_some_iff.1 hu).2
     have hd : (flat vs).drop (i * sz) = u.cells.toList ++ flat (vs.drop (i + 1)) := by
      rw [← flat_drop i o2, List.drop_eq_getElem_cons hi, hui, flat_cons]
     have : (flat vs)[i * sz + off + j]? = ((flat vs).drop (i * sz))[off + j]? := by rw [List.getElem?_drop, Nat.add_assoc]
     rw [this, hd, List.getElem?_append_left (List.getElem?_eq_some_iff.1 hu').1]
     exact hu'
 | n + 1, .mapo l g, val, x, ha, hr => by
  simp only [view] at hr
  split at hr
  case isFalse => simp at hr
  rename_i hD
  simp only [L.run] at hr
  split at hr
  case h_2 => simp at hr
  rename_i g' ks vs ho
  split at hr
  case isFalse => simp at hr
  rename_i hg
  subst hg
  simp only [L.run_bind', L.run_ret] at hr
  cases hc : (viewAll (view D n) ks).run σ with
  | none => rw [hc] at hr; cases hr
  | some xs =>
   cases hd : (viewAll (view D n) vs).run σ with
   | none => rw [hc, hd] at hr; cases hr
   | some ys =>
    rw [hc, hd] at hr
    simp only [Option.bind_some, Option.some.injEq] at hr
    subst hr
    obtain ⟨b', c', ms, clock, p1, p2, p3, p4, p5⟩ := h.obj l _ ho
    obtain ⟨_, a2⟩ := ha
    obtain ⟨_, a3⟩ := a2 _ ho
    obtain ⟨b, c, a4, a5⟩ := a3 rfl ks vs rfl
    rw [a4] at p1; cases p1
    refine .inr ⟨_, ms, clock, a5, (Array.getElem?_eq_some_iff.1 p3).1, ?_, p3, viewAll_sound (view_sound h D n) _ _ xs p4 hc, viewAll_sound (view_sound h D n) _ _ ys p5 hd⟩
    rintro (hX | ⟨l', c', o', q1, q2, q3, q4⟩)
    ·exact p2 hX
    ·have := h.inj1 l' l o' _ _ c' _ q1 ho q2 rfl q4 a4
     subst this
     rw [hD] at q3; cases q3
end Go.Ab
namespace Go.Ab
open Go
set_option linter.unusedVariables false
set_option linter.unusedSimpArgs false
def zeroOf (P : Program) (t : TypeId) : Option AV := ((P.info? t).bind (·.zero)).map ofV
def intA (op : BinOp) (k : IntKind) (a b : Int) : Option AV :=
 match op with
 | .add => some (.p (.int k (k.wrap (a + b))))
 | .sub => some (.p (.int k (k.wrap (a - b))))
 | .mul => some (.p (.int k (k.wrap (a * b))))
 | .quo => if b = 0 then none else some (.p (.int k (k.wrap (a.tdiv b))))
 | .rem => if b = 0 then none else some (.p (.int k (a.tmod b)))
 | .and => some (.p (.int k (k.wrap ((BitVec.ofInt k.bits a &&& BitVec.ofInt k.bits b).toNat : Int))))
 | .or => some (.p (.int k (k.wrap ((BitVec.ofInt k.bits a ||| BitVec.ofInt k.bits b).toNat : Int))))
 | .xor => some (.p (.int k (k.wrap ((BitVec.ofInt k.bits a ^^^ BitVec.ofInt k.bits b).toNat : Int))))
 | .andNot => some (.p (.int k (k.wrap ((BitVec.ofInt k.bits a &&& ~~~(BitVec.ofInt k.bits b)).toNat : Int))))
 | .eql => some (.p (.bool (a == b)))
 | .neq => some (.p (.bool (a != b)))
 | .lss => some (.p (.bool (decide (a < b))))
 | .leq => some (.p (.bool (decide (a ≤ b))))
 | .gtr => some (.p (.bool (decide (a > b))))
 | .geq => some (.p (.bool (decide (a ≥ b))))
 | _ => none
def strA (op : BinOp) (a b : List UInt8) : Option AV :=
 match op with
 | .eql => some (.p (.bool (a == b)))
 | .neq => some (.p (.bool (!(a == b))))
 | .lss => some (.p (.bool (Op.bytesLess a b)))
 | .leq => some (.p (.bool (Op.bytesLess a b || a == b)))
 | .gtr => some (.p (.bool (!(Op.bytesLess a b || a == b))))
 | .geq => some (.p (.bool (!Op.bytesLess a b)))
 | .add => if a.length + b.length ≤ 9223372036854775807 then some (.p (.str (a ++ b))) else none
 | _ => none
def eqFs (P : Program) (f : TypeId → List PV → List PV → Option Bool) : List Field → List PV → List PV → Option Bool
 | [], _, _ => some true
 | fd :: r, xs, ys =>
  if fd.name = "_" then eqFs P f r xs ys else
  match f fd.type ((xs.drop fd.offset).take (P.cellsOf fd.type)) ((ys.drop fd.offset).take (P.cellsOf fd.type)), eqFs P f r xs ys with
  | some a, some b => some (a && b)
  | _, _ => none
def eqIs (f : List PV → List PV → Option Bool) (sz : Nat) (xs ys : List PV) : List Nat → Option Bool
 | [] => some true
 | i :: r => match f ((xs.drop (i * sz)).take sz) ((ys.drop (i * sz)).take sz), eqIs f sz xs ys r with
  | some a, some b => some (a && b)
  | _, _ => none
def eqT (P : Program) : Nat → TypeId → List PV → List PV → Option Bool
 | 0, _, _, _ => none
 | d + 1, t, xs, ys =>
  match P.underlying t with
  | some .bool => (match xs, ys with | [.bool a], [.bool b] => some (a == b) | _, _ => none)
  | some (.int _) => (match xs, ys with | [.int k a], [.int k' b] => if k = k' then some (a == b) else none | _, _ => none)
  | some .string => (match xs, ys with | [.str a], [.str b] => some (a == b) | _, _ => none)
  | some (.struct fs) => if P.stoodInHeld t then none else eqFs P (eqT P d) fs.toList xs ys
  | some (.array n e) => if (P.info? e).isSome then eqIs (eqT P d e) (P.cellsOf e) xs ys (List.range n) else none
  | _ => none
def binP (P : Program) (op : BinOp) (t : TypeId) (x y : PV) : Option AV :=
 match x, y with
 | .int k a, .int k' b =>
  match op with
  | .shl => if b < 0 then none else some (.p (.int k (k.wrap (a * 2 ^ (min b.toNat k.bits)))))
  | .shr => if b < 0 then none else some (.p (.int k (a.fdiv (2 ^ (min b.toNat k.bits)))))
  | _ => if k = k' then intA op k a b else none
 | .str a, .str b => strA op a b
 | .bool a, .bool b => (match P.underlying t, op with
  | some .bool, .eql => some (.p (.bool (a == b)))
  | some .bool, .neq => some (.p (.bool (!(a == b))))
  | _, _ => none)
 | _, _ => none
def binA (P : Program) (op : BinOp) (t : TypeId) (x y : AV) : Option AV :=
 match x, y with
 | .p x, .p y =>
  if x.isAgg && y.isAgg then
   match P.eqGuardType P.depth t, isAggT P t, op with
   | false, some true, .eql => (eqT P 9 t x.cells y.cells).map fun r => .p (.bool r)
   | false, some true, .neq => (eqT P 9 t x.cells y.cells).map fun r => .p (.bool (!r))
   | _, _, _ => none
  else binP P op t x y
 | .p (.slc (_ :: _)), .nils => (match P.underlying t, op with
  | some (.slice _), .eql => some (.p (.bool false))
  | some (.slice _), .neq => some (.p (.bool true))
  | _, _ => none)
 | .nils, .nils => (match P.underlying t, op with
  | some (.slice _), .eql => some (.p (.bool true))
  | some (.slice _), .neq => some (.p (.bool false))
  | _, _ => none)
 | _, _ => none
def unA (op : UnOp) (x : AV) : Option AV :=
 match op, x with
 | .neg, .p (.int k n) => some (.p (.int k (k.wrap (0 - n))))
 | .xor, .p (.int k n) => intA .xor k (if k.signed then -1 else k.max) n
 | .not, .p (.bool b) => some (.p (.bool !b))
 | _, _ => none
def partA (P : Program) (t : TypeId) (cs : List AV) (off : Nat) : Option AV :=
 match isAggT P t with
 | some true => if off + P.cellsOf t ≤ cs.length then some (mkAgg ((cs.drop off).take (P.cellsOf t))) else none
 | some false => cs[off]?
 | none => none
def loadPart (P : Program) (t : TypeId) (x : AV) (off : Nat) : Option AV :=
 if !x.known then none else
 if off = 0 ∧ isAggT P t = some true ∧ P.cellsOf t = x.cells.length ∧ x.isAgg = true then some x else partA P t x.cells off
def putPart (x : AV) (off : Nat) (v : AV) : AV := mkAgg (x.cells.take off ++ v.cells ++ x.cells.drop (off + v.cells.length))
def storePart (x : AV) (off : Nat) (v : AV) : Option AV :=
 if !v.known then none else
 if x.isAgg then (if v.isAgg && off == 0 && v.cells.length == x.cells.length then some v else
  if off + v.cells.length ≤ x.cells.length then some (putPart x off v) else none)
 else if off == 0 && x.known && !v.isAgg then some v else none
abbrev Upd := Option (Nat × AO)
def upd (σ : Nat → AO) : Upd → (Nat → AO)
 | none => σ
 | some (l, o) => supd σ l o
def loadA (P : Program) (t : TypeId) : AV → L AV
 | .loc l g i off => .look l fun o => match o with
  | .arr _ _ g' es => if g = g' then (match es[i]? with
   | some x => (match loadPart P t x off with | some v => .ret v | none => .fail)
   | none => .fail) else .fail
  | _ => .fail
 | .p (.imm cs) => (match partA P t (cs.map .p) 0 with | some v => .ret v | none => .fail)
 | _ => .fail
def storeA (P : Program) (t : TypeId) (addr v : AV) : L (AV × Upd) :=
 match addr with
 | .loc l g i off => .look l fun o => match o with
  | .arr e sz g' es => if g = g' ∧ v.cells.length = P.cellsOf t ∧ (isAggT P t).isSome = true then (match es[i]? with
   | some x => (match storePart x off v with
    | some y => .ret (.any, some (l, .arr e sz g (es.set i y)))
    | none => .fail)
   | none => .fail) else .fail
  | _ => .fail
 | _ => .fail
def intOf? : AV → Option Int
 | .p (.int _ n) => some n
 | _ => none
def lenA (v : AV) : L AV :=
 match v with
 | .p (.str s) => .ret (.p (.int .i64 s.length))
 | .p (.slc es) => .ret (.p (.int .i64 es.length))
 | .nils => .ret (.p (.int .i64 0))
 | .own l g off len => .look l fun o => match o with
  | .arr _ _ g' _ => if g = g' then .ret (.p (.int .i64 len)) else .fail
  | _ => .fail
 | .p .nilm => .ret (.p (.int .i64 0))
 | .p (.mapv ks _) => .ret (.p (.int .i64 ks.length))
 | .mapo l g => .look l fun o => match o with
  | .map g' ks _ => if g = g' then .ret (.p (.int .i64 ks.length)) else .fail
  | _ => .fail
 | _ => .fail
def elemsA (v : AV) : L (List AV) :=
 match v with
 | .p (.slc es) => .ret (es.map .p)
 | .nils => .ret []
 | .own l g off len => .look l fun o => match o with
  | .arr _ _ g' es => if g = g' then .ret ((es.drop off).take len) else .fail
  | _ => .fail
 | _ => .fail
def sliceA (x : AV) (lo hi : Option Int) : L AV :=
 match x with
 | .p (.str s) =>
  let h := hi.getD s.length
  let l := lo.getD 0
  if 0 ≤ l ∧ l ≤ h ∧ h ≤ s.length then .ret (.p (.str ((s.drop l.toNat).take (h.toNat - l.toNat)))) else .fail
 | .p (.slc es) =>
  let h := hi.getD es.length
  let l := lo.getD 0
  if 0 ≤ l ∧ l ≤ h ∧ h ≤ es.length then .ret (.p (.slc ((es.drop l.toNat).take (h.toNat - l.toNat)))) else .fail
 | .nils => if lo.getD 0 = 0 ∧ hi.getD 0 = 0 then .ret .nils else .fail
 | .own l g off len => .look l fun o => match o with
  | .arr _ _ g' es => if g = g' then
    let h := hi.getD len
    let lw := lo.getD 0
    if 0 ≤ lw ∧ lw ≤ h ∧ h ≤ len then .ret (.own l g (off + lw.toNat) (h.toNat - lw.toNat)) else .fail
   else .fail
  | _ => .fail
 | _ => .fail
def optInt : Option AV → Option (Option Int)
 | none => some none
 | some (.p (.int _ n)) => some (some n)
 | _ => none
def fieldOff (P : Program) (s : TypeId) (f : Nat) : Option Nat :=
 match P.underlying s with
 | some (.struct fs) => (match fs[f]? with | some fd => if P.cellsOf fd.type = 0 then none else some fd.offset | none => none)
 | _ => none
def tyOk (P : Program) (t : TypeId) : Bool := (P.info? t).isSome
def indexAddrA (P : Program) (t : TypeId) (x : AV) (i : Int) : L AV :=
 match P.underlying t, x with
 | some (.slice e), .p (.slc es) => if 0 ≤ i then (match es[i.toNat]? with
   | some y => if y.cells.length = P.cellsOf e ∧ tyOk P e = true then .ret (.p (.imm y.cells)) else .fail
   | none => .fail) else .fail
 | some (.slice e), .own l g off len => .look l fun o => match o with
  | .arr e' sz g' es => if g = g' ∧ sz = P.cellsOf e ∧ 0 ≤ i ∧ i < len ∧ tyOk P e = true then .ret (.loc l g (off + i.toNat) 0) else .fail
  | _ => .fail
 | some (.array n e), .loc l g j off => if 0 ≤ i ∧ i < n ∧ tyOk P e = true then .ret (.loc l g j (off + i.toNat * P.cellsOf e)) else .fail
 | some (.array n e), .p (.imm cs) => if 0 ≤ i ∧ i < n ∧ tyOk P e = true then .ret (.p (.imm (cs.drop (i.toNat * P.cellsOf e)))) else .fail
 | _, _ => .fail
def keyEq (a b : PV) : Option Bool :=
 match a, b with
 | .int k x, .int k' y => if k = k' then some (x == y) else none
 | .str x, .str y => some (x == y)
 | .bool x, .bool y => some (x == y)
 | _, _ => none
def eqC : List PV → List PV → Bool
 | [], [] => true
 | .int k x :: xs, .int k' y :: ys => (k == k') && ((x == y) && eqC xs ys)
 | .str x :: xs, .str y :: ys => (x == y) && eqC xs ys
 | .bool x :: xs, .bool y :: ys => (x == y) && eqC xs ys
 | _, _ => false
def keyEqK (P : Program) (kt : TypeId) (a b : PV) : Option Bool :=
 match a, b with
 | .agg xs, .agg ys => (eqT P 9 kt xs ys).bind fun r => if r = eqC xs ys then some r else none
 | .agg _, _ => none
 | _, .agg _ => none
 | a, b => keyEq a b
def elemOk (sz : Nat) (v : AV) : Bool := v.known && v.cells.length == sz
def bytesOf (P : Program) (t : TypeId) : Nat := P.bytesOf t
def roomOk (P : Program) (e n : Nat) : Bool := decide (n * P.bytesOf e ≤ 140737488355328 ∧ n ≤ 9223372036854775807)
def newA (k : Nat) (mk : Nat → AO × AV) : L (AV × Upd) := .look k fun o => match o with
 | .dead g => .ret ((mk (g + 1)).2, some (k, (mk (g + 1)).1))
 | _ => .fail
def boxA (P : Program) (k : Nat) (t : TypeId) (v : AV) : L (AV × Upd) :=
 if v.known then newA k fun g => (.arr t v.cells.length g [v], .loc k g 0 0) else .fail
def appendA (P : Program) (k : Nat) (t : TypeId) (s x : AV) : L (AV × Upd) :=
 match P.underlying t with
 | some (.slice e) => (match s with
  | .own l g off len => (elemsA x).bind fun elems => .look l fun o => match o with
   | .arr e' sz g' es => if g = g' ∧ e = e' ∧ sz = P.cellsOf e ∧ off = 0 ∧ len = es.length ∧ elems.all (elemOk sz) = true ∧ roomOk P e (len + elems.length) = true ∧ 0 < sz ∧ (zeroOf P e).isSome = true ∧ zeroLen P e = sz then
     .ret (.own l (g + 1) 0 (len + elems.length), some (l, .arr e sz (g + 1) (es ++ elems)))
    else .fail
   | _ => .fail
  | .nils => (elemsA x).bind fun elems =>
    if elems.all (elemOk (P.cellsOf e)) = true ∧ roomOk P e elems.length = true ∧ 0 < P.cellsOf e ∧ (zeroOf P e).isSome = true ∧ zeroLen P e = P.cellsOf e then
     newA k fun g => (.arr e (P.cellsOf e) g elems, .own k g 0 elems.length)
    else .fail
  | .p (.clip as) => (match x with
   | .p (.slc bs) => if (as.map AV.p).all (elemOk (P.cellsOf e)) = true ∧ (bs.map AV.p).all (elemOk (P.cellsOf e)) = true ∧ roomOk P e (as.length + bs.length) = true ∧ 0 < P.cellsOf e ∧ (zeroOf P e).isSome = true ∧ zeroLen P e = P.cellsOf e then
     .ret (.p (.slc (as ++ bs)), none) else .fail
   | _ => .fail)
  | _ => .fail)
 | _ => .fail
where zeroLen (P : Program) (e : TypeId) : Nat := (((P.info? e).bind (·.zero)).map (·.cells.size)).getD 0
end Go.Ab
namespace Go.Ab
variable {D : Prop}
open Go
set_option linter.unusedVariables false
set_option linter.unusedSimpArgs false
variable {P : Program} {X : Nat → Prop} {inj : Inj} {σ : Nat → AO} {w : World}
theorem underlying_of_agg {t : TypeId} {b : Bool} (h : isAggT P t = some b) : ∃ d, P.underlying t = some d ∧ (match d with | .struct _ | .array _ _ => true | _ => false) = b := by
 unfold isAggT at h
 split at h <;> simp_all
theorem info_of_underlying {t : TypeId} {d : TypeDesc} (h : P.underlying t = some d) : ∃ i, P.info? t = some i := by
 unfold Program.underlying at h
 cases hi : P.info? t with
 | none => rw [hi] at h; cases h
 | some i => exact ⟨i, rfl⟩
theorem run_sizeOf_u {t : TypeId} {d : TypeDesc} (h : P.underlying t = some d) (w : World) : (sizeOf t).run P w = .ok (P.cellsOf t) w := by
 obtain ⟨i, hi⟩ := info_of_underlying h
 simp [sizeOf, typeInfo, hi, Program.cellsOf]
theorem run_isAgg_b {t : TypeId} {b : Bool} (h : isAggT P t = some b) (w : World) : (isAgg t).run P w = .ok b w := by
 obtain ⟨d, hd, hb⟩ := underlying_of_agg h
 simp only [isAgg, Sem.run_bind, run_underlying hd, Result.andThen_ok]
 cases d <;> simp_all
theorem run_loadVar_agg {t : TypeId} (h : isAggT P t = some true) {a : Addr} {cs : List Value} (hc : ∀ j v, cs[j]? = some v → w.cell? (a.add j) = some v) (hn : cs.length = P.cellsOf t) :
  (loadVar t a).run P w = .ok (.agg cs.toArray) w := by
 obtain ⟨d, hd, _⟩ := underlying_of_agg h
 simp only [loadVar, Sem.run_bind, run_isAgg_b h, Result.andThen_ok, if_true, run_sizeOf_u hd]
 rw [← hn, run_loadCells_list w a cs hc]
 rfl
theorem run_loadVar_one {t : TypeId} (h : isAggT P t = some false) {a : Addr} {v : Value} (hc : w.cell? a = some v) : (loadVar t a).run P w = .ok v w := by
 simp [loadVar, run_isAgg_b h, hc]
theorem allP_eq : ∀ {cs : List AV} {xs : List PV}, allP cs = some xs → cs = xs.map .p
 | [], xs, h => by simp only [allP, Option.some.injEq] at h; subst h; rfl
 | c :: cs, xs, h => by
  cases c with
  | p x =>
   simp only [allP] at h
   cases hc : allP cs with
   | none => rw [hc] at h; cases h
   | some ys => rw [hc] at h; simp only [Option.some.injEq] at h; subst h; rw [allP_eq hc]; rfl
  | _ => simp [allP] at h
theorem AR_mkAgg {cs : List AV} {vs : List Value} (h : ARs X inj σ w cs vs) (h1 : oneAll vs) : AR X inj σ w (mkAgg cs) (.agg vs.toArray) := by
 unfold mkAgg
 split
 ·rename_i xs hx
  rw [allP_eq hx] at h
  exact ⟨vs, rfl, ARs_map_p.1 h, h1⟩
 ·exact ⟨vs, rfl, h, h1⟩
theorem AR_mkTup {cs : List AV} {vs : List Value} (h : ARs X inj σ w cs vs) : AR X inj σ w (mkTup cs) (.tuple vs.toArray) := by
 unfold mkTup
 split
 ·rename_i xs hx
  rw [allP_eq hx] at h
  exact ⟨vs, rfl, ARs_map_p.1 h⟩
 ·exact ⟨vs, rfl, h⟩
theorem AR_mkFunc {fn : Fn} {cs : List AV} {vs : List Value} (h : ARs X inj σ w cs vs) : AR X inj σ w (mkFunc fn cs) (.func fn #[] vs.toArray) := by
 unfold mkFunc
 split
 ·rename_i xs hx
  rw [allP_eq hx] at h
  exact ⟨vs, rfl, ARs_map_p.1 h⟩
 ·exact ⟨vs, rfl, h⟩
theorem AR_ofV1 (v : Value) : AR X inj σ w (ofV1 v) v := by
 unfold ofV1
 split <;> simp [AR, PR]
theorem AR.one_of {x : AV} {v : Value} (hk : x.one = true) (h : AR X inj σ w x v) : v.oneCell' = true := by
 simp only [AV.one, Bool.and_eq_true, Bool.not_eq_true'] at hk
 obtain ⟨hk, hg⟩ := hk
 cases x with
 | any => cases hk
 | tup cs => cases hk
 | agg cs => cases hg
 | nils => simp only [AR] at h; subst h; rfl
 | loc l g i off => obtain ⟨⟨a, rfl⟩, _⟩ := h; rfl
 | own l g off len => obtain ⟨⟨a, n, c, rfl⟩, _⟩ := h; rfl
 | mapo l g => obtain ⟨⟨r, rfl⟩, _⟩ := h; rfl
 | func fn cs => obtain ⟨vs, rfl, _⟩ := h; rfl
 | p x =>
  cases x with
  | agg cs => cases hg
  | tup cs => cases hk
  | slc es => obtain ⟨a, cap, vs, rfl, _⟩ := h; rfl
  | nnil es => obtain ⟨a, cap, vs, rfl, _⟩ := h; rfl
  | clip es => obtain ⟨a, vs, rfl, _⟩ := h; rfl
  | imm es => obtain ⟨a, cap, vs, rfl, _⟩ := h; rfl
  | mapv ks es => rcases h with ⟨rfl, _⟩ | ⟨r, ms, ck, rfl, _⟩ <;> rfl
  | func fn cs => obtain ⟨vs, rfl, _⟩ := h; rfl
  | _ => simp only [AR, PR] at h; subst h; rfl
theorem AR_ofV (v : Value) : AR X inj σ w (ofV v) v := by
 unfold ofV
 split
 ·rename_i cs
  split
  ·rename_i hall
   have h1 : ∀ vs : List Value, (vs.all fun v => (ofV1 v).one) = true → ARs X inj σ w (vs.map ofV1) vs ∧ oneAll vs := by
    intro vs
    induction vs with
    | nil => intro _; exact ⟨rfl, fun u hu => by cases hu⟩
    | cons v vs ih =>
     intro h
     simp only [List.all_cons, Bool.and_eq_true] at h
     obtain ⟨h2, h3⟩ := ih h.2
     refine ⟨⟨v, vs, rfl, AR_ofV1 v, h2⟩, fun u hu => ?_⟩
     cases List.mem_cons.1 hu with
     | inl e => subst e; exact AR.one_of (X := X) (inj := inj) (σ := σ) (w := w) h.1 (AR_ofV1 u)
     | inr e => exact h3 u e
   have := h1 cs.toList hall
   simpa using AR_mkAgg this.1 this.2
  ·trivial
 ·exact AR_ofV1 v
theorem HR.elem (h : HR X inj σ w) {l e sz g es i x} (ho : σ l = .arr e sz g es) (hx : es[i]? = some x) :
  ∃ u b c cur, inj l = some (b, c) ∧ AR X inj σ w x u ∧ u.cells.size = sz ∧ oneAll u.cells.toList ∧ ¬ X b ∧ w.heap[b]? = some (.cells cur e (0, 0)) ∧
   (∀ j v, u.cells.toList[j]? = some v → cur.toList[i * sz + j]? = some v) := by
 obtain ⟨vs, o1, o2, o3, o4⟩ := (ho ▸ h.obj l _ rfl : OR X inj σ w l (.arr e sz g es))
 obtain ⟨u, hu, hau⟩ := o1.get hx
 have hi : i < vs.length := (List.getElem?_eq_some_iff.1 hu).1
 have hui : vs[i] = u := (List.getElem?_eq_some_iff.1 hu).2
 have hum : u ∈ vs := List.mem_of_getElem? hu
 rcases o4 with ⟨_, o4⟩ | ⟨b, c, cur, p1, p2, p3, p4, p5, p6, p7⟩
 ·subst o4; simp at hx
 ·refine ⟨u, b, c, cur, p1, hau, o2 u hum, fun v hv => o3 v (List.mem_flatMap.2 ⟨u, hum, hv⟩), p2, p3, fun j v hv => take_get p7 ?_⟩
  have hd : (flat vs).drop (i * sz) = u.cells.toList ++ flat (vs.drop (i + 1)) := by
   rw [← flat_drop i o2, List.drop_eq_getElem_cons hi, hui, flat_cons]
  have : (flat vs)[i * sz + j]? = ((flat vs).drop (i * sz))[j]? := by rw [List.getElem?_drop]
  rw [this, hd, List.getElem?_append_left (List.getElem?_eq_some_iff.1 hv).1]
  exact hv
theorem agg_of {x : AV} {u : Value} (hg : x.isAgg = true) (h : AR X inj σ w x u) : u = .agg u.cells.toList.toArray := by
 cases x with
 | agg cs => obtain ⟨vs, rfl, _⟩ := h; simp [Value.cells]
 | p x =>
  cases x with
  | agg cs => obtain ⟨vs, rfl, _⟩ := h; simp [Value.cells]
  | _ => cases hg
 | _ => cases hg
theorem partA_sound {t : TypeId} {cs : List AV} {vs : List Value} {off : Nat} {v : AV} (hcs : ARs X inj σ w cs vs) (h1 : oneAll vs) (hp : partA P t cs off = some v)
  {a : Addr} (hc : ∀ j u, vs[j]? = some u → off ≤ j → w.cell? (a.add (j - off)) = some u) : ∃ val, (loadVar t a).run P w = .ok val w ∧ AR X inj σ w v val := by
 unfold partA at hp
 split at hp
 ·rename_i ht
  split at hp
  ·rename_i hle
   simp only [Option.some.injEq] at hp
   subst hp
   have hl := hcs.length
   refine ⟨_, run_loadVar_agg (cs := (vs.drop off).take (P.cellsOf t)) ht ?_ ?_, AR_mkAgg ((hcs.drop off).take _) fun u hu => h1 u (List.mem_of_mem_drop (List.mem_of_mem_take hu))⟩
   ·intro j u hu
    rw [List.getElem?_take] at hu
    split at hu
    ·rw [List.getElem?_drop] at hu
     have := hc (off + j) u hu (by omega)
     rwa [Nat.add_sub_cancel_left] at this
    ·cases hu
   ·rw [List.length_take, List.length_drop]; omega
  ·cases hp
 ·rename_i ht
  obtain ⟨u, hu, hau⟩ := hcs.get hp
  have := hc off u hu (Nat.le_refl _)
  rw [Nat.sub_self, Addr.add_zero'] at this
  exact ⟨u, run_loadVar_one ht this, hau⟩
 ·cases hp
theorem loadPart_sound {t : TypeId} {x v : AV} {u : Value} {off : Nat} (hx : AR X inj σ w x u) (hp : loadPart P t x off = some v)
  {a : Addr} (hc : ∀ j c, u.cells.toList[j]? = some c → off ≤ j → w.cell? (a.add (j - off)) = some c) : ∃ val, (loadVar t a).run P w = .ok val w ∧ AR X inj σ w v val := by
 unfold loadPart at hp
 split at hp
 ·cases hp
 ·rename_i hk
  simp only [Bool.not_eq_true', Bool.not_eq_false] at hk
  obtain ⟨hcs, hone⟩ := AR.cells_of hk hx
  split at hp
  ·rename_i hw
   obtain ⟨rfl, ht, hn, hg⟩ := hw
   simp only [Option.some.injEq] at hp
   subst hp
   refine ⟨u, ?_, hx⟩
   have := run_loadVar_agg (P := P) (w := w) (t := t) (a := a) (cs := u.cells.toList) ht (fun j c hj => by simpa using hc j c hj (Nat.zero_le _)) (by rw [hn, hcs.length])
   rw [this, ← agg_of hg hx]
  ·exact partA_sound hcs hone hp hc
theorem loadA_sound (h : HR X inj σ w) {t : TypeId} {addr v : AV} {val : Value} (ha : AR X inj σ w addr val) (hr : (loadA P t addr).run σ = some v) :
  ∃ u, (Instr.loadAt t val).run P w = .ok u w ∧ AR X inj σ w v u := by
 cases addr with
 | loc l g i off =>
  simp only [loadA, L.run] at hr
  split at hr
  case h_2 => simp at hr
  rename_i e sz g' es ho
  split at hr
  case isFalse => simp at hr
  rename_i hg
  subst hg
  split at hr
  case h_2 => simp at hr
  rename_i x hx
  split at hr
  case h_2 => simp at hr
  rename_i v' hp
  simp only [L.run_ret, Option.some.injEq] at hr
  subst hr
  obtain ⟨u, b, c, cur, hi, hau, hsz, hone, hX, hb, hcur⟩ := h.elem ho hx
  obtain ⟨_, a2⟩ := ha
  obtain ⟨_, a3⟩ := a2 _ ho
  obtain ⟨b', c', a4, rfl⟩ := a3 rfl e sz es rfl
  rw [hi] at a4; cases a4
  obtain ⟨val, h1, h2⟩ := loadPart_sound (P := P) hau hp (a := ⟨b, i * sz + off, none⟩) (fun j c hj hle => by
   rw [Addr.add_lit, show i * sz + off + (j - off) = i * sz + j by omega]
   exact cell_cur hb (hcur j c hj))
  exact ⟨val, by simpa [Instr.loadAt, Instr.sureAddr] using h1, h2⟩
 | p x =>
  cases x with
  | imm cs =>
   simp only [loadA] at hr
   split at hr
   case h_2 => simp at hr
   rename_i v' hp
   simp only [L.run_ret, Option.some.injEq] at hr
   subst hr
   obtain ⟨b, o, vs, rfl, h1, h2, h3⟩ := ha
   obtain ⟨val, h4, h5⟩ := partA_sound (P := P) (ARs_map_p.2 h1) h2 hp (a := ⟨b, o, none⟩) (fun j u hu _ => by
    rw [Addr.add_lit]; exact h3.2.2 j u hu)
   exact ⟨val, by simpa [Instr.loadAt, Instr.sureAddr] using h4, h5⟩
  | _ => simp [loadA] at hr
 | _ => simp [loadA] at hr
def splice {α : Type} (L : List α) (o : Nat) (vals : List α) : List α := L.take o ++ vals ++ L.drop (o + vals.length)
theorem get_splice {α : Type} (L : List α) (o : Nat) (vals : List α) (h : o + vals.length ≤ L.length) (j : Nat) :
  (splice L o vals)[j]? = if j < o then L[j]? else if j < o + vals.length then vals[j - o]? else L[j]? := by
 unfold splice
 have hm : min o L.length = o := by omega
 by_cases h1 : j < o
 ·simp only [h1, if_true]
  rw [List.append_assoc, List.getElem?_append_left (by rw [List.length_take, hm]; exact h1), List.getElem?_take, if_pos h1]
 ·simp only [h1, if_false]
  rw [List.append_assoc, List.getElem?_append_right (by rw [List.length_take, hm]; omega), List.length_take, hm]
  by_cases h2 : j < o + vals.length
  ·rw [if_pos h2, List.getElem?_append_left (by omega)]
  ·rw [if_neg h2, List.getElem?_append_right (by omega), List.getElem?_drop]
   congr 1; omega
theorem length_splice {α : Type} (L : List α) (o : Nat) (vals : List α) (h : o + vals.length ≤ L.length) : (splice L o vals).length = L.length := by
 unfold splice
 simp only [List.length_append, List.length_take, List.length_drop]
 omega
theorem flat_get {sz : Nat} {vs : List Value} (h : ∀ v ∈ vs, v.cells.size = sz) {i : Nat} {u : Value} (hu : vs[i]? = some u) {j : Nat} (hj : j < sz) : (flat vs)[i * sz + j]? = u.cells.toList[j]? := by
 have hi : i < vs.length := (List.getElem?_eq_some_iff.1 hu).1
 have hui : vs[i] = u := (List.getElem?_eq_some_iff.1 hu).2
 have hd : (flat vs).drop (i * sz) = u.cells.toList ++ flat (vs.drop (i + 1)) := by
  rw [← flat_drop i h, List.drop_eq_getElem_cons hi, hui, flat_cons]
 have : (flat vs)[i * sz + j]? = ((flat vs).drop (i * sz))[j]? := by rw [List.getElem?_drop]
 have hs : u.cells.size = sz := h u (List.mem_of_getElem? hu)
 rw [this, hd, List.getElem?_append_left (by rw [Array.length_toList, hs]; exact hj)]
theorem flat_set {sz : Nat} {vs : List Value} (h : ∀ v ∈ vs, v.cells.size = sz) {i : Nat} {u u' : Value} (hu : vs[i]? = some u) {off : Nat} {vals : List Value}
  (hu' : u'.cells.toList = splice u.cells.toList off vals) (hle : off + vals.length ≤ sz) : flat (vs.set i u') = splice (flat vs) (i * sz + off) vals := by
 have hi : i < vs.length := (List.getElem?_eq_some_iff.1 hu).1
 have hs : u.cells.size = sz := h u (List.mem_of_getElem? hu)
 have hs' : u'.cells.size = sz := by rw [← Array.length_toList, hu', length_splice _ _ _ (by rw [show u.cells.toList.length = sz by rw [Array.length_toList, hs]]; exact hle), Array.length_toList, hs]
 have hall : ∀ v ∈ vs.set i u', v.cells.size = sz := fun v hv => by
  rcases List.mem_or_eq_of_mem_set hv with h1 | h1
  ·exact h v h1
  ·rw [h1]; exact hs'
 have hle2 : (i + 1) * sz ≤ vs.length * sz := Nat.mul_le_mul_right _ hi
 rw [Nat.add_mul, Nat.one_mul] at hle2
 have hsp : i * sz + off + vals.length ≤ (flat vs).length := by
  rw [flat_length h]; omega
 apply List.ext_getElem?
 intro k
 rw [get_splice _ _ _ hsp]
 by_cases hsz : sz = 0
 ·subst hsz
  have e1 : (flat (vs.set i u')).length = 0 := by rw [flat_length hall]; simp
  have e2 : (flat vs).length = 0 := by rw [flat_length h]; simp
  rw [List.getElem?_eq_none (by omega), List.getElem?_eq_none (by omega)]
  have : vals.length = 0 := by omega
  rw [if_neg (show ¬ (k < i * 0 + off + vals.length) by omega)]
  simp
 ·have hsz : 0 < sz := by omega
  obtain ⟨q, r, hr, rfl⟩ : ∃ q r, r < sz ∧ k = q * sz + r := ⟨k / sz, k % sz, Nat.mod_lt _ hsz, by rw [Nat.mul_comm]; exact (Nat.div_add_mod k sz).symm⟩
  by_cases hq : q < vs.length
  ·have hv : vs[q]? = some vs[q] := List.getElem?_eq_getElem hq
   by_cases hqi : q = i
   ·subst hqi
    rw [flat_get hall (i := q) (u := u') (by simp [hq]) hr, hu', get_splice _ _ _ (by rw [show u.cells.toList.length = sz by rw [Array.length_toList, hs]]; exact hle), flat_get h hu hr]
    by_cases c1 : r < off
    ·rw [if_pos c1, if_pos (show q * sz + r < q * sz + off by omega)]
    ·rw [if_neg c1, if_neg (show ¬ q * sz + r < q * sz + off by omega)]
     by_cases c2 : r < off + vals.length
     ·rw [if_pos c2, if_pos (show q * sz + r < q * sz + off + vals.length by omega)]; congr 1; omega
     ·rw [if_neg c2, if_neg (show ¬ q * sz + r < q * sz + off + vals.length by omega)]
   ·rw [flat_get hall (i := q) (u := vs[q]) (by rw [List.getElem?_set_ne (Ne.symm hqi)]; exact hv) hr, flat_get h hv hr]
    rcases Nat.lt_or_gt_of_ne hqi with c | c
    ·have : (q + 1) * sz ≤ i * sz := Nat.mul_le_mul_right _ c
     rw [Nat.add_mul, Nat.one_mul] at this
     rw [if_pos (by omega)]
    ·have : (i + 1) * sz ≤ q * sz := Nat.mul_le_mul_right _ c
     rw [Nat.add_mul, Nat.one_mul] at this
     rw [if_neg (by omega), if_neg (by omega)]
  ·have : vs.length * sz ≤ q * sz := Nat.mul_le_mul_right _ (by omega)
   rw [List.getElem?_eq_none (by rw [flat_length hall, List.length_set]; omega)]
   rw [if_neg (by omega), if_neg (by omega), List.getElem?_eq_none (by rw [flat_length h]; omega)]
theorem ARs.set {cs : List AV} {vs : List Value} (h : ARs X inj σ w cs vs) {i : Nat} {y : AV} {u : Value} (hy : AR X inj σ w y u) : ARs X inj σ w (cs.set i y) (vs.set i u) := by
 induction cs generalizing vs i with
 | nil => simp only [ARs] at h; subst h; simp [ARs]
 | cons c cs ih =>
  simp only [ARs] at h
  obtain ⟨v, r, rfl, h2, h3⟩ := h
  cases i with
  | zero => exact ⟨u, r, rfl, hy, h3⟩
  | succ i => exact ⟨v, r.set i u, rfl, h2, ih h3⟩
theorem ARs.append {cs ds : List AV} {vs us : List Value} (h : ARs X inj σ w cs vs) (k : ARs X inj σ w ds us) : ARs X inj σ w (cs ++ ds) (vs ++ us) := by
 induction cs generalizing vs with
 | nil => simp only [ARs] at h; subst h; exact k
 | cons c cs ih =>
  simp only [ARs] at h
  obtain ⟨v, r, rfl, h2, h3⟩ := h
  exact ⟨v, r ++ us, rfl, h2, ih h3⟩
theorem frozen_setRow (w : World) (g : Nat) (cs : Array Value) (a : Addr) : (w.setRow g cs).frozen? a = w.frozen? a := by
 simp only [World.frozen?, World.setRow, Array.getElem?_modify]
 by_cases h : g = a.block
 ·simp only [h, if_true]
  cases w.heap[a.block]? with
  | none => rfl
  | some o => cases o <;> rfl
 ·simp [h]
theorem inj_same (inj : Inj) (l : Nat) : (fun k => if k = l then inj l else inj k) = inj := by
 funext k; split <;> simp_all
theorem storePart_sound {x y v : AV} {u val : Value} {off sz : Nat} (hx : AR X inj σ w x u) (hv : AR X inj σ w v val) (hsz : u.cells.size = sz) (h1 : oneAll u.cells.toList)
  (hp : storePart x off v = some y) : off + v.cells.length ≤ sz ∧ oneAll val.cells.toList ∧ v.cells.length = val.cells.size ∧
   ∃ u', AR X inj σ w y u' ∧ u'.cells.toList = splice u.cells.toList off val.cells.toList ∧ oneAll u'.cells.toList := by
 unfold storePart at hp
 split at hp
 ·cases hp
 rename_i hk
 simp only [Bool.not_eq_true', Bool.not_eq_false] at hk
 obtain ⟨hvc, hvo⟩ := AR.cells_of hk hv
 have hvl : v.cells.length = val.cells.size := by rw [hvc.length, Array.length_toList]
 split at hp
 ·rename_i hg
  have hxk : x.known = true := by
   cases x with
   | p x => cases x <;> first | rfl | cases hg
   | _ => first | rfl | cases hg
  obtain ⟨hxc, hxo⟩ := AR.cells_of hxk hx
  have hxl : x.cells.length = sz := by rw [hxc.length, Array.length_toList, hsz]
  split at hp
  ·rename_i hc
   simp only [Bool.and_eq_true, beq_iff_eq] at hc
   obtain ⟨⟨hg2, rfl⟩, hl⟩ := hc
   simp only [Option.some.injEq] at hp
   subst hp
   refine ⟨by omega, hvo, hvl, val, hv, ?_, hvo⟩
   unfold splice
   rw [List.take_zero, List.nil_append, List.drop_of_length_le (by simp only [Array.length_toList]; omega), List.append_nil]
  ·split at hp
   case isFalse => cases hp
   rename_i hle
   simp only [Option.some.injEq] at hp
   subst hp
   refine ⟨by omega, hvo, hvl, .agg (splice u.cells.toList off val.cells.toList).toArray, ?_, by simp [Value.cells], ?_⟩
   ·unfold putPart splice
    refine AR_mkAgg (((hxc.take off).append hvc).append ?_) ?_
    ·rw [show off + v.cells.length = off + val.cells.toList.length by rw [hvl, Array.length_toList]]
     exact hxc.drop _
    ·intro c hc
     rcases List.mem_append.1 hc with hc | hc
     ·rcases List.mem_append.1 hc with hc | hc
      ·exact hxo c (List.mem_of_mem_take hc)
      ·exact hvo c hc
     ·exact hxo c (List.mem_of_mem_drop hc)
   ·simp only [Value.cells]
    intro c hc
    unfold splice at hc
    rcases List.mem_append.1 hc with hc | hc
    ·rcases List.mem_append.1 hc with hc | hc
     ·exact hxo c (List.mem_of_mem_take hc)
     ·exact hvo c hc
    ·exact hxo c (List.mem_of_mem_drop hc)
 ·rename_i hg
  split at hp
  case isFalse => cases hp
  rename_i hc
  simp only [Bool.and_eq_true, beq_iff_eq, Bool.not_eq_true', Bool.not_eq_false] at hc hg
  obtain ⟨⟨rfl, hxk⟩, hvg⟩ := hc
  simp only [Option.some.injEq] at hp
  subst hp
  have one1 : ∀ {z : AV} {q : Value}, AR X inj σ w z q → z.known = true → z.isAgg = false → q.cells.size = 1 := by
   intro z q hz hk hg
   have := AR.one_of (X := X) (inj := inj) (σ := σ) (w := w) (by simp [AV.one, hk, hg]) hz
   cases q <;> first | rfl | cases this
  have hs1 := one1 hx hxk (by simpa using hg)
  have hs2 := one1 hv hk hvg
  refine ⟨by omega, hvo, hvl, val, hv, ?_, hvo⟩
  unfold splice
  rw [List.take_zero, List.nil_append, List.drop_of_length_le (by simp only [Array.length_toList]; omega), List.append_nil]
theorem storeA_sound (h : HR X inj σ w) {t : TypeId} {addr v r : AV} {ua uv : Value} {up : Upd} (ha : AR X inj σ w addr ua) (hv : AR X inj σ w v uv) (hr : (storeA P t addr v).run σ = some (r, up)) :
  ∃ w', (Instr.storeAt t ua uv).run P w = .ok () w' ∧ HR X inj (upd σ up) w' ∧ Ev D X inj σ w inj (upd σ up) w' ∧ r = .any := by
 cases addr with
 | loc l g i off =>
  simp only [storeA, L.run] at hr
  split at hr
  case h_2 => simp at hr
  rename_i e sz g' es ho
  split at hr
  case isFalse => simp at hr
  rename_i hc
  obtain ⟨rfl, hlen, hty⟩ := hc
  split at hr
  case h_2 => simp at hr
  rename_i x hx
  split at hr
  case h_2 => simp at hr
  rename_i y hp
  simp only [L.run_ret, Option.some.injEq, Prod.mk.injEq] at hr
  obtain ⟨rfl, rfl⟩ := hr
  obtain ⟨vs, o1, o2, o3, o4⟩ := (ho ▸ h.obj l _ rfl : OR X inj σ w l (.arr e sz g es))
  obtain ⟨u, hu, hau⟩ := o1.get hx
  have hum : u ∈ vs := List.mem_of_getElem? hu
  have hone : oneAll u.cells.toList := fun c hc => o3 c (List.mem_flatMap.2 ⟨u, hum, hc⟩)
  obtain ⟨s1, s2, s3, u', s4, s5, s6⟩ := storePart_sound hau hv (o2 u hum) hone hp
  obtain ⟨_, a2⟩ := ha
  obtain ⟨_, a3⟩ := a2 _ ho
  obtain ⟨b, c, a4, rfl⟩ := a3 rfl e sz es rfl
  rcases o4 with ⟨o4, _⟩ | ⟨b', c', cur, p1, p2, p3, p4, p5, p6, p7⟩
  ·rw [a4] at o4; cases o4
  rw [a4] at p1; cases p1
  have hi : i < vs.length := (List.getElem?_eq_some_iff.1 hu).1
  have hel : es.length = vs.length := o1.length
  have hmul : (i + 1) * sz ≤ vs.length * sz := Nat.mul_le_mul_right _ hi
  have hmul2 : es.length * sz ≤ c * sz := Nat.mul_le_mul_right _ p4
  rw [hel] at hmul2
  rw [Nat.add_mul, Nat.one_mul] at hmul
  have hvl : uv.cells.toList.length = v.cells.length := by rw [Array.length_toList, s3]
  have hst := run_storeCells_at P b (i * sz + off) e uv.cells.toList 0 cur w p3 (by rw [hvl, p6]; omega) s2
  simp only [Nat.add_zero] at hst
  obtain ⟨ty, hty'⟩ := Option.isSome_iff_exists.1 hty
  obtain ⟨d, hd, _⟩ := underlying_of_agg hty'
  have hsz' : uv.cells.size = P.cellsOf t := by rw [← s3, hlen]
  have hct : cur.toList.length = c * sz := by rw [Array.length_toList, p6]
  have hcurlen : i * sz + off + uv.cells.toList.length ≤ cur.toList.length := by rw [hvl, hct]; omega
  have hup := h.update (D := D) (w' := w.setRow b (splice cur.toList (i * sz + off) uv.cells.toList).toArray) (l := l) (o := .arr e sz g es) (o' := .arr e sz g (es.set i y)) (x := inj l) ho rfl rfl rfl (fun _ => Nat.le_refl _) (by simp)
   (fun a _ => frozen_setRow w b _ a) (fun k hk hne => setRow_other w b k _ (fun e => hne rfl c (by rw [e]; exact a4)))
   (fun b1 c1 h1 => .inr ⟨rfl, c1, h1⟩) ⟨Nat.le_refl _, fun _ _ => ⟨rfl, .inl ⟨e, sz, es, _, rfl, rfl, by simp⟩⟩⟩
  rw [inj_same] at hup
  obtain ⟨hev, hhr⟩ := hup
  refine ⟨_, ?_, hhr ?_, hev, rfl⟩
  ·simp only [Instr.storeAt, Instr.sureAddr, storeVar, Sem.run_bind, Sem.run_pure, Result.andThen_ok, run_sizeOf_u hd, hsz', ne_eq, not_true_eq_false, if_false]
   exact hst
  ·refine ⟨vs.set i u', (ARs.ev hev h.xlt es vs o1).set (AR.ev hev h.xlt y u' s4), ?_, ?_, .inr ⟨b, c, _, a4, p2, setRow_heap w b cur _ e _ p3, by simpa using p4, p5, ?_, ?_⟩⟩
   ·intro q hq
    rcases List.mem_or_eq_of_mem_set hq with h1 | h1
    ·exact o2 q h1
    ·rw [h1, ← Array.length_toList, s5, length_splice _ _ _ (by rw [hvl, show u.cells.toList.length = sz by rw [Array.length_toList, o2 u hum]]; exact s1), Array.length_toList, o2 u hum]
   ·intro q hq
    obtain ⟨z, hz, hq⟩ := List.mem_flatMap.1 hq
    rcases List.mem_or_eq_of_mem_set hz with h1 | h1
    ·exact o3 q (List.mem_flatMap.2 ⟨z, h1, hq⟩)
    ·rw [h1] at hq; exact s6 q hq
   ·rw [List.size_toArray, length_splice _ _ _ hcurlen, hct]
   ·rw [flat_set o2 hu s5 (by rw [hvl]; exact s1), ← p7, List.length_set]
    apply List.ext_getElem?
    intro k
    have hA : i * sz + off + uv.cells.toList.length ≤ (cur.toList.take (es.length * sz)).length := by
     rw [List.length_take, hct, hel, hvl]; omega
    rw [List.getElem?_take, get_splice _ _ _ hcurlen, get_splice _ _ _ hA, List.getElem?_take]
    by_cases hk : k < es.length * sz
    ·simp only [hk, if_true]
    ·simp only [hk, if_false]
     rw [if_neg (by rw [hel] at hk; omega), if_neg (by rw [hel] at hk; rw [hvl]; omega)]
 | _ => simp [storeA] at hr
theorem HR.fresh (h : HR X inj σ w) {l g' e sz es vs w' b c cur} (hg : (σ l).gen < g')
  (hos : w'.os = w.os) (htape : w'.tape = w.tape) (hout : w'.output = w.output) (hdr : D → w.drawn ≤ w'.drawn) (hsz : w.heap.size ≤ w'.heap.size)
  (hfz : ∀ a, w'.frozen? a = w.frozen? a) (hblk : ∀ b, b < w.heap.size → w'.heap[b]? = w.heap[b]?)
  (hb : w.heap.size ≤ b) (hcell : w'.heap[b]? = some (.cells cur e (0, 0))) (hes : ARs X inj σ w es vs) (hs : ∀ v ∈ vs, v.cells.size = sz) (hone : oneAll (flat vs))
  (hlen : es.length ≤ c) (hmax : c ≤ maxLen) (hcs : cur.size = c * sz) (htake : cur.toList.take (es.length * sz) = flat vs) :
  HR X (fun k => if k = l then some (b, c) else inj k) (supd σ l (.arr e sz g' es)) w' ∧ Ev D X inj σ w (fun k => if k = l then some (b, c) else inj k) (supd σ l (.arr e sz g' es)) w' := by
 have hup := h.update (D := D) (w' := w') (l := l) (o := σ l) (o' := .arr e sz g' es) (x := some (b, c)) rfl hos htape hout hdr hsz (fun a _ => hfz a) (fun b hb _ => hblk b hb)
  (fun b1 c1 h1 => by cases h1; exact .inl hb) ⟨Nat.le_of_lt hg, fun _ he => by simp only [AO.gen] at he hg; omega⟩
 obtain ⟨hev, hhr⟩ := hup
 refine ⟨hhr ⟨vs, ARs.ev hev h.xlt es vs hes, hs, hone, .inr ⟨b, c, cur, by simp, fun hX => ?_, hcell, hlen, hmax, hcs, htake⟩⟩, hev⟩
 have := h.xlt b hX
 omega
theorem frozen_alloc (w : World) (c : Array Value) (t : TypeId) (a : Addr) : (w.alloc (.cells c t)).frozen? a = w.frozen? a := RowKit.frozen?_alloc_cells w c t a
theorem HR.alloc (h : HR X inj σ w) {l g' e sz es vs} {w1 : World} {c : Nat} {cur : Array Value} (hw1 : w1 = w ∨ w1 = w.drew) (hg : (σ l).gen < g')
  (hes : ARs X inj σ w es vs) (hs : ∀ v ∈ vs, v.cells.size = sz) (hone : oneAll (flat vs))
  (hlen : es.length ≤ c) (hmax : c ≤ maxLen) (hcs : cur.size = c * sz) (htake : cur.toList.take (es.length * sz) = flat vs) :
  HR X (fun k => if k = l then some (w.heap.size, c) else inj k) (supd σ l (.arr e sz g' es)) (w1.alloc (.cells cur e)) ∧
  Ev D X inj σ w (fun k => if k = l then some (w.heap.size, c) else inj k) (supd σ l (.arr e sz g' es)) (w1.alloc (.cells cur e)) := by
 have h1 : w1.os = w.os ∧ w1.tape = w.tape ∧ w1.output = w.output ∧ w1.heap = w.heap ∧ (∀ a, w1.frozen? a = w.frozen? a) ∧ w.drawn ≤ w1.drawn := by
  rcases hw1 with rfl | rfl
  ·exact ⟨rfl, rfl, rfl, rfl, fun _ => rfl, Nat.le_refl _⟩
  ·exact ⟨rfl, rfl, rfl, rfl, fun _ => rfl, Nat.le_succ _⟩
 obtain ⟨e1, e2, e3, e4, e5, e6⟩ := h1
 have hh : (w1.alloc (.cells cur e)).heap = w.heap.push (.cells cur e) := by rw [← e4]; rfl
 refine h.fresh hg e1 e2 e3 (fun _ => e6) (by rw [hh]; simp) (fun a => (frozen_alloc w1 cur e a).trans (e5 a)) (fun b hb => ?_) (Nat.le_refl _) (by rw [hh]; simp) hes hs hone hlen hmax hcs htake
 rw [hh, Array.getElem?_push, if_neg (by omega)]
theorem flat_one (u : Value) : flat [u] = u.cells.toList := by simp [flat]
theorem known_cells {x : AV} {v : Value} (hk : x.known = true) (h : AR X inj σ w x v) : v.cells.size = x.cells.length := by
 obtain ⟨h1, _⟩ := AR.cells_of hk h
 rw [h1.length, Array.length_toList]
theorem LocR_new {l g e sz es b c} (hσ : σ l = .arr e sz g es) (hi : inj l = some (b, c)) (i off : Nat) : LocR inj σ l g i off (.pointer (some ⟨b, i * sz + off, none⟩)) := by
 refine ⟨⟨_, rfl⟩, fun o ho => ?_⟩
 rw [hσ] at ho; subst ho
 refine ⟨Nat.le_refl _, fun _ e' sz' es' he => ?_⟩
 cases he
 exact ⟨b, c, hi, rfl⟩
theorem OwnR_new {l g e sz es b c len} (hσ : σ l = .arr e sz g es) (hi : inj l = some (b, c)) (h1 : len ≤ es.length) (h2 : len ≤ c) : OwnR inj σ l g 0 len (.slice (some ⟨b, 0, none⟩) len c) := by
 refine ⟨⟨_, _, _, rfl⟩, fun o ho => ?_⟩
 rw [hσ] at ho; subst ho
 refine ⟨Nat.le_refl _, fun _ e' sz' es' he => ?_⟩
 cases he
 exact ⟨by omega, .inr ⟨b, c, some ⟨b, 0, none⟩, hi, by simp, by omega, .inr (by simp)⟩⟩
theorem boxA_sound (h : HR X inj σ w) {k : Nat} {t : TypeId} {v r : AV} {val : Value} {up : Upd} (hv : AR X inj σ w v val) (hr : (boxA P k t v).run σ = some (r, up)) :
  ∃ inj', HR X inj' (upd σ up) (w.alloc (.cells val.cells t)) ∧ Ev D X inj σ w inj' (upd σ up) (w.alloc (.cells val.cells t)) ∧ AR X inj' (upd σ up) (w.alloc (.cells val.cells t)) r (.pointer (some ⟨w.heap.size, 0, none⟩)) := by
 unfold boxA newA at hr
 split at hr
 case isFalse => simp at hr
 rename_i hk
 simp only [L.run] at hr
 split at hr
 case h_2 => simp at hr
 rename_i g ho
 simp only [L.run_ret, Option.some.injEq, Prod.mk.injEq] at hr
 obtain ⟨rfl, rfl⟩ := hr
 obtain ⟨hc, hone⟩ := AR.cells_of hk hv
 have hn := known_cells hk hv
 have := h.alloc (D := D) (l := k) (g' := g + 1) (e := t) (sz := v.cells.length) (es := [v]) (vs := [val]) (w1 := w) (c := 1) (cur := val.cells) (.inl rfl) (by rw [ho]; exact Nat.lt_succ_self _)
  ⟨val, [], rfl, hv, rfl⟩ (fun u hu => by simp at hu; rw [hu, hn]) (by rw [flat_one]; exact hone) (Nat.le_refl _) (by simp [maxLen]) (by rw [hn]; omega)
  (by rw [flat_one, List.take_of_length_le]; rw [Array.length_toList, hn]; simp)
 exact ⟨_, this.1, this.2, by
  have := LocR_new (inj := fun j => if j = k then some (w.heap.size, 1) else inj j) (σ := supd σ k (.arr t v.cells.length (g + 1) [v])) (b := w.heap.size) (c := 1) (supd_same _ _ _) (by simp) 0 0
  simpa [AR, upd] using this⟩
theorem zero_of {e : TypeId} (hz : (zeroOf P e).isSome = true) : ∃ i z, P.info? e = some i ∧ i.zero = some z ∧ appendA.zeroLen P e = z.cells.size ∧ i.size = P.cellsOf e ∧ i.bytes = P.bytesOf e := by
 unfold zeroOf at hz
 cases hi : P.info? e with
 | none => rw [hi] at hz; cases hz
 | some i =>
  rw [hi] at hz
  cases hzz : i.zero with
  | none => simp [hzz] at hz
  | some z => exact ⟨i, z, rfl, hzz, by simp [appendA.zeroLen, hi, hzz], by simp [Program.cellsOf, hi], by simp [Program.bytesOf, hi]⟩
theorem all_elemOk {sz : Nat} : ∀ {es : List AV} {vs : List Value}, es.all (elemOk sz) = true → ARs X inj σ w es vs → (∀ v ∈ vs, v.cells.size = sz) ∧ oneAll (flat vs)
 | [], _, _, h => by simp only [ARs] at h; subst h; simp [flat, oneAll]
 | e :: es, _, ha, h => by
  simp only [ARs] at h
  obtain ⟨v, r, rfl, h2, h3⟩ := h
  simp only [List.all_cons, Bool.and_eq_true, elemOk, beq_iff_eq] at ha
  obtain ⟨⟨hk, hl⟩, hr⟩ := ha
  obtain ⟨k1, k2⟩ := all_elemOk (sz := sz) (by simpa [elemOk] using hr) h3
  obtain ⟨_, ho⟩ := AR.cells_of hk h2
  refine ⟨fun u hu => ?_, fun u hu => ?_⟩
  ·rcases List.mem_cons.1 hu with rfl | hu
   ·rw [known_cells hk h2, hl]
   ·exact k1 u hu
  ·rw [flat_cons] at hu
   rcases List.mem_append.1 hu with hu | hu
   ·exact ho u hu
   ·exact k2 u hu
theorem elemsA_sound (h : HR X inj σ w) {x : AV} {val : Value} {els : List AV} (hx : AR X inj σ w x val) (hr : (elemsA x).run σ = some els) :
  ∃ a cap vs, val = .slice a els.length cap ∧ els.length ≤ cap ∧ ARs X inj σ w els vs ∧ (vs = [] ∨ ∃ b o sz, a = some ⟨b, o, none⟩ ∧ (∀ v ∈ vs, v.cells.size = sz) ∧
   ∀ j u, (flat vs)[j]? = some u → w.cell? ⟨b, o + j, none⟩ = some u) := by
 cases x with
 | p x =>
  cases x with
  | slc es =>
   simp only [elemsA, L.run_ret, Option.some.injEq] at hr
   subst hr
   obtain ⟨a, cap, vs, rfl, hc, h1, h2⟩ := hx
   refine ⟨a, cap, vs, by simp, by simpa using hc, ARs_map_p.2 h1, ?_⟩
   rcases h2 with h2 | ⟨b, o, sz, ha, hz, _, hr⟩
   ·exact .inl h2
   ·exact .inr ⟨b, o, sz, ha, hz, hr.2.2⟩
  | _ => simp [elemsA] at hr
 | nils =>
  simp only [elemsA, L.run_ret, Option.some.injEq] at hr
  subst hr
  simp only [AR] at hx
  exact ⟨none, 0, [], hx, by simp, rfl, .inl rfl⟩
 | own l g off len =>
  simp only [elemsA, L.run] at hr
  split at hr
  case h_2 => simp at hr
  rename_i e sz g' es ho
  split at hr
  case isFalse => simp at hr
  rename_i hg
  subst hg
  simp only [L.run_ret, Option.some.injEq] at hr
  subst hr
  obtain ⟨vs, o1, o2, o3, o4⟩ := (ho ▸ h.obj l _ rfl : OR X inj σ w l (.arr e sz g es))
  obtain ⟨_, a2⟩ := hx
  obtain ⟨_, a3⟩ := a2 _ ho
  obtain ⟨a4, a5⟩ := a3 rfl e sz es rfl
  have hl : ((es.drop off).take len).length = len := by rw [List.length_take, List.length_drop]; omega
  rcases a5 with ⟨i1, rfl, rfl, rfl⟩ | ⟨b, c, a, i1, rfl, i2, i3⟩
  ·exact ⟨none, 0, [], by simp, by simp, by simp [ARs], .inl rfl⟩
  ·refine ⟨a, c - off, (vs.drop off).take len, by rw [hl], by omega, (o1.drop off).take len, ?_⟩
   by_cases h0 : len = 0
   ·subst h0; exact .inl (by simp)
   ·rcases i3 with ⟨_, i3⟩ | i3
    ·omega
    ·subst i3
     rcases o4 with ⟨o4, _⟩ | ⟨b', c', cur, p1, p2, p3, p4, p5, p6, p7⟩
     ·rw [i1] at o4; cases o4
     ·rw [i1] at p1; cases p1
      have hfl : flat ((vs.drop off).take len) = ((flat vs).drop (off * sz)).take (len * sz) := by
       rw [flat_take len fun v hv => o2 v (List.mem_of_mem_drop hv), flat_drop off o2]
      refine .inr ⟨b, off * sz, sz, rfl, fun v hv => o2 v (List.mem_of_mem_drop (List.mem_of_mem_take hv)), fun j u hu => cell_cur p3 ?_⟩
      rw [hfl, List.getElem?_take] at hu
      split at hu
      ·rw [List.getElem?_drop] at hu
       exact take_get p7 hu
      ·cases hu
 | _ => simp [elemsA] at hr
theorem run_append_zero (w : World) {t ty e : TypeId} {base : Option Addr} {sLen sCap : Nat} {xa : Option Addr} {xc : Nat} (ht : P.underlying t = some (.slice e)) {i : TypeInfo} (hi : P.info? e = some i) (hle : sLen ≤ sCap) :
  (Builtin.append_ #[t, t] ty #[.slice base sLen sCap, .slice xa 0 xc]).run P w = .ok (.slice base sLen sCap) w := by
 cases base <;> cases xa <;> simp [Builtin.append_, run_underlying ht, sizeOf, typeInfo, hi, Builtin.lenOf, hle, Builtin.firstCells, loadCells, loadCellsFrom, storeCells]
theorem HR.other (h : HR X inj σ w) {w' : World} (hos : w'.os = w.os) (htape : w'.tape = w.tape) (hout : w'.output = w.output) (hdr : D → w.drawn ≤ w'.drawn) (hsz : w.heap.size ≤ w'.heap.size)
  (hfz : ∀ a, a.block < w.heap.size → w'.frozen? a = w.frozen? a) (hblk : ∀ b, b < w.heap.size → w'.heap[b]? = w.heap[b]?) : HR X inj σ w' ∧ Ev D X inj σ w inj σ w' := by
 have hev : Ev D X inj σ w inj σ w' := ⟨hos, htape, hout, hdr, hsz, hfz, fun b hb _ => hblk b hb, fun _ hf => .inl hf, fun l => (OEv.refl _).of fun _ => rfl⟩
 refine ⟨⟨fun l o ho => ?_, h.inj1, fun b hb => Nat.lt_of_lt_of_le (h.xlt b hb) hsz⟩, hev⟩
 have h0 := h.obj l o ho
 cases o with
 | dead g => trivial
 | arr e sz g es =>
  obtain ⟨vs, h1, h2, h3, h4⟩ := h0
  refine ⟨vs, ARs.ev hev h.xlt es vs h1, h2, h3, ?_⟩
  rcases h4 with h4 | ⟨b, c, cur, h5, h6, h7, h8⟩
  ·exact .inl h4
  ·exact .inr ⟨b, c, cur, h5, h6, by rw [hblk b (Array.getElem?_eq_some_iff.1 h7).1]; exact h7, h8⟩
 | map g ks vs =>
  obtain ⟨b, c, ms, clock, h5, h6, h7, h8, h9⟩ := h0
  exact ⟨b, c, ms, clock, h5, h6, by rw [hblk b (Array.getElem?_eq_some_iff.1 h7).1]; exact h7, ARs.ev hev h.xlt ks _ h8, ARs.ev hev h.xlt vs _ h9⟩
theorem clipA_sound (h : HR X inj σ w) {t ty e : TypeId} {as bs : List PV} {sv xv : Value} (ht : P.underlying t = some (.slice e)) (hs : AR X inj σ w (.p (.clip as)) sv) (hx : AR X inj σ w (.p (.slc bs)) xv)
  (ha : (as.map AV.p).all (elemOk (P.cellsOf e)) = true) (hb : (bs.map AV.p).all (elemOk (P.cellsOf e)) = true) (hroom : roomOk P e (as.length + bs.length) = true) (hpos : 0 < P.cellsOf e) (hzs : (zeroOf P e).isSome = true) (hzl : appendA.zeroLen P e = P.cellsOf e) :
  ∃ val w', (Builtin.append_ #[t, t] ty #[sv, xv]).run P w = .ok val w' ∧ HR X inj σ w' ∧ Ev D X inj σ w inj σ w' ∧ AR X inj σ w' (.p (.slc (as ++ bs))) val := by
 simp only [roomOk, decide_eq_true_eq] at hroom
 obtain ⟨hby, h63⟩ := hroom
 obtain ⟨i, z, hi, hz, hzl', his, hib⟩ := zero_of hzs
 obtain ⟨a, vs, rfl, hvs, hsa⟩ := hs
 obtain ⟨xa, xc, us, rfl, hxc, hus, hxa⟩ := hx
 obtain ⟨hvz, hv1⟩ := all_elemOk ha (ARs_map_p.2 hvs)
 obtain ⟨huz, hu1⟩ := all_elemOk hb (ARs_map_p.2 hus)
 have hvl := hvs.length
 have hul := hus.length
 have hflv : (flat vs).length = as.length * P.cellsOf e := by rw [flat_length hvz, hvl]
 have hflu : (flat us).length = bs.length * P.cellsOf e := by rw [flat_length huz, hul]
 have hmax : as.length + bs.length ≤ maxLen := by simp only [maxLen]; omega
 by_cases hm : bs.length = 0
 ·have he : bs = [] := List.eq_nil_of_length_eq_zero hm
  subst he
  refine ⟨_, w, run_append_zero w ht hi (Nat.le_refl _), h, Ev.refl _ _ _ _, ?_⟩
  rw [List.append_nil]
  exact ⟨a, as.length, vs, rfl, Nat.le_refl _, hvs, hsa⟩
 ·obtain ⟨xb, xo, rfl, hn⟩ : ∃ xb xo, xa = some ⟨xb, xo, none⟩ ∧ ∀ j u, (flat us)[j]? = some u → w.cell? ((⟨xb, xo, none⟩ : Addr).add j) = some u := by
   rcases hxa with rfl | ⟨b, o, sz, hxa, _, _, _, _, hc⟩
   ·simp only [List.length_nil] at hul; omega
   ·exact ⟨b, o, hxa, fun j u hu => by rw [Addr.add_lit]; exact hc j u hu⟩
  have fin : ∀ old, old = as.length → (Builtin.append_ #[t, t] ty #[.slice a as.length as.length, .slice (some ⟨xb, xo, none⟩) bs.length xc]).run P w = .ok (.slice (some ⟨w.heap.size, 0, none⟩) (as.length + bs.length) (grownCap w (as.length + bs.length) old e)) (w.drew.alloc (.cells ((flat vs).toArray ++ (flat us).toArray ++ Builtin.zeroCells z.cells (grownCap w (as.length + bs.length) old e - (as.length + bs.length))) e)) →
    ∃ val w', (Builtin.append_ #[t, t] ty #[.slice a as.length as.length, .slice (some ⟨xb, xo, none⟩) bs.length xc]).run P w = .ok val w' ∧ HR X inj σ w' ∧ Ev D X inj σ w inj σ w' ∧ AR X inj σ w' (.p (.slc (as ++ bs))) val := by
   intro old ho hrun
   have hnew : ∀ (o : Obj) (k : Nat), k < w.heap.size → (w.drew.alloc o).heap[k]? = w.heap[k]? := fun o k hk => by
    show (w.heap.push _)[k]? = _
    rw [Array.getElem?_push, if_neg (by omega)]
   obtain ⟨q1, q2⟩ := h.other (D := D) (w' := w.drew.alloc (.cells ((flat vs).toArray ++ (flat us).toArray ++ Builtin.zeroCells z.cells (grownCap w (as.length + bs.length) old e - (as.length + bs.length))) e)) rfl rfl rfl (fun _ => Nat.le_succ _) (by simp) (fun a _ => frozen_alloc w.drew _ e a) (fun k hk => hnew _ k hk)
   have hk : Keeps (fun b => X b ∨ F inj σ b) (fun b => X b ∨ F inj σ b) w (w.drew.alloc (.cells ((flat vs).toArray ++ (flat us).toArray ++ Builtin.zeroCells z.cells (grownCap w (as.length + bs.length) old e - (as.length + bs.length))) e)) :=
    ⟨by simp, fun k hk _ => hnew _ k hk, fun _ _ h => h⟩
   refine ⟨_, _, hrun, q1, q2, ⟨_, _, vs ++ us, by rw [List.length_append], by rw [List.length_append]; exact grownCap_ge w _ old e, by have := (ARs_map_p (inj := inj) (σ := σ).2 (PRs.keep hk as vs hvs)).append (ARs_map_p.2 (PRs.keep hk bs us hus)); rw [← List.map_append] at this; exact ARs_map_p.1 this, .inr ⟨w.heap.size, 0, P.cellsOf e, rfl, fun v hv => ?_, ?_, ?_⟩⟩⟩
   ·rcases List.mem_append.1 hv with hv | hv
    ·exact hvz v hv
    ·exact huz v hv
   ·rw [flat_append]; intro v hv
    rcases List.mem_append.1 hv with hv | hv
    ·exact hv1 v hv
    ·exact hu1 v hv
   ·refine ⟨by simp, fun hX => ?_, fun j u hu => ?_⟩
    ·rcases hX with hX | hX
     ·have := h.xlt _ hX; omega
     ·have := (h.flt hX).1; omega
    ·rw [flat_append] at hu
     have hj : j < (flat vs ++ flat us).length := by
      rcases Nat.lt_or_ge j (flat vs ++ flat us).length with hj | hj
      ·exact hj
      ·rw [List.getElem?_eq_none hj] at hu; cases hu
     rw [Nat.zero_add]
     rw [cell_of_row _ w.heap.size j _ e (0, 0) (heap_alloc_new w.drew _)]
     have : ((flat vs).toArray ++ (flat us).toArray ++ Builtin.zeroCells z.cells (grownCap w (as.length + bs.length) old e - (as.length + bs.length))).toList[j]? = some u := by
      simp only [Array.toList_append]
      rw [List.getElem?_append_left hj]; exact hu
     rw [← Array.getElem?_toList]; exact this
  cases a with
  | none =>
   have hv0 : vs = [] := by
    rcases hsa with h | ⟨b, o, sz, h, _⟩
    ·exact h
    ·cases h
   have ha0 : as.length = 0 := by rw [hvl, hv0]; rfl
   refine fin 0 ha0.symm ?_
   rw [ha0, hv0]
   have hrun := run_append_nil (P := P) w t ty e i z ht hi hz ⟨xb, xo, none⟩ bs.length xc (flat us) (by rw [hflu, his]) hn (by omega) (by omega) (by rw [hib]; rw [ha0] at hby; simp only [Nat.zero_add] at hby; omega)
   simpa [flat] using hrun
  | some ad =>
   have holds : ∀ j u, (flat vs)[j]? = some u → w.cell? (ad.add j) = some u := by
    rcases hsa with rfl | ⟨b, o, sz, hxa, _, _, _, _, hc⟩
    ·intro j u hu; simp [flat] at hu
    ·cases hxa; intro j u hu; rw [Addr.add_lit]; exact hc j u hu
   exact fin _ rfl (run_append_grow (P := P) w t ty e i z ht hi hz ad as.length as.length (flat vs) (by rw [hflv, his]) holds ⟨xb, xo, none⟩ bs.length xc (flat us) (by rw [hflu, his]) hn (by omega) (by omega) (growslice_fits (by omega) (by rw [hib]; exact hby)))
theorem appendA_sound (h : HR X inj σ w) {k : Nat} {t ty : TypeId} {s x r : AV} {sv xv : Value} {up : Upd} (hs : AR X inj σ w s sv) (hx : AR X inj σ w x xv)
  (hr : (appendA P k t s x).run σ = some (r, up)) :
  ∃ val w' inj', (Builtin.append_ #[t, t] ty #[sv, xv]).run P w = .ok val w' ∧ HR X inj' (upd σ up) w' ∧ Ev D X inj σ w inj' (upd σ up) w' ∧ AR X inj' (upd σ up) w' r val := by
 unfold appendA at hr
 split at hr
 case h_2 => simp at hr
 rename_i e ht
 split at hr
 case h_4 => simp at hr
 case h_3 =>
  split at hr
  case h_2 => simp at hr
  split at hr
  case isFalse => simp at hr
  rename_i hc
  obtain ⟨c1, c2, c3, c4, c5, c6⟩ := hc
  simp only [L.run_ret, Option.some.injEq, Prod.mk.injEq] at hr
  obtain ⟨rfl, rfl⟩ := hr
  obtain ⟨val, w', q1, q2, q3, q4⟩ := clipA_sound (D := D) (ty := ty) h ht hs hx c1 c2 c3 c4 c5 c6
  exact ⟨val, w', inj, q1, q2, q3, q4⟩
 ·rename_i l g off len
  simp only [L.run_bind'] at hr
  cases hel : (elemsA x).run σ with
  | none => rw [hel] at hr; cases hr
  | some els =>
   rw [hel] at hr
   simp only [Option.bind_some, L.run] at hr
   split at hr
   case h_2 => simp at hr
   rename_i e' sz g' es ho
   split at hr
   case isFalse => simp at hr
   rename_i hc
   obtain ⟨rfl, rfl, rfl, rfl, rfl, hall, hroom, hpos, hzs, hzl⟩ := hc
   simp only [L.run_ret, Option.some.injEq, Prod.mk.injEq] at hr
   obtain ⟨rfl, rfl⟩ := hr
   simp only [roomOk, decide_eq_true_eq] at hroom
   obtain ⟨hby, h63⟩ := hroom
   obtain ⟨i, z, hi, hz, hzl', his, hib⟩ := zero_of hzs
   obtain ⟨xa, xc, us, rfl, hxc, hus, hmem⟩ := elemsA_sound h hx hel
   obtain ⟨hsz, hone⟩ := all_elemOk hall hus
   obtain ⟨vs, o1, o2, o3, o4⟩ := (ho ▸ h.obj l _ rfl : OR X inj σ w l (.arr e (P.cellsOf e) g es))
   obtain ⟨_, a2⟩ := hs
   obtain ⟨_, a3⟩ := a2 _ ho
   obtain ⟨a4, a5⟩ := a3 rfl e _ es rfl
   have hvl := o1.length
   have hul := hus.length
   have hflv : (flat vs).length = es.length * P.cellsOf e := by rw [flat_length o2, hvl]
   have hflu : (flat us).length = els.length * P.cellsOf e := by rw [flat_length hsz, hul]
   have hgen : (σ l).gen < g + 1 := by rw [ho]; exact Nat.lt_succ_self _
   have hall2 : ∀ v ∈ vs ++ us, v.cells.size = P.cellsOf e := fun v hv => by
    rcases List.mem_append.1 hv with hv | hv
    ·exact o2 v hv
    ·exact hsz v hv
   have hone2 : oneAll (flat (vs ++ us)) := fun v hv => by
    rw [flat_append] at hv
    rcases List.mem_append.1 hv with hv | hv
    ·exact o3 v hv
    ·exact hone v hv
   have hmax : es.length + els.length ≤ maxLen := by simp only [maxLen]; omega
   -- the grown block
   have grow : ∀ (old : Nat), old < es.length + els.length → ∀ base : Option Addr, ∀ olds : List Value, olds = flat vs →
     ∃ val w' inj', (Result.ok (Value.slice (some ⟨w.heap.size, 0, none⟩) (es.length + els.length) (grownCap w (es.length + els.length) old e)) (w.drew.alloc (.cells (olds.toArray ++ (flat us).toArray ++ Builtin.zeroCells z.cells (grownCap w (es.length + els.length) old e - (es.length + els.length))) e)) : Result Value) = .ok val w' ∧
     HR X inj' (upd σ (some (l, .arr e (P.cellsOf e) (g + 1) (es ++ els)))) w' ∧ Ev D X inj σ w inj' (upd σ (some (l, .arr e (P.cellsOf e) (g + 1) (es ++ els)))) w' ∧
     AR X inj' (upd σ (some (l, .arr e (P.cellsOf e) (g + 1) (es ++ els)))) w' (.own l (g + 1) 0 (es.length + els.length)) val := by
    intro old hold base olds holds
    subst holds
    have hge := grownCap_ge w (es.length + els.length) old e
    have := h.alloc (D := D) (l := l) (g' := g + 1) (e := e) (sz := P.cellsOf e) (es := es ++ els) (vs := vs ++ us) (w1 := w.drew) (c := grownCap w (es.length + els.length) old e)
     (cur := (flat vs).toArray ++ (flat us).toArray ++ Builtin.zeroCells z.cells (grownCap w (es.length + els.length) old e - (es.length + els.length))) (.inr rfl) hgen (o1.append hus) hall2 hone2
     (by rw [List.length_append]; exact hge) (grownCap_le_maxLen w _ old e hmax)
     (by
      simp only [Array.size_append, List.size_toArray, size_zeroCells]
      rw [hflv, hflu, ← hzl', hzl, ← Nat.add_mul, ← Nat.add_mul]
      congr 1; omega)
     (by
      simp only [Array.toList_append, List.append_assoc]
      rw [← List.append_assoc, flat_append]
      exact List.take_left' (by rw [List.length_append, hflv, hflu, List.length_append, Nat.add_mul]))
    exact ⟨_, _, _, rfl, this.1, this.2, OwnR_new (inj := fun j => if j = l then some (w.heap.size, grownCap w (es.length + els.length) old e) else inj j) (supd_same _ _ _) (by simp) (by simp) hge⟩
   by_cases hm : els.length = 0
   · -- nothing to append
    have he : els = [] := List.eq_nil_of_length_eq_zero hm
    subst he
    have hu : us = [] := List.eq_nil_of_length_eq_zero (by rw [← hul]; rfl)
    subst hu
    have hup := h.update (D := D) (w' := w) (l := l) (o := σ l) (o' := .arr e (P.cellsOf e) (g + 1) es) (x := inj l) rfl rfl rfl rfl (fun _ => Nat.le_refl _) (Nat.le_refl _) (fun _ _ => rfl) (fun _ _ _ => rfl)
     (fun b c hb => .inr ⟨by rw [ho]; rfl, c, hb⟩) ⟨Nat.le_of_lt hgen, fun _ he => by rw [he] at hgen; simp only [AO.gen] at hgen; omega⟩
    rw [inj_same] at hup
    obtain ⟨hev, hhr⟩ := hup
    have hsv : ∃ base c0, sv = .slice base es.length c0 ∧ es.length ≤ c0 := by
     rcases a5 with ⟨_, rfl, _, h0⟩ | ⟨b, c, a, _, rfl, i2, _⟩
     ·exact ⟨none, 0, by rw [h0], by omega⟩
     ·exact ⟨a, c - 0, rfl, by omega⟩
    obtain ⟨base, c0, rfl, hle⟩ := hsv
    refine ⟨_, w, inj, run_append_zero w ht hi hle, ?_, ?_, ?_⟩
    ·simp only [List.append_nil, upd]
     refine hhr ⟨vs, ARs.ev hev h.xlt es vs o1, o2, o3, ?_⟩
     exact o4
    ·simpa [upd] using hev
    ·simp only [List.append_nil, List.length_nil, Nat.add_zero, upd]
     refine ⟨⟨_, _, _, rfl⟩, fun o1' ho1' => ?_⟩
     rw [supd_same] at ho1'; subst ho1'
     refine ⟨Nat.le_refl _, fun _ e2 sz2 es2 he2 => ?_⟩
     cases he2
     exact ⟨by omega, a5⟩
   ·have hnews : ∀ (a : Addr), xa = some a → ∀ j u, (flat us)[j]? = some u → w.cell? (a.add j) = some u := by
     intro a ha j u hu
     rcases hmem with rfl | ⟨b, o, sz, hxa, _, hc⟩
     ·simp only [List.length_nil] at hul; omega
     ·rw [ha] at hxa; cases hxa
      rw [Addr.add_lit]; exact hc j u hu
    obtain ⟨xb, xo, rfl⟩ : ∃ xb xo, xa = some ⟨xb, xo, none⟩ := by
     rcases hmem with rfl | ⟨b, o, sz, hxa, _, hc⟩
     ·simp only [List.length_nil] at hul; omega
     ·exact ⟨b, o, hxa⟩
    have hn := hnews _ rfl
    rcases a5 with ⟨i1, rfl, _, h0⟩ | ⟨b, c, a, i1, rfl, i2, i3⟩
    ·have hes : es = [] := List.eq_nil_of_length_eq_zero h0
     subst hes
     have hv0 : vs = [] := List.eq_nil_of_length_eq_zero (by rw [← hvl]; rfl)
     subst hv0
     have hrun := run_append_nil (P := P) w t ty e i z ht hi hz ⟨xb, xo, none⟩ els.length xc (flat us) (by rw [hflu, his]) hn (by omega) (by omega) (by rw [hib]; simp only [List.length_nil, Nat.zero_add] at hby; omega)
     obtain ⟨val, w', inj', q1, q2⟩ := grow 0 (by omega) none [] rfl
     refine ⟨val, w', inj', ?_, q2⟩
     rw [hrun, ← q1]
     simp
    ·simp only [Nat.sub_zero, ne_eq, not_true_eq_false, false_and, Nat.zero_mul, false_or] at i3 ⊢
     subst i3
     rcases o4 with ⟨o4, _⟩ | ⟨b', c', cur, p1, p2, p3, p4, p5, p6, p7⟩
     ·rw [i1] at o4; cases o4
     rw [i1] at p1; cases p1
     by_cases hfit : es.length + els.length ≤ c
     · -- room
      have hmul : (es.length + els.length) * P.cellsOf e ≤ c * P.cellsOf e := Nat.mul_le_mul_right _ hfit
      rw [Nat.add_mul] at hmul
      have hrun := run_append_room (P := P) w t ty e i ht hi b es.length c cur p3 ⟨xb, xo, none⟩ els.length xc (flat us) (by rw [hflu, his]) hn hone hfit (by rw [his, hflu, p6]; exact hmul)
      have hup := h.update (D := D) (w' := w.setRow b (splice cur.toList (es.length * P.cellsOf e) (flat us)).toArray) (l := l) (o := σ l) (o' := .arr e (P.cellsOf e) (g + 1) (es ++ els)) (x := inj l) rfl rfl rfl rfl (fun _ => Nat.le_refl _) (by simp)
       (fun a _ => frozen_setRow w b _ a) (fun k hk hne => setRow_other w b k _ (fun e => hne (by rw [ho]; rfl) c (by rw [e]; exact i1)))
       (fun b1 c1 h1 => .inr ⟨by rw [ho]; rfl, c1, h1⟩) ⟨Nat.le_of_lt hgen, fun _ he => by rw [he] at hgen; simp only [AO.gen] at hgen; omega⟩
      rw [inj_same] at hup
      obtain ⟨hev, hhr⟩ := hup
      have hct : cur.toList.length = c * P.cellsOf e := by rw [Array.length_toList, p6]
      have hsl : es.length * P.cellsOf e + (flat us).length ≤ cur.toList.length := by rw [hct, hflu]; exact hmul
      refine ⟨.slice (some ⟨b, 0, none⟩) (es.length + els.length) c, w.setRow b (splice cur.toList (es.length * P.cellsOf e) (flat us)).toArray, inj, ?_, hhr ⟨vs ++ us, (ARs.ev hev h.xlt es vs o1).append (ARs.ev hev h.xlt els us hus), hall2, hone2, .inr ⟨b, c, _, i1, p2, setRow_heap w b cur _ e _ p3, by rw [List.length_append]; exact hfit, p5, ?_, ?_⟩⟩, hev, ?_⟩
      ·rw [hrun, his]; rfl
      ·rw [List.size_toArray, length_splice _ _ _ hsl, hct]
      ·show (splice cur.toList (es.length * P.cellsOf e) (flat us)).take _ = _
       unfold splice
       rw [p7, flat_append]
       exact List.take_left' (by rw [List.length_append, hflv, hflu, List.length_append, Nat.add_mul])
      ·exact OwnR_new (supd_same _ _ _) i1 (by simp) hfit
     ·have holds : ∀ j u, (flat vs)[j]? = some u → w.cell? ((⟨b, 0, none⟩ : Addr).add j) = some u := fun j u hu => by
       rw [Addr.add_lit, Nat.zero_add]; exact cell_cur p3 (take_get p7 hu)
      have hrun := run_append_grow (P := P) w t ty e i z ht hi hz ⟨b, 0, none⟩ es.length c (flat vs) (by rw [hflv, his]) holds ⟨xb, xo, none⟩ els.length xc (flat us) (by rw [hflu, his]) hn (by omega) (by omega)
       (growslice_fits (by omega) (by rw [hib]; exact hby))
      obtain ⟨val, w', inj', q1, q2⟩ := grow c (by omega) none (flat vs) rfl
      exact ⟨val, w', inj', by rw [hrun, ← q1], q2⟩
 ·simp only [L.run_bind'] at hr
  cases hel : (elemsA x).run σ with
  | none => rw [hel] at hr; cases hr
  | some els =>
   rw [hel] at hr
   simp only [Option.bind_some] at hr
   split at hr
   case isFalse => simp at hr
   rename_i hc
   obtain ⟨hall, hroom, hpos, hzs, hzl⟩ := hc
   simp only [newA, L.run] at hr
   split at hr
   case h_2 => simp at hr
   rename_i g0 ho
   simp only [L.run_ret, Option.some.injEq, Prod.mk.injEq] at hr
   obtain ⟨rfl, rfl⟩ := hr
   simp only [roomOk, decide_eq_true_eq] at hroom
   obtain ⟨hby, h63⟩ := hroom
   obtain ⟨i, z, hi, hz, hzl', his, hib⟩ := zero_of hzs
   obtain ⟨xa, xc, us, rfl, hxc, hus, hmem⟩ := elemsA_sound h hx hel
   obtain ⟨hsz, hone⟩ := all_elemOk hall hus
   simp only [AR] at hs
   subst hs
   have hul := hus.length
   have hflu : (flat us).length = els.length * P.cellsOf e := by rw [flat_length hsz, hul]
   have hgen : (σ k).gen < g0 + 1 := by rw [ho]; exact Nat.lt_succ_self _
   by_cases hm : els.length = 0
   ·have he : els = [] := List.eq_nil_of_length_eq_zero hm
    subst he
    have hup := h.update (D := D) (w' := w) (l := k) (o := σ k) (o' := .arr e (P.cellsOf e) (g0 + 1) []) (x := none) rfl rfl rfl rfl (fun _ => Nat.le_refl _) (Nat.le_refl _) (fun _ _ => rfl) (fun _ _ _ => rfl)
     (fun b c hb => by cases hb) ⟨Nat.le_of_lt hgen, fun _ he => by rw [he] at hgen; simp only [AO.gen] at hgen; omega⟩
    obtain ⟨hev, hhr⟩ := hup
    refine ⟨_, w, _, run_append_zero w ht hi (Nat.le_refl _), hhr ⟨[], rfl, by simp, by simp [flat, oneAll], .inl ⟨by simp, rfl⟩⟩, hev, ?_⟩
    refine ⟨⟨_, _, _, rfl⟩, fun o1' ho1' => ?_⟩
    simp only [upd, supd_same] at ho1'; subst ho1'
    refine ⟨Nat.le_refl _, fun _ e2 sz2 es2 he2 => ?_⟩
    cases he2
    exact ⟨by simp, .inl ⟨by simp, rfl, rfl, rfl⟩⟩
   ·obtain ⟨xb, xo, rfl, hn⟩ : ∃ xb xo, xa = some ⟨xb, xo, none⟩ ∧ ∀ j u, (flat us)[j]? = some u → w.cell? ((⟨xb, xo, none⟩ : Addr).add j) = some u := by
     rcases hmem with rfl | ⟨b, o, sz, hxa, _, hc⟩
     ·simp only [List.length_nil] at hul; omega
     ·exact ⟨b, o, hxa, fun j u hu => by rw [Addr.add_lit]; exact hc j u hu⟩
    have hrun := run_append_nil (P := P) w t ty e i z ht hi hz ⟨xb, xo, none⟩ els.length xc (flat us) (by rw [hflu, his]) hn (by omega) (by omega) (by rw [hib]; omega)
    have hge := grownCap_ge w els.length 0 e
    have := h.alloc (D := D) (l := k) (g' := g0 + 1) (e := e) (sz := P.cellsOf e) (es := els) (vs := us) (w1 := w.drew) (c := grownCap w els.length 0 e)
     (cur := (flat us).toArray ++ Builtin.zeroCells z.cells (grownCap w els.length 0 e - els.length)) (.inr rfl) hgen hus hsz hone hge (grownCap_le_maxLen w _ 0 e (by simp only [maxLen]; omega))
     (by
      simp only [Array.size_append, List.size_toArray, size_zeroCells]
      rw [hflu, ← hzl', hzl, ← Nat.add_mul]
      congr 1; omega)
     (by
      simp only [Array.toList_append]
      exact List.take_left' hflu)
    exact ⟨_, _, _, hrun, this.1, this.2, OwnR_new (inj := fun j => if j = k then some (w.heap.size, grownCap w els.length 0 e) else inj j) (supd_same _ _ _) (by simp) (Nat.le_refl _) hge⟩
end Go.Ab
namespace Go.Ab
open Go
set_option linter.unusedVariables false
set_option linter.unusedSimpArgs false
def fillG (place : Nat → Option (Nat × Nat)) (base : List AV) : List (Nat × AV) → Option (List AV)
 | [] => some base
 | (i, v) :: r => match place i with
  | some (off, size) => if v.known && v.cells.length == size && decide (off + size ≤ base.length) then fillG place (splice base off v.cells) r else none
  | none => none
def placesA (P : Program) (fs : Array Field) (i : Nat) : Option (Nat × Nat) := (fs[i]?).map fun f => (f.offset, P.cellsOf f.type)
def buildA (P : Program) (t : TypeId) (parts : List (Nat × AV)) : Option AV :=
 match P.underlying t, zeroOf P t with
 | some (.struct fs), some z => if z.known && fs.toList.all (fun f => (P.info? f.type).isSome) then (fillG (placesA P fs) z.cells parts).map mkAgg else none
 | some (.array _ e), some z => if z.known && (P.info? e).isSome then (fillG (fun i => some (i * P.cellsOf e, P.cellsOf e)) z.cells parts).map mkAgg else none
 | _, _ => none
def buildSliceA (P : Program) (k : Nat) (t : TypeId) (len : Nat) (parts : List (Nat × AV)) : L (AV × Upd) :=
 match P.underlying t with
 | some (.slice e) =>
  if parts.map (·.1) = List.range len ∧ (parts.map (·.2)).all (elemOk (P.cellsOf e)) = true ∧ len * P.cellsOf e ≤ 16777216 ∧ 0 < P.cellsOf e ∧ len ≤ 9223372036854775807 ∧ (zeroOf P e).isSome = true then
   newA k fun g => (.arr e (P.cellsOf e) g (parts.map (·.2)), .own k g 0 len)
  else .fail
 | _ => .fail
def makeSliceA (P : Program) (k : Nat) (t : TypeId) (l c : AV) : L (AV × Upd) :=
 match P.underlying t, l, c with
 | some (.slice e), .p (.int _ n), .p (.int _ m) =>
  (match zeroOf P e with
  | some z => if 0 ≤ n ∧ n = m ∧ roomOk P e n.toNat = true ∧ elemOk (P.cellsOf e) z = true then
    newA k fun g => (.arr e (P.cellsOf e) g (List.replicate n.toNat z), .own k g 0 n.toNat)
   else .fail
  | none => .fail)
 | _, _, _ => .fail
def fieldAddrA (P : Program) (s : TypeId) (f : Nat) (x : AV) : Option AV :=
 match fieldOff P s f with
 | some o => (match x with
  | .loc l g i off => some (.loc l g i (off + o))
  | .p (.imm cs) => some (.p (.imm (cs.drop o)))
  | _ => none)
 | none => none
def indexA (P : Program) (t : TypeId) (x : AV) (i : Int) : Option AV :=
 match P.underlying t, x with
 | some .string, .p (.str s) => if 0 ≤ i then (s[i.toNat]?).map fun b => .p (.int .u8 b.toNat) else none
 | _, _ => none
def convA (P : Program) (src dst : TypeId) (x : AV) : Option AV :=
 match P.underlying src, P.underlying dst, x with
 | some _, some (.int k), .p (.int _ n) => some (.p (.int k (k.wrap n)))
 | some .string, some .string, .p (.str s) => some x
 | _, _, _ => none
def max2A : AV → AV → Option AV
 | .p (.int k x), .p (.int _ y) => some (.p (.int k (if y > x then y else x)))
 | _, _ => none
def min2A : AV → AV → Option AV
 | .p (.int k x), .p (.int _ y) => some (.p (.int k (if y < x then y else x)))
 | _, _ => none
def foldB (f : AV → AV → Option AV) : AV → List AV → Option AV
 | x, [] => some x
 | x, y :: r => match f x y with
  | some z => foldB f z r
  | none => none
def foldA (f : AV → AV → Option AV) : List AV → Option AV
 | [] => none
 | x :: r => foldB f x r
def L.ofOpt {α : Type} : Option α → L α
 | some a => .ret a
 | none => .fail
@[simp] theorem L.run_ofOpt {α : Type} (o : Option α) (σ) : (L.ofOpt o).run σ = o := by cases o <;> rfl
def fieldA (P : Program) (s : TypeId) (f : Nat) (x : AV) : Option AV :=
 match P.underlying s with
 | some (.struct fs) => (match fs[f]? with | some fd => if x.known && x.isAgg then partA P fd.type x.cells fd.offset else none | none => none)
 | _ => none
def entriesA (m : AV) : L (List AV × List AV) := match m with
 | .p (.mapv ks vs) => .ret (ks.map .p, vs.map .p)
 | .mapo l g => .look l fun o => match o with
  | .map g' ks vs => if g = g' then .ret (ks, vs) else .fail
  | _ => .fail
 | _ => .fail
def clearA (P : Program) (t : TypeId) (x : AV) : L (AV × Upd) := match P.underlying t, x with
 | some (.slice e), .own l g off len => .look l fun o => (match o with
   | .arr e' sz g' es => if g = g' ∧ e = e' ∧ sz = P.cellsOf e ∧ off + len ≤ es.length then (match zeroOf P e with
     | some z => if elemOk (P.cellsOf e) z = true then .ret (.p (.tup []), some (l, .arr e sz g (es.take off ++ List.replicate len z ++ es.drop (off + len)))) else .fail
     | none => .fail) else .fail
   | _ => .fail)
 | some (.slice _), .nils => .ret (.p (.tup []), none)
 | _, _ => .fail
def findA (P : Program) (kt : TypeId) (k : PV) : List PV → List AV → Option (Option AV)
 | [], _ => some none
 | x :: xs, v :: vs => match keyEqK P kt k x with
  | some true => some (some v)
  | some false => findA P kt k xs vs
  | none => none
 | _ :: _, [] => none
def updA (P : Program) (kt : TypeId) (k : PV) (v : AV) : List PV → List AV → Option (List PV × List AV)
 | [], [] => some ([k], [v])
 | x :: xs, u :: us => match keyEqK P kt k x with
  | some true => some (x :: xs, v :: us)
  | some false => (updA P kt k v xs us).map fun r => (x :: r.1, u :: r.2)
  | none => none
 | _, _ => none
def keyB (P : Program) (kt : TypeId) (k : PV) : Bool := match P.underlying kt, k with
 | some (.int q), .int q' _ => decide (q' = q)
 | some .string, .str _ => true
 | some .bool, .bool _ => true
 | some (.struct _), .agg xs => (eqT P 9 kt xs xs).isSome
 | some (.array _ _), .agg xs => (eqT P 9 kt xs xs).isSome
 | _, _ => false
def zeroM (P : Program) (t : TypeId) : Option AV := match P.underlying t with
 | some (.slice _) => (match zeroOf P t with | some .nils => some (.p (.slc [])) | _ => none)
 | _ => zeroOf P t
def lookupA (P : Program) (t : TypeId) (m k : AV) (c : Bool) : L AV := match P.underlying t, k with
 | some (.map kt et), .p key => (match keyB P kt key, zeroM P et with
  | true, some z => (entriesA m).bind fun e => (match allP e.1 with
   | some ks => (match findA P kt key ks e.2 with
    | some r => .ret (if c then mkTup [r.getD z, .p (.bool r.isSome)] else r.getD z)
    | none => .fail)
   | none => .fail)
  | _, _ => .fail)
 | _, _ => .fail
def mapUpdA (P : Program) (t : TypeId) (m k v : AV) : L (AV × Upd) := match P.underlying t, m, k with
 | some (.map kt _), .mapo l g, .p key => if keyB P kt key && v.known then .look l fun o => (match o with
   | .map g' ks vs => if g = g' then (match allP ks with
    | some kxs => (match updA P kt key v kxs vs with
     | some r => .ret (.any, some (l, .map g (r.1.map .p) r.2))
     | none => .fail)
    | none => .fail) else .fail
   | _ => .fail) else .fail
 | _, _, _ => .fail
def makeMapA (P : Program) (k : Nat) (t : TypeId) : L (AV × Upd) := match P.underlying t with
 | some (.map _ _) => newA k fun g => (.map g [] [], .mapo k g)
 | _ => .fail
def quietA (m : L AV) : L (AV × Upd) := m.bind fun v => .ret (v, none)
def dstOf (B : Nat) (o : Oper) : Nat := B + o.dst.getD 0
def asBytes : List AV → Option (List UInt8)
 | [] => some []
 | .p (.int .u8 n) :: r => (asBytes r).map (UInt8.ofNat n.toNat :: ·)
 | _ :: _ => none
def bytesT (P : Program) (src dst : TypeId) : Bool :=
 match P.underlying src, P.underlying dst with
 | some (.slice e), some .string => (match P.underlying e with | some (.int .u8) => true | _ => false)
 | _, _ => false
def convBA (P : Program) (src dst : TypeId) (x : AV) : L AV :=
 match bytesT P src dst with
 | true => (elemsA x).bind fun els => .ofOpt ((asBytes els).map fun s => .p (.str s))
 | false => .ofOpt (convA P src dst x)
def nilA : AV → Option AV
 | .loc l g i off => some (.loc l g i off)
 | .p (.imm cs) => some (.p (.imm cs))
 | _ => none
def aop (P : Program) (B : Nat) (ρ : Operand → AV) (o : Oper) : L (AV × Upd) :=
 match o.op with
 | .move x | .assign x => .ret (ρ x, none)
 | .pick c a b => (match ρ c with
  | .p (.bool t) => .ret (if t then ρ a else ρ b, none)
  | _ => .fail)
 | .alloc t => (match zeroOf P t with
  | some z => if z.cells.length = P.cellsOf t then boxA P (dstOf B o) t z else .fail
  | none => .fail)
 | .box t x => boxA P (dstOf B o) t (ρ x)
 | .build t parts => quietA (.ofOpt (buildA P t (parts.toList.map fun p => (p.1, ρ p.2))))
 | .buildSlice t len parts => buildSliceA P (dstOf B o) t len (parts.toList.map fun p => (p.1, ρ p.2))
 | .load t x => quietA (loadA P t (ρ x))
 | .store t a x => storeA P t (ρ a) (ρ x)
 | .binOp op t x y _ => quietA (.ofOpt (binA P op t (ρ x) (ρ y)))
 | .unOp op _ x => quietA (.ofOpt (unA op (ρ x)))
 | .convert src dst x => quietA (convBA P src dst (ρ x))
 | .makeFunc fn first captured => if first.size = 0 then .ret (mkFunc fn (captured.toList.map ρ), none) else .fail
 | .makeSlice t l c => makeSliceA P (dstOf B o) t (ρ l) (ρ c)
 | .slice t x lo hi none => (match P.underlying t, optInt (lo.map ρ), optInt (hi.map ρ) with
  | some .string, some l, some h => (match ρ x with | .p (.str _) => quietA (sliceA (ρ x) l h) | _ => .fail)
  | some (.slice e), some l, some h => (match ρ x with | .p (.str _) => .fail | _ => if tyOk P e = true then quietA (sliceT P e (ρ x) l h) else .fail)
  | _, _, _ => .fail)
 | .slice t x none (some h) (some m) => (match P.underlying t, ρ x, ρ h, ρ m with
  | some (.slice e), .p (.slc es), .p (.int _ hi), .p (.int _ mx) => if mx = hi ∧ 0 ≤ hi ∧ hi ≤ es.length ∧ tyOk P e = true then quietA (.ret (.p (.clip (es.take hi.toNat)))) else .fail
  | _, _, _, _ => .fail)
 | .fieldAddr s x f => quietA (.ofOpt (fieldAddrA P s f (ρ x)))
 | .indexAddr t x ix => (match intOf? (ρ ix) with
  | some i => quietA (indexAddrA P t (ρ x) i)
  | none => .fail)
 | .index t x ix => (match intOf? (ρ ix) with
  | some i => quietA (.ofOpt (indexA P t (ρ x) i))
  | none => .fail)
 | .makeMap t none => makeMapA P (dstOf B o) t
 | .lookup t m k c => quietA (lookupA P t (ρ m) (ρ k) c)
 | .mapUpdate t m k v => mapUpdA P t (ρ m) (ρ k) (ρ v)
 | .insert t m k v => mapUpdA P t (ρ m) (ρ k) (ρ v)
 | .field s x f => quietA (.ofOpt (fieldA P s f (ρ x)))
 | .nilCheck x => quietA (.ofOpt (nilA (ρ x)))
 | .extract x i => (match ρ x with
  | .p (.tup vs) => quietA (.ofOpt ((vs[i]?).map .p))
  | .tup vs => quietA (.ofOpt (vs[i]?))
  | _ => .fail)
 | .call c => (match c.callee with
  | .builtin .len => (match c.args.toList, c.argTypes.toList with
   | [x], [t] => if (P.underlying t).isSome then quietA (lenT P t (ρ x)) else .fail
   | _, _ => .fail)
  | .builtin .append => (match c.args.toList, c.argTypes.toList with
   | [s, x], [t, u] => if t = u then appendA P (dstOf B o) t (ρ s) (ρ x) else .fail
   | _, _ => .fail)
  | .builtin .clear => (match c.args.toList, c.argTypes.toList with
   | [x], [t] => clearA P t (ρ x)
   | _, _ => .fail)
  | .builtin .max => quietA (.ofOpt (foldA max2A (c.args.toList.map ρ)))
  | .builtin .min => quietA (.ofOpt (foldA min2A (c.args.toList.map ρ)))
  | _ => .fail)
 | _ => .fail
where
 sliceT (P : Program) (e : TypeId) (x : AV) (l h : Option Int) : L AV := match x with
  | .own k g off len => .look k fun o => match o with
   | .arr _ sz _ _ => if sz = P.cellsOf e then sliceA x l h else .fail
   | _ => .fail
  | .p (.slc es) => if es.all (fun y => y.cells.length == P.cellsOf e) = true then sliceA x l h else .fail
  | _ => sliceA x l h
 lenT (P : Program) (t : TypeId) (x : AV) : L AV := match P.underlying t, x with
  | some .string, .p (.str _) => lenA x
  | some (.slice _), .p (.slc _) => lenA x
  | some (.slice _), .nils => lenA x
  | some (.slice _), .own .. => lenA x
  | some (.map _ _), .p .nilm => lenA x
  | some (.map _ _), .p (.mapv ..) => lenA x
  | some (.map _ _), .mapo .. => lenA x
  | _, _ => .fail
end Go.Ab
namespace Go.Ab
open Go
set_option linter.unusedVariables false
set_option linter.unusedSimpArgs false
variable {P : Program} {X : Nat → Prop} {inj : Inj} {σ : Nat → AO} {w : World}
def valOf (P : Program) (t : TypeId) (us : List Value) : Value := if isAggT P t = some true then .agg us.toArray else us.headD undef
theorem eqT_shape {d : Nat} {t : TypeId} {xs ys : List PV} {r : Bool} (h : eqT P d t xs ys = some r) : isAggT P t = some true ∨ (isAggT P t = some false ∧ (∃ x, xs = [x]) ∧ ∃ y, ys = [y]) := by
 cases d with
 | zero => simp [eqT] at h
 | succ d =>
  simp only [eqT] at h
  split at h
  ·rename_i hu
   split at h
   ·exact .inr ⟨by simp [isAggT, hu], ⟨_, rfl⟩, ⟨_, rfl⟩⟩
   ·cases h
  ·rename_i hu
   split at h
   ·exact .inr ⟨by simp [isAggT, hu], ⟨_, rfl⟩, ⟨_, rfl⟩⟩
   ·cases h
  ·rename_i hu
   split at h
   ·exact .inr ⟨by simp [isAggT, hu], ⟨_, rfl⟩, ⟨_, rfl⟩⟩
   ·cases h
  ·rename_i hu
   exact .inl (by simp [isAggT, hu])
  ·rename_i hu
   exact .inl (by simp [isAggT, hu])
  ·cases h
theorem run_part {t : TypeId} {us : List Value} {off : Nat} {xs : List PV} (hps : PRs X w xs us)
  (h : isAggT P t = some true ∨ (isAggT P t = some false ∧ ∃ x, (xs.drop off).take (P.cellsOf t) = [x])) :
  (part t us.toArray off).run P w = .ok (valOf P t ((us.drop off).take (P.cellsOf t))) w := by
 rcases h with h | ⟨h, x, hx⟩
 ·obtain ⟨dd, hd, _⟩ := underlying_of_agg h
  simp only [part, Sem.run_bind, run_isAgg_b h, Result.andThen_ok, if_true, run_sizeOf_u hd, Sem.run_pure, valOf, h]
  congr 2
  apply Array.ext'
  rw [Array.toList_extract, List.extract_eq_take_drop, Nat.add_sub_cancel_left]
 ·have hl := ((hps.drop off).take (P.cellsOf t)).length
  rw [hx] at hl
  have hne : (us.drop off).take (P.cellsOf t) ≠ [] := by intro he; rw [he] at hl; simp at hl
  obtain ⟨u, r, hur⟩ := List.exists_cons_of_ne_nil hne
  have hget : us[off]? = some u := by
   have h1 : ((us.drop off).take (P.cellsOf t))[0]? = some u := by rw [hur]; rfl
   rw [List.getElem?_take] at h1
   split at h1
   ·rw [List.getElem?_drop] at h1; simpa using h1
   ·cases h1
  simp only [part, Sem.run_bind, run_isAgg_b h, Result.andThen_ok, Bool.false_eq_true, if_false, valOf, h, Option.some.injEq, hur]
  simp [hget]
theorem eqFs_sound {d n : Nat} (ih : ∀ (t : TypeId) (xs ys : List PV) (r : Bool) (us vs : List Value), eqT P d t xs ys = some r → PRs X w xs us → PRs X w ys vs → oneAll us → oneAll vs →
      (Op.equalIn (d + n) t (valOf P t us) (valOf P t vs)).run P w = .ok r w) :
    ∀ (fs : List Field) (xs ys : List PV) (r : Bool) (us vs : List Value), eqFs P (eqT P d) fs xs ys = some r → PRs X w xs us → PRs X w ys vs → oneAll us → oneAll vs →
      (Op.eqFields (d + n) us.toArray vs.toArray fs).run P w = .ok r w
  | [], _, _, r, _, _, h, _, _, _, _ => by simp only [eqFs, Option.some.injEq] at h; subst h; rfl
  | f :: fs, xs, ys, r, us, vs, h, hu, hv, ou, ov => by
    simp only [eqFs] at h
    split at h
    · rename_i hn
      simp only [Op.eqFields, hn, ne_eq, not_true_eq_false, if_false]
      exact eqFs_sound ih fs xs ys r us vs h hu hv ou ov
    · rename_i hn
      split at h
      case h_2 => cases h
      rename_i a b ha hb
      simp only [Option.some.injEq] at h
      subst h
      have hrest := eqFs_sound ih fs xs ys b us vs hb hu hv ou ov
      have hsh := eqT_shape ha
      have hra := run_part (P := P) hu (hsh.imp id fun q => ⟨q.1, q.2.1⟩)
      have hrb := run_part (P := P) hv (hsh.imp id fun q => ⟨q.1, q.2.2⟩)
      have heq := ih f.type _ _ a _ _ ha ((hu.drop f.offset).take _) ((hv.drop f.offset).take _)
        (fun q hq => ou q (List.mem_of_mem_drop (List.mem_of_mem_take hq))) (fun q hq => ov q (List.mem_of_mem_drop (List.mem_of_mem_take hq)))
      simp only [Op.eqFields, ne_eq, hn, not_false_eq_true, if_true, Sem.run_bind, hra, hrb, heq, Result.andThen_ok]
      cases a
      · simp
      · simpa using hrest
theorem eqIs_sound {d n : Nat} {e : TypeId} (ih : ∀ (xs ys : List PV) (r : Bool) (us vs : List Value), eqT P d e xs ys = some r → PRs X w xs us → PRs X w ys vs → oneAll us → oneAll vs →
      (Op.equalIn (d + n) e (valOf P e us) (valOf P e vs)).run P w = .ok r w) :
    ∀ (is : List Nat) (xs ys : List PV) (r : Bool) (us vs : List Value), eqIs (eqT P d e) (P.cellsOf e) xs ys is = some r → PRs X w xs us → PRs X w ys vs → oneAll us → oneAll vs →
      (Op.eqItems (d + n) e (P.cellsOf e) us.toArray vs.toArray is).run P w = .ok r w
  | [], _, _, r, _, _, h, _, _, _, _ => by simp only [eqIs, Option.some.injEq] at h; subst h; rfl
  | i :: is, xs, ys, r, us, vs, h, hu, hv, ou, ov => by
    simp only [eqIs] at h
    split at h
    case h_2 => cases h
    rename_i a b ha hb
    simp only [Option.some.injEq] at h
    subst h
    have hrest := eqIs_sound ih is xs ys b us vs hb hu hv ou ov
    have hsh := eqT_shape ha
    have hra := run_part (P := P) hu (hsh.imp id fun q => ⟨q.1, q.2.1⟩)
    have hrb := run_part (P := P) hv (hsh.imp id fun q => ⟨q.1, q.2.2⟩)
    have heq := ih _ _ a _ _ ha ((hu.drop (i * P.cellsOf e)).take _) ((hv.drop (i * P.cellsOf e)).take _)
      (fun q hq => ou q (List.mem_of_mem_drop (List.mem_of_mem_take hq))) (fun q hq => ov q (List.mem_of_mem_drop (List.mem_of_mem_take hq)))
    simp only [Op.eqItems, Sem.run_bind, hra, hrb, heq, Result.andThen_ok]
    cases a
    · simp
    · simpa using hrest
theorem eqT_sound (n : Nat) : ∀ (d : Nat) (t : TypeId) (xs ys : List PV) (r : Bool) (us vs : List Value), eqT P d t xs ys = some r → PRs X w xs us → PRs X w ys vs → oneAll us → oneAll vs →
  (Op.equalIn (d + n) t (valOf P t us) (valOf P t vs)).run P w = .ok r w
 | 0, _, _, _, _, _, _, h, _, _, _, _ => by simp [eqT] at h
 | d + 1, t, xs, ys, r, us, vs, h, hx, hy, ox, oy => by
  have hsh := eqT_shape h
  rw [show d + 1 + n = (d + n) + 1 by omega]
  simp only [eqT] at h
  split at h
  ·rename_i hu
   split at h
   case h_2 => cases h
   simp only [Option.some.injEq] at h
   subst h
   simp [PRs, PR] at hx hy
   subst hx; subst hy
   simp only [valOf, isAggT, hu, Option.some.injEq, Bool.false_eq_true, if_false, List.headD_cons]
   exact run_equalIn_bool' w (d + n) t _ _ hu
  ·rename_i k hu
   split at h
   case h_2 => cases h
   split at h
   case isFalse => cases h
   rename_i hk
   subst hk
   simp only [Option.some.injEq] at h
   subst h
   simp [PRs, PR] at hx hy
   subst hx; subst hy
   simp only [valOf, isAggT, hu, Option.some.injEq, Bool.false_eq_true, if_false, List.headD_cons]
   exact run_equalIn_int w (d + n) t _ _ _ _ hu
  ·rename_i hu
   split at h
   case h_2 => cases h
   simp only [Option.some.injEq] at h
   subst h
   simp [PRs, PR] at hx hy
   subst hx; subst hy
   simp only [valOf, isAggT, hu, Option.some.injEq, Bool.false_eq_true, if_false, List.headD_cons]
   rw [run_equalIn_string w (d + n) t _ _ hu]
   simp
  ·rename_i fs hu
   split at h
   ·cases h
   rename_i hst
   have hff : P.fieldsOf t = fs := by simp [Program.fieldsOf, hu]
   simp only [valOf, isAggT, hu, if_true]
   rw [run_equalIn_struct w (d + n) t _ _ (by rw [hff]; exact hu) (by simpa using hst), hff]
   exact eqFs_sound (fun t xs ys r us vs h hx hy ox oy => eqT_sound n d t xs ys r us vs h hx hy ox oy) fs.toList xs ys r us vs h hx hy ox oy
  ·rename_i m e hu
   split at h
   case isFalse => cases h
   rename_i hi
   obtain ⟨i, hi⟩ := Option.isSome_iff_exists.1 hi
   simp only [valOf, isAggT, hu, if_true]
   rw [run_equalIn_array w (d + n) _ _ hu hi]
   exact eqIs_sound (fun xs ys r us vs h hx hy ox oy => eqT_sound n d e xs ys r us vs h hx hy ox oy) (List.range m) xs ys r us vs h hx hy ox oy
  ·cases h
theorem checkKey_eqT (em : Bool) (n : Nat) : ∀ (d : Nat) (t : TypeId) (xs ys : List PV) (r : Bool) (us : List Value), eqT P d t xs ys = some r → PRs X w xs us → oneAll us →
  (Instr.checkKey em (d + n) t (valOf P t us)).run P w = .ok () w
 | 0, _, _, _, _, _, h, _, _ => by simp [eqT] at h
 | d + 1, t, xs, ys, r, us, h, hx, ox => by
  have hsh := eqT_shape h
  rw [show d + 1 + n = (d + n) + 1 by omega]
  simp only [eqT] at h
  split at h
  ·rename_i hu
   simp [Instr.checkKey, run_underlying hu]
  ·rename_i hu
   simp [Instr.checkKey, run_underlying hu]
  ·rename_i hu
   simp [Instr.checkKey, run_underlying hu]
  ·rename_i fs hu
   split at h
   ·cases h
   simp only [valOf, isAggT, hu, if_true, Instr.checkKey, Sem.run_bind, run_underlying hu, Result.andThen_ok]
   rw [← Array.forIn_toList]
   clear hsh hu
   generalize fs.toList = L at h
   induction L generalizing r with
   | nil => simp
   | cons f L ih =>
    simp only [eqFs] at h
    split at h
    ·rename_i hn
     simp only [List.forIn_cons, Sem.run_bind, hn, ne_eq, not_true_eq_false, if_false, Sem.run_pure, Result.andThen_ok]
     exact ih r h
    ·rename_i hn
     split at h
     case h_2 => cases h
     rename_i a b ha hb
     have hsh := eqT_shape ha
     have hra := run_part (P := P) hx (hsh.imp id fun q => ⟨q.1, q.2.1⟩)
     have hc := checkKey_eqT em n d f.type _ _ a _ ha ((hx.drop f.offset).take _) (fun q hq => ox q (List.mem_of_mem_drop (List.mem_of_mem_take hq)))
     simp only [List.forIn_cons, Sem.run_bind, hn, ne_eq, not_false_eq_true, if_true, hra, hc, Sem.run_pure, Result.andThen_ok]
     exact ih b hb
  ·rename_i m e hu
   split at h
   case isFalse => cases h
   rename_i hi
   obtain ⟨i, hi⟩ := Option.isSome_iff_exists.1 hi
   simp only [valOf, isAggT, hu, if_true, Instr.checkKey, Sem.run_bind, run_underlying hu, Result.andThen_ok]
   simp only [Std.Legacy.Range.forIn_eq_forIn_range', Std.Legacy.Range.size, Nat.sub_zero, Nat.add_one_sub_one, Nat.div_one]
   rw [List.range_eq_range'] at h
   clear hsh hu
   generalize List.range' 0 m = L at h
   induction L generalizing r with
   | nil => simp
   | cons j L ih =>
    simp only [eqIs] at h
    split at h
    case h_2 => cases h
    rename_i a b ha hb
    have hsh := eqT_shape ha
    have hra := run_part (P := P) hx (hsh.imp id fun q => ⟨q.1, q.2.1⟩)
    have hc := checkKey_eqT em n d e _ _ a _ ha ((hx.drop (j * P.cellsOf e)).take _) (fun q hq => ox q (List.mem_of_mem_drop (List.mem_of_mem_take hq)))
    simp only [List.forIn_cons, Sem.run_bind, run_sizeOf w hi, hra, hc, Sem.run_pure, Result.andThen_ok]
    exact ih b hb
  ·cases h
theorem intA_sound {op : BinOp} {k : IntKind} {a b : Int} {v : AV} (h : intA op k a b = some v) :
    ∃ val, (match op with
      | .add | .sub | .mul => Op.intArith op k a b
      | .quo | .rem => Op.intDiv op k a b
      | .and | .or | .xor | .andNot => Op.intBits op k a b
      | _ => Op.intCmp op a b : Sem Value).run P w = .ok val w ∧ AR X inj σ w v val := by
  cases op <;> simp only [intA, Option.some.injEq] at h <;> first
    | (cases h; done)
    | (subst h; exact ⟨_, rfl, rfl⟩)
    | (split at h
       · cases h
       · rename_i hb
         simp only [Option.some.injEq] at h
         subst h
         simp only [Op.intDiv, hb, if_false]
         exact ⟨_, rfl, rfl⟩)
theorem strA_sound {op : BinOp} {a b : List UInt8} {v : AV} (h : strA op a b = some v) : ∃ val, (Op.stringOp op ⟨a.toArray⟩ ⟨b.toArray⟩).run P w = .ok val w ∧ AR X inj σ w v val := by
  cases op <;> simp only [strA, Option.some.injEq] at h <;> first
    | (cases h; done)
    | (subst h; simp only [Op.stringOp, ByteArray.toList_mk]; exact ⟨_, rfl, rfl⟩)
    | (split at h
       case isFalse => cases h
       rename_i hb
       simp only [Option.some.injEq] at h
       subst h
       refine ⟨.string (⟨a.toArray⟩ ++ ⟨b.toArray⟩), ?_, ?_⟩
       · simp only [Op.stringOp]
         rw [if_neg]
         · rfl
         · have e1 : (ByteArray.mk a.toArray).size = a.length := by rw [Lib.size_eq]
           have e2 : (ByteArray.mk b.toArray).size = b.length := by rw [Lib.size_eq]
           rw [e1, e2, IntKind.max_i64]
           omega
       · show _ = _
         congr 1
         )
end Go.Ab
namespace Go.Ab
open Go
set_option linter.unusedVariables false
set_option linter.unusedSimpArgs false
variable {P : Program} {X : Nat → Prop} {inj : Inj} {σ : Nat → AO} {w : World}
theorem binP_sound {X' : Nat → Prop} {op : BinOp} {t : TypeId} {x y : PV} {v : AV} {vx vy : Value} {ox oy : Operand} (hx : PR X' w x vx) (hy : PR X' w y vy) (h : binP P op t x y = some v) :
  ∃ val, (do eqGuard op t ox oy vx vy; binOp op t vx vy : Sem Value).run P w = .ok val w ∧ AR X inj σ w v val := by
 unfold binP at h
 split at h
 ·rename_i k a k' b
  simp only [PR] at hx hy
  subst hx; subst hy
  have hg : (eqGuard op t ox oy (.int k a) (.int k' b)).run P w = .ok () w := by cases op <;> simp [eqGuard]
  simp only [Sem.run_bind, hg, Result.andThen_ok]
  split at h
  ·split at h
   ·cases h
   ·rename_i hb
    simp only [Option.some.injEq] at h
    subst h
    simp only [binOp, Op.shift, hb, if_false]
    exact ⟨_, rfl, rfl⟩
  ·split at h
   ·cases h
   ·rename_i hb
    simp only [Option.some.injEq] at h
    subst h
    simp only [binOp, Op.shift, hb, if_false]
    exact ⟨_, rfl, rfl⟩
  ·rename_i h1 h2
   split at h
   case isFalse => cases h
   rename_i hk
   subst hk
   obtain ⟨val, h3, h4⟩ := intA_sound (P := P) (X := X) (inj := inj) (σ := σ) (w := w) h
   refine ⟨val, ?_, h4⟩
   rw [← h3]
   cases op <;> first
    | exact (h1 rfl).elim
    | exact (h2 rfl).elim
    | simp [binOp]
 ·rename_i a b
  simp only [PR] at hx hy
  subst hx; subst hy
  have hg : (eqGuard op t ox oy (.string ⟨a.toArray⟩) (.string ⟨b.toArray⟩)).run P w = .ok () w := by cases op <;> simp [eqGuard]
  simp only [Sem.run_bind, hg, Result.andThen_ok]
  obtain ⟨val, h3, h4⟩ := strA_sound (P := P) (X := X) (inj := inj) (σ := σ) (w := w) h
  refine ⟨val, ?_, h4⟩
  rw [← h3]
  cases op <;> simp [binOp]
 ·rename_i a b
  simp only [PR] at hx hy
  subst hx; subst hy
  have hg : (eqGuard op t ox oy (.bool a) (.bool b)).run P w = .ok () w := by cases op <;> simp [eqGuard]
  simp only [Sem.run_bind, hg, Result.andThen_ok]
  split at h
  ·rename_i hu
   simp only [Option.some.injEq] at h
   subst h
   have := run_equalIn_bool' w 9999 t a b hu
   refine ⟨.bool (a == b), ?_, rfl⟩
   simp [binOp, Op.equal, Op.maxDepth, this]
  ·rename_i hu
   simp only [Option.some.injEq] at h
   subst h
   have := run_equalIn_bool' w 9999 t a b hu
   refine ⟨.bool (!(a == b)), ?_, rfl⟩
   simp [binOp, Op.equal, Op.maxDepth, this]
  ·cases h
 ·cases h
theorem binA_sound {op : BinOp} {t : TypeId} {x y v : AV} {vx vy : Value} {ox oy : Operand} (hx : AR X inj σ w x vx) (hy : AR X inj σ w y vy) (h : binA P op t x y = some v) :
  ∃ val, (do eqGuard op t ox oy vx vy; binOp op t vx vy : Sem Value).run P w = .ok val w ∧ AR X inj σ w v val := by
 unfold binA at h
 split at h
 ·rename_i x y
  split at h
  ·rename_i hg
   simp only [Bool.and_eq_true] at hg
   have e1 : vx = .agg vx.cells := by have := agg_of (x := .p x) hg.1 hx; simpa using this
   have e2 : vy = .agg vy.cells := by have := agg_of (x := .p y) hg.2 hy; simpa using this
   have o1 : oneAll vx.cells.toList := by
    cases x <;> first | (obtain ⟨vs, rfl, _, h3⟩ := hx; simpa [Value.cells] using h3) | cases hg.1
   have o2 : oneAll vy.cells.toList := by
    cases y <;> first | (obtain ⟨vs, rfl, _, h3⟩ := hy; simpa [Value.cells] using h3) | cases hg.2
   have key : ∀ r, eqT P 9 t x.cells y.cells = some r → isAggT P t = some true → (Op.equalIn 10000 t vx vy).run P w = .ok r w := by
    intro r hr ht
    have := eqT_sound (P := P) (w := w) 9991 9 t _ _ r _ _ hr (PR.cells_of hx) (PR.cells_of hy) o1 o2
    simp only [valOf, ht, if_true, Array.toArray_toList] at this
    rwa [← e1, ← e2] at this
   split at h
   ·rename_i q1 q2
    cases hr : eqT P 9 t x.cells y.cells with
    | none => rw [hr] at h; cases h
    | some r =>
     rw [hr] at h
     simp only [Option.map_some, Option.some.injEq] at h
     subst h
     have hgd := run_eqGuard_agg (P := P) w .eql t ox oy vx.cells vy.cells q1
     rw [← e1, ← e2] at hgd
     have hk := key r hr q2
     refine ⟨.bool r, ?_, rfl⟩
     simp only [Sem.run_bind, hgd, Result.andThen_ok]
     rw [e1, e2, run_eql_struct, ← e1, ← e2, hk]
     rfl
   ·rename_i q1 q2
    cases hr : eqT P 9 t x.cells y.cells with
    | none => rw [hr] at h; cases h
    | some r =>
     rw [hr] at h
     simp only [Option.map_some, Option.some.injEq] at h
     subst h
     have hgd := run_eqGuard_agg (P := P) w .neq t ox oy vx.cells vy.cells q1
     rw [← e1, ← e2] at hgd
     have hk := key r hr q2
     refine ⟨.bool (!r), ?_, rfl⟩
     simp only [Sem.run_bind, hgd, Result.andThen_ok]
     rw [e1, e2, run_neq_struct, ← e1, ← e2, hk]
     rfl
   ·cases h
  ·exact binP_sound hx hy h
 ·rename_i z zs
  obtain ⟨a, cap, vs, rfl, hc, h1, h2⟩ := hx
  simp only [AR] at hy
  subst hy
  have hne : ∃ aa, a = some aa := by
   rcases h2 with h2 | ⟨b, o, sz, ha, _⟩
   ·subst h2; have := h1.length; simp at this
   ·exact ⟨_, ha⟩
  obtain ⟨aa, rfl⟩ := hne
  have hg : (eqGuard op t ox oy (.slice (some aa) (z :: zs).length cap) (.slice none 0 0)).run P w = .ok () w := by cases op <;> simp [eqGuard]
  simp only [Sem.run_bind, hg, Result.andThen_ok]
  split at h
  ·rename_i e hu
   simp only [Option.some.injEq] at h
   subst h
   exact ⟨.bool false, Lib.run_eql_slice_nil w t e _ _ _ _ _ hu, rfl⟩
  ·rename_i e hu
   simp only [Option.some.injEq] at h
   subst h
   exact ⟨.bool true, run_neq_slice_nil_any w t e _ _ _ _ _ hu, rfl⟩
  ·cases h
 ·simp only [AR] at hx hy
  subst hx; subst hy
  have hg : (eqGuard op t ox oy (.slice none 0 0) (.slice none 0 0)).run P w = .ok () w := by cases op <;> simp [eqGuard]
  simp only [Sem.run_bind, hg, Result.andThen_ok]
  split at h
  ·rename_i e hu
   simp only [Option.some.injEq] at h
   subst h
   exact ⟨.bool true, Lib.run_eql_slice_nil w t e _ _ _ _ _ hu, rfl⟩
  ·rename_i e hu
   simp only [Option.some.injEq] at h
   subst h
   exact ⟨.bool false, run_neq_slice_nil_any w t e _ _ _ _ _ hu, rfl⟩
  ·cases h
 ·cases h
theorem unA_sound {op : UnOp} {x v : AV} {vx : Value} (hx : AR X inj σ w x vx) (h : unA op x = some v) : ∃ val, (Op.unary op vx).run P w = .ok val w ∧ AR X inj σ w v val := by
 unfold unA at h
 split at h
 ·simp only [Option.some.injEq] at h; subst h; simp only [AR, PR] at hx; subst hx; exact ⟨_, rfl, rfl⟩
 ·simp only [AR, PR] at hx; subst hx
  obtain ⟨val, h1, h2⟩ := intA_sound (P := P) (X := X) (inj := inj) (σ := σ) (w := w) h
  exact ⟨val, h1, h2⟩
 ·simp only [Option.some.injEq] at h; subst h; simp only [AR, PR] at hx; subst hx; exact ⟨_, rfl, rfl⟩
 ·cases h
theorem convA_sound {src dst : TypeId} {x v : AV} {vx : Value} (hx : AR X inj σ w x vx) (h : convA P src dst x = some v) : ∃ val, (convert src dst vx).run P w = .ok val w ∧ AR X inj σ w v val := by
 unfold convA at h
 split at h
 ·rename_i d k k' n h1 h2
  simp only [Option.some.injEq] at h; subst h; simp only [AR, PR] at hx; subst hx
  refine ⟨_, ?_, rfl⟩
  simp [convert, run_underlying h1, run_underlying h2, Conv.intToInt]
 ·rename_i s h1 h2
  simp only [Option.some.injEq] at h; subst h; simp only [AR, PR] at hx; subst hx
  refine ⟨_, ?_, rfl⟩
  simp [convert, run_underlying h1, run_underlying h2]
 ·cases h
theorem indexA_sound {t : TypeId} {x v : AV} {vx : Value} {k : IntKind} {i : Int} (hx : AR X inj σ w x vx) (h : indexA P t x i = some v) : ∃ val, (Instr.index t vx (.int k i)).run P w = .ok val w ∧ AR X inj σ w v val := by
 unfold indexA at h
 split at h
 ·rename_i s h1
  split at h
  case isFalse => cases h
  rename_i hi
  simp only [AR, PR] at hx; subst hx
  cases hb : s[i.toNat]? with
  | none => rw [hb] at h; cases h
  | some b =>
   rw [hb] at h
   simp only [Option.map_some, Option.some.injEq] at h; subst h
   refine ⟨.int .u8 b.toNat, ?_, rfl⟩
   have hlt : i.toNat < s.length := (List.getElem?_eq_some_iff.1 hb).1
   have hbe : s[i.toNat] = b := (List.getElem?_eq_some_iff.1 hb).2
   have hsz : (ByteArray.mk s.toArray).size = s.length := by rw [Lib.size_eq]
   have hget : (ByteArray.mk s.toArray)[i.toNat]? = some b := by
    rw [ByteArray.getElem?_lt' _ _ (by rw [hsz]; exact hlt)]
    congr 1
   simp [Instr.index, asIntOf, run_underlying h1, hi, hget]
 ·cases h
theorem fieldAddrA_sound {s : TypeId} {f : Nat} {x v : AV} {vx : Value} (hx : AR X inj σ w x vx) (h : fieldAddrA P s f x = some v) : ∃ val, (Instr.fieldAt s vx f).run P w = .ok val w ∧ AR X inj σ w v val := by
 unfold fieldAddrA fieldOff at h
 cases hu : P.underlying s with
 | none => simp [hu] at h
 | some d =>
  cases d with
  | struct fs =>
   cases hf : fs[f]? with
   | none => simp [hu, hf] at h
   | some fd =>
    by_cases hz : P.cellsOf fd.type = 0
    ·simp [hu, hf, hz] at h
    ·simp only [hu, hf, hz, if_false] at h
     have hsz : (sizeOf fd.type).run P w = .ok (P.cellsOf fd.type) w := by
      unfold Program.cellsOf at hz ⊢
      cases hi : P.info? fd.type with
      | none => simp [hi] at hz
      | some i => simp [sizeOf, typeInfo, hi]
     have hrun : ∀ b o, (Instr.fieldAt s (.pointer (some ⟨b, o, none⟩)) f).run P w = .ok (.pointer (some ⟨b, o + fd.offset, none⟩)) w := by
      intro b o
      simp [Instr.fieldAt, run_underlying hu, hf, Instr.sureAddr, fieldPlace, hsz, hz, Addr.add_lit]
     have hrun2 : ∀ a : Addr, (Instr.fieldAt s (.pointer (some a)) f).run P w = .ok (.pointer (some (a.add fd.offset))) w := by
      intro a
      simp [Instr.fieldAt, run_underlying hu, hf, Instr.sureAddr, fieldPlace, hsz, hz]
     split at h
     ·rename_i l g i off
      simp only [Option.some.injEq] at h; subst h
      obtain ⟨⟨a0, rfl⟩, a2⟩ := hx
      refine ⟨_, hrun2 a0, ⟨_, rfl⟩, fun o ho => ?_⟩
      obtain ⟨a3, a4⟩ := a2 o ho
      refine ⟨a3, fun hg e sz es he => ?_⟩
      obtain ⟨b, c, a5, a6⟩ := a4 hg e sz es he
      cases a6
      exact ⟨b, c, a5, by rw [Addr.add_lit, Nat.add_assoc]⟩
     ·rename_i cs
      simp only [Option.some.injEq] at h; subst h
      obtain ⟨b, o, vs, rfl, h1, h2, h3, h4, h5⟩ := hx
      refine ⟨_, hrun b o, b, o + fd.offset, vs.drop fd.offset, rfl, h1.drop _, fun u hu => h2 u (List.mem_of_mem_drop hu), h3, h4, fun j u hu => ?_⟩
      rw [List.getElem?_drop] at hu
      have := h5 _ u hu
      rwa [← Nat.add_assoc] at this
     ·cases h
  | _ => simp [hu] at h
end Go.Ab
namespace Go.Ab
open Go
set_option linter.unusedVariables false
set_option linter.unusedSimpArgs false
variable {P : Program} {X : Nat → Prop} {inj : Inj} {σ : Nat → AO} {w : World}
theorem lookArr {α : Type} {l : Nat} {k : AO → L α} {r : α} (h : (L.look l k).run σ = some r) : (k (σ l)).run σ = some r := h
theorem run_sizeOf_ok {t : TypeId} (h : tyOk P t = true) (w : World) : (sizeOf t).run P w = .ok (P.cellsOf t) w := by
 obtain ⟨i, hi⟩ := Option.isSome_iff_exists.1 h
 simp [sizeOf, typeInfo, hi, Program.cellsOf]
theorem indexAddrA_sound {t : TypeId} {x v : AV} {vx : Value} {k : IntKind} {i : Int} (hx : AR X inj σ w x vx) (h : (indexAddrA P t x i).run σ = some v) :
  ∃ val, (Instr.indexAt t vx (.int k i)).run P w = .ok val w ∧ AR X inj σ w v val := by
 unfold indexAddrA at h
 split at h
 ·rename_i e es hu
  split at h
  case isFalse => simp at h
  rename_i hi
  split at h
  case h_2 => simp at h
  rename_i y hy
  split at h
  case isFalse => simp at h
  rename_i hyl
  obtain ⟨hyl, hok⟩ := hyl
  simp only [L.run_ret, Option.some.injEq] at h
  subst h
  obtain ⟨a, cap, vs, rfl, hc, h1, h2⟩ := hx
  obtain ⟨u, hu1, hu2⟩ := h1.get hy
  have hlt : i.toNat < es.length := (List.getElem?_eq_some_iff.1 hy).1
  have hcs := PR.cells_of hu2
  have hul : u.cells.size = P.cellsOf e := by rw [← hyl, hcs.length, Array.length_toList]
  have hui : u ∈ vs := List.mem_of_getElem? hu1
  rcases h2 with h2 | ⟨b, o, sz, rfl, hsz, ho, hr⟩
  ·subst h2; simp at hu1
  ·have hszz : sz = P.cellsOf e := by rw [← hsz u hui, hul]
   subst hszz
   have hrun := run_sizeOf_ok hok w
   have hilt : i < (es.length : Int) := by omega
   refine ⟨.pointer (some ⟨b, o + i.toNat * P.cellsOf e, none⟩), ?_, b, o + i.toNat * P.cellsOf e, u.cells.toList, rfl, hcs, fun c hc => ho c (List.mem_flatMap.2 ⟨u, hui, hc⟩), hr.1, hr.2.1, fun j c hj => ?_⟩
   ·simp [Instr.indexAt, asIntOf, run_underlying hu, hi, hilt, hrun, Addr.add_lit]
   ·have hjl : j < P.cellsOf e := by rw [← hul, ← Array.length_toList]; exact (List.getElem?_eq_some_iff.1 hj).1
    have := hr.2.2 (i.toNat * P.cellsOf e + j) c (by rw [flat_get hsz hu1 hjl]; exact hj)
    rwa [← Nat.add_assoc] at this
 ·rename_i e l g off len hu
  have h := lookArr h
  split at h
  case h_2 => simp at h
  rename_i e' sz g' es ho
  split at h
  case isFalse => simp at h
  rename_i hc
  obtain ⟨rfl, rfl, hi, hilt, hok⟩ := hc
  simp only [L.run_ret, Option.some.injEq] at h
  subst h
  obtain ⟨_, a2⟩ := hx
  obtain ⟨_, a3⟩ := a2 _ ho
  obtain ⟨a4, a5⟩ := a3 rfl e' _ es rfl
  rcases a5 with ⟨i1, rfl, rfl, rfl⟩ | ⟨b, c, a, i1, rfl, i2, i3⟩
  ·omega
  ·have i4 : a = some ⟨b, off * P.cellsOf e, none⟩ := by
    rcases i3 with ⟨_, i3⟩ | i3
    ·omega
    ·exact i3
   subst i4
   have hrun := run_sizeOf_ok hok w
   refine ⟨.pointer (some ⟨b, (off + i.toNat) * P.cellsOf e + 0, none⟩), ?_, LocR_new ho i1 _ _⟩
   simp [Instr.indexAt, asIntOf, run_underlying hu, hi, hilt, hrun, Addr.add_lit, Nat.add_mul]
 ·rename_i n e l g j off hu
  split at h
  case isFalse => simp at h
  rename_i hi
  simp only [L.run_ret, Option.some.injEq] at h
  subst h
  obtain ⟨⟨a0, rfl⟩, a2⟩ := hx
  have hrun := run_sizeOf_ok hi.2.2 w
  refine ⟨.pointer (some (a0.add (i.toNat * P.cellsOf e))), ?_, ⟨_, rfl⟩, fun o ho => ?_⟩
  ·simp [Instr.indexAt, asIntOf, run_underlying hu, Instr.sureAddr, hi.1, hi.2.1, hrun]
  ·obtain ⟨a3, a4⟩ := a2 o ho
   refine ⟨a3, fun hg e1 sz es he1 => ?_⟩
   obtain ⟨b, c, a5, a6⟩ := a4 hg e1 sz es he1
   cases a6
   exact ⟨b, c, a5, by rw [Addr.add_lit, Nat.add_assoc]⟩
 ·rename_i n e cs hu
  split at h
  case isFalse => simp at h
  rename_i hi
  simp only [L.run_ret, Option.some.injEq] at h
  subst h
  obtain ⟨b, o, vs, rfl, h1, h2, h3, h4, h5⟩ := hx
  have hrun := run_sizeOf_ok hi.2.2 w
  refine ⟨.pointer (some ⟨b, o + i.toNat * P.cellsOf e, none⟩), ?_, b, o + i.toNat * P.cellsOf e, vs.drop (i.toNat * P.cellsOf e), rfl, h1.drop _, fun u hu => h2 u (List.mem_of_mem_drop hu), h3, h4, fun j u hu => ?_⟩
  ·simp [Instr.indexAt, asIntOf, run_underlying hu, Instr.sureAddr, hi.1, hi.2.1, hrun, Addr.add_lit]
  ·rw [List.getElem?_drop] at hu
   have := h5 _ u hu
   rwa [← Nat.add_assoc] at this
 ·simp at h
theorem run_bounds (isSlice : Bool) (len cap : Nat) (lo hi : Option Int) (vl vh : Option Value) (kl kh : IntKind) (hl : vl = lo.map (.int kl)) (hh : vh = hi.map (.int kh))
  (h1 : 0 ≤ lo.getD 0) (h2 : lo.getD 0 ≤ hi.getD len) (h3 : hi.getD len ≤ cap) (w : World) :
  (Instr.sliceBounds isSlice len cap vl vh none).run P w = .ok ((lo.getD 0).toNat, (hi.getD len).toNat, cap) w := by
 subst hl; subst hh
 cases lo with
 | none =>
  cases hi with
  | none => simp [Instr.sliceBounds]
  | some h =>
   simp only [Option.getD_none, Option.getD_some] at h1 h2 h3
   simp [Instr.sliceBounds, Instr.sliceBound, asIntOf, h2, h3]
 | some l =>
  cases hi with
  | none =>
   simp only [Option.getD_none, Option.getD_some] at h1 h2 h3
   simp [Instr.sliceBounds, Instr.sliceBound, asIntOf, h1, h2]
  | some h =>
   simp only [Option.getD_none, Option.getD_some] at h1 h2 h3
   have h4 : 0 ≤ h := by omega
   have h5 : l ≤ max h 0 := by omega
   simp [Instr.sliceBounds, Instr.sliceBound, asIntOf, h1, h3, h4, h5]
theorem optInt_sound {o : Option Int} {ops : Option Operand} {ρ : Operand → AV} {a : Act} (hx : optInt (ops.map ρ) = some o) (hρ : ∀ x, AR X inj σ w (ρ x) (a.eval x)) :
  ∃ k, ops.map a.eval = o.map (.int k) := by
 cases ops with
 | none => simp only [Option.map_none, optInt, Option.some.injEq] at hx; subst hx; exact ⟨.i64, rfl⟩
 | some op =>
  simp only [Option.map_some] at hx ⊢
  have := hρ op
  unfold optInt at hx
  split at hx
  ·rename_i heq; cases heq
  ·rename_i k n heq
   simp only [Option.some.injEq] at heq hx
   subst hx
   rw [heq] at this
   simp only [AR, PR] at this
   exact ⟨k, by rw [this]; rfl⟩
  ·cases hx
theorem sliceStr_sound {t : TypeId} {s : List UInt8} {vl vh : Option Value} {kl kh : IntKind} {lo hi : Option Int} {v : AV} (hu : P.underlying t = some .string)
  (hl : vl = lo.map (.int kl)) (hh : vh = hi.map (.int kh)) (h : (sliceA (.p (.str s)) lo hi).run σ = some v) :
  ∃ val, (Instr.sliceAt t (.string ⟨s.toArray⟩) vl vh none).run P w = .ok val w ∧ AR X inj σ w v val := by
 simp only [sliceA] at h
 split at h
 case isFalse => simp at h
 rename_i hc
 simp only [L.run_ret, Option.some.injEq] at h
 subst h
 have hsz : (ByteArray.mk s.toArray).size = s.length := by rw [Lib.size_eq]
 have hb := run_bounds (P := P) false s.length s.length lo hi vl vh kl kh hl hh hc.1 hc.2.1 hc.2.2 w
 refine ⟨.string ((ByteArray.mk s.toArray).extract (lo.getD 0).toNat (hi.getD s.length).toNat), ?_, ?_⟩
 ·simp only [Instr.sliceAt, Sem.run_bind, run_underlying hu, Result.andThen_ok, Instr.slice, hsz]
  simp [hb]
 ·show _ = _
  rw [Lib.extract_eq]
theorem asBytes_rel : ∀ {els : List AV} {us : List Value} {s : List UInt8}, ARs X inj σ w els us → asBytes els = some s → ∃ ns : List Int, us = ns.map (Value.int .u8) ∧ s = ns.map fun n => UInt8.ofNat n.toNat
 | [], us, s, h, hb => by
  simp only [ARs] at h; subst h
  simp only [asBytes, Option.some.injEq] at hb; subst hb
  exact ⟨[], rfl, rfl⟩
 | v :: r, us, s, h, hb => by
  simp only [ARs] at h
  obtain ⟨u, us', rfl, h1, h2⟩ := h
  unfold asBytes at hb
  split at hb
  ·rename_i heq; cases heq
  ·rename_i n r' heq
   cases heq
   cases hr : asBytes r with
   | none => rw [hr] at hb; cases hb
   | some s' =>
    rw [hr] at hb
    simp only [Option.map_some, Option.some.injEq] at hb
    subst hb
    obtain ⟨ns, e1, e2⟩ := asBytes_rel h2 hr
    simp only [AR, PR] at h1
    subst h1
    exact ⟨n :: ns, by rw [e1]; rfl, by rw [e2]; rfl⟩
  ·cases hb
theorem foldl_pushB (f : Int → UInt8) : ∀ (ns : List Int) (r : ByteArray), ns.foldl (fun r n => r.push (f n)) r = ⟨r.data ++ (ns.map f).toArray⟩
 | [], r => by simp
 | n :: ns, r => by
  rw [List.foldl_cons, foldl_pushB f ns]
  simp [ByteArray.push]
theorem convBA_sound (h : HR X inj σ w) {src dst : TypeId} {x v : AV} {vx : Value} (hx : AR X inj σ w x vx) (hr : (convBA P src dst x).run σ = some v) : ∃ val, (convert src dst vx).run P w = .ok val w ∧ AR X inj σ w v val := by
 unfold convBA at hr
 split at hr
 ·rename_i hb
  simp only [L.run_bind'] at hr
  cases hel : (elemsA x).run σ with
  | none => rw [hel] at hr; cases hr
  | some els =>
   rw [hel] at hr
   simp only [Option.bind_some, L.run_ofOpt] at hr
   cases hbo : asBytes els with
   | none => rw [hbo] at hr; cases hr
   | some s =>
    rw [hbo] at hr
    simp only [Option.map_some, Option.some.injEq] at hr
    subst hr
    obtain ⟨a, cap, us, rfl, _, hus, hmem⟩ := elemsA_sound h hx hel
    obtain ⟨ns, rfl, rfl⟩ := asBytes_rel hus hbo
    have hl : els.length = ns.length := by have := hus.length; simpa using this
    unfold bytesT at hb
    split at hb
    case h_2 => cases hb
    rename_i e hs hd
    split at hb
    case h_2 => cases hb
    rename_i he
    refine ⟨.string ⟨(ns.map fun n : Int => UInt8.ofNat n.toNat).toArray⟩, ?_, by simp only [AR, PR]⟩
    rw [run_convert_bytes_string w src dst e a els.length cap hs he hd, hl]
    have hfl : flat (ns.map (Value.int .u8)) = ns.map (Value.int .u8) := by
     clear hl hmem hus hbo
     induction ns with
     | nil => rfl
     | cons n ns ih => rw [List.map_cons, flat_cons, ih]; simp [Value.cells]
    rw [hfl] at hmem
    have fin : ∀ ad : Addr, (loadCells ad ns.length).run P w = .ok (ns.map (Value.int .u8)).toArray w → (Conv.bytesToString (.slice (some ad) ns.length cap)).run P w = .ok (.string ⟨(ns.map fun n => UInt8.ofNat n.toNat).toArray⟩) w := by
     intro ad hld
     rw [run_bytesToString w ad ns.length cap ns hld, foldl_pushB (fun n => UInt8.ofNat n.toNat)]
     simp
    cases a with
    | none =>
     rcases hmem with hm | ⟨b, o, sz, ha, _⟩
     ·have : ns = [] := by simpa using hm
      subst this
      simp [Conv.bytesToString]
      rfl
     ·cases ha
    | some ad =>
     refine fin ad ?_
     have hld := run_loadCells_list (P := P) w ad (ns.map (Value.int .u8)) (fun j u hj => by
      rcases hmem with hm | ⟨b, o, sz, ha, _, hc⟩
      ·rw [hm] at hj; simp at hj
      ·cases ha; rw [Addr.add_lit]; exact hc j u hj)
     simpa using hld
 ·rw [L.run_ofOpt] at hr
  exact convA_sound (P := P) hx hr
theorem slice3_sound {t e : TypeId} {es : List PV} {vx vh vm : Value} {k1 k2 : IntKind} {hi : Int} (hu : P.underlying t = some (.slice e)) (hok : tyOk P e = true)
  (hx : AR X inj σ w (.p (.slc es)) vx) (hh : AR X inj σ w (.p (.int k1 hi)) vh) (hm : AR X inj σ w (.p (.int k2 hi)) vm) (h0 : 0 ≤ hi) (h1 : hi ≤ es.length) :
  ∃ val, (Instr.sliceAt t vx none (some vh) (some vm)).run P w = .ok val w ∧ AR X inj σ w (.p (.clip (es.take hi.toNat))) val := by
 have hsz := run_sizeOf_ok hok w
 simp only [AR, PR] at hh hm
 subst hh; subst hm
 obtain ⟨a, cap, vs, rfl, hcap, p1, p2⟩ := hx
 have hlen : (es.take hi.toNat).length = hi.toNat := by rw [List.length_take]; omega
 have hb : (Instr.sliceBounds true es.length cap none (some (.int k1 hi)) (some (.int k2 hi))).run P w = .ok (0, hi.toNat, hi.toNat) w := by
  have h2 : hi ≤ cap := by omega
  have h3 : ((hi.toNat : Nat) : Int) = hi := by omega
  simp [Instr.sliceBounds, Instr.sliceBound, asIntOf, h0, h2, h3]
 refine ⟨.slice (if hi.toNat = 0 then a else a.map (·.add (0 * P.cellsOf e))) hi.toNat hi.toNat, ?_, _, vs.take hi.toNat, by rw [hlen], p1.take _, ?_⟩
 ·simp only [Instr.sliceAt, Sem.run_bind, run_underlying hu, Result.andThen_ok, Instr.slice, hb, hsz, Sem.run_pure, Nat.sub_zero]
 ·by_cases hz : hi.toNat = 0
  ·rw [hz]; exact .inl rfl
  ·rw [if_neg hz]
   rcases p2 with rfl | ⟨b, o, sz, rfl, q1, q2, q3, q4, q5⟩
   ·exact .inl (by simp)
   ·refine .inr ⟨b, o, sz, by simp [Addr.add_lit], fun v hv => q1 v (List.mem_of_mem_take hv), ?_, q3, q4, fun j u hu => ?_⟩
    ·rw [flat_take _ q1]; exact fun u hu => q2 u (List.mem_of_mem_take hu)
    ·rw [flat_take _ q1, List.getElem?_take] at hu
     split at hu
     ·exact q5 j u hu
     ·cases hu
theorem sliceT_sound {t e : TypeId} {x v : AV} {vx : Value} {vl vh : Option Value} {kl kh : IntKind} {lo hi : Option Int} (h0 : HR X inj σ w) (hu : P.underlying t = some (.slice e)) (hok : tyOk P e = true)
  (hx : AR X inj σ w x vx) (hns : ∀ s, x ≠ .p (.str s)) (hl : vl = lo.map (.int kl)) (hh : vh = hi.map (.int kh)) (h : (aop.sliceT P e x lo hi).run σ = some v) :
  ∃ val, (Instr.sliceAt t vx vl vh none).run P w = .ok val w ∧ AR X inj σ w v val := by
 have hsz := run_sizeOf_ok hok w
 have key : ∀ (a : Option Addr) (len cap : Nat), 0 ≤ lo.getD 0 → lo.getD 0 ≤ hi.getD len → hi.getD len ≤ cap →
   (Instr.sliceAt t (.slice a len cap) vl vh none).run P w = .ok (.slice (if cap = (lo.getD 0).toNat then a else a.map (·.add ((lo.getD 0).toNat * P.cellsOf e))) ((hi.getD len).toNat - (lo.getD 0).toNat) (cap - (lo.getD 0).toNat)) w := by
  intro a len cap h1 h2 h3
  have hb := run_bounds (P := P) true len cap lo hi vl vh kl kh hl hh h1 h2 h3 w
  simp only [Instr.sliceAt, Sem.run_bind, run_underlying hu, Result.andThen_ok, Instr.slice, hb, hsz, Sem.run_pure]
 unfold aop.sliceT at h
 split at h
 ·rename_i l g off len
  have h := lookArr h
  split at h
  case h_2 => simp at h
  rename_i e' sz g' es ho
  split at h
  case isFalse => simp at h
  rename_i hszz
  subst hszz
  simp only [sliceA, L.run, ho] at h
  split at h
  case isFalse => simp at h
  rename_i hg
  subst hg
  split at h
  case isFalse => simp at h
  rename_i hc
  simp only [L.run_ret, Option.some.injEq] at h
  subst h
  obtain ⟨_, a2⟩ := hx
  obtain ⟨_, a3⟩ := a2 _ ho
  obtain ⟨a4, a5⟩ := a3 rfl e' _ es rfl
  have own : ∀ val, (∃ a n c, val = Value.slice a n c) → ((inj l = none ∧ val = .slice none 0 0 ∧ off + (lo.getD 0).toNat = 0 ∧ (hi.getD len).toNat - (lo.getD 0).toNat = 0) ∨
    ∃ b c a, inj l = some (b, c) ∧ val = .slice a ((hi.getD len).toNat - (lo.getD 0).toNat) (c - (off + (lo.getD 0).toNat)) ∧ (off + (lo.getD 0).toNat) + ((hi.getD len).toNat - (lo.getD 0).toNat) ≤ c ∧
     ((off + (lo.getD 0).toNat ≠ 0 ∧ off + (lo.getD 0).toNat = c) ∨ a = some ⟨b, (off + (lo.getD 0).toNat) * P.cellsOf e, none⟩)) →
    AR X inj σ w (.own l g (off + (lo.getD 0).toNat) ((hi.getD len).toNat - (lo.getD 0).toNat)) val := by
   intro val hs hv
   refine ⟨hs, fun o ho' => ?_⟩
   rw [ho] at ho'; subst ho'
   refine ⟨Nat.le_refl _, fun _ e2 sz2 es2 he2 => ?_⟩
   cases he2
   exact ⟨by omega, hv⟩
  rcases a5 with ⟨i1, rfl, rfl, rfl⟩ | ⟨b, c, a, i1, rfl, i2, i3⟩
  ·have hlo : lo.getD 0 = 0 := by omega
   have hhi : hi.getD ((0 : Nat) : Int) = 0 := by omega
   refine ⟨_, key none 0 0 (by omega) (by omega) (by omega), own _ ⟨_, _, _, rfl⟩ (.inl ⟨i1, ?_, by omega, by omega⟩)⟩
   simp only [hlo, hhi]; rfl
  ·refine ⟨_, key a len (c - off) hc.1 hc.2.1 (by omega), own _ ⟨_, _, _, rfl⟩ (.inr ⟨b, c, _, i1, by rw [Nat.sub_sub], by omega, ?_⟩)⟩
   by_cases hcap : c - off = (lo.getD 0).toNat
   ·by_cases h00 : off + (lo.getD 0).toNat = 0
    ·right
     rw [if_pos hcap]
     rcases i3 with ⟨i3, _⟩ | i3
     ·omega
     ·rw [i3]; congr 2
      have : (lo.getD 0).toNat = 0 := by omega
      rw [this, Nat.add_zero]
    ·left; exact ⟨h00, by omega⟩
   ·right
    rw [if_neg hcap]
    rcases i3 with ⟨_, i3⟩ | i3
    ·omega
    ·rw [i3]; simp [Addr.add_lit, Nat.add_mul]
 ·rename_i es
  split at h
  case isFalse => simp at h
  rename_i hall
  simp only [sliceA] at h
  split at h
  case isFalse => simp at h
  rename_i hc
  simp only [L.run_ret, Option.some.injEq] at h
  subst h
  obtain ⟨a, cap, vs, rfl, hcap, h1, h2⟩ := hx
  have hlen := h1.length
  refine ⟨_, key a es.length cap hc.1 hc.2.1 (by omega), ?_⟩
  have hel : ((es.drop (lo.getD 0).toNat).take ((hi.getD (es.length : Int)).toNat - (lo.getD 0).toNat)).length = (hi.getD (es.length : Int)).toNat - (lo.getD 0).toNat := by
   rw [List.length_take, List.length_drop]; omega
  refine ⟨_, cap - (lo.getD 0).toNat, (vs.drop (lo.getD 0).toNat).take ((hi.getD (es.length : Int)).toNat - (lo.getD 0).toNat), by rw [hel], by rw [hel]; omega, (h1.drop _).take _, ?_⟩
  rcases h2 with rfl | ⟨b, o, sz, rfl, hs, ho, hr⟩
  ·exact .inl (by simp)
  ·by_cases hn : (hi.getD (es.length : Int)).toNat - (lo.getD 0).toNat = 0
   ·rw [hn]; exact .inl (by simp)
   ·have hne : cap ≠ (lo.getD 0).toNat := by omega
    rw [if_neg hne]
    have hszz : sz = P.cellsOf e := by
     have hlt : 0 < es.length := by omega
     have he0 : es[0]? = some es[0] := List.getElem?_eq_getElem hlt
     obtain ⟨u, hu1, hu2⟩ := h1.get he0
     have hall0 := List.all_eq_true.1 hall es[0] (List.getElem_mem hlt)
     simp only [beq_iff_eq] at hall0
     rw [← hs u (List.mem_of_getElem? hu1), ← hall0, (PR.cells_of hu2).length, Array.length_toList]
    subst hszz
    have hfl : flat ((vs.drop (lo.getD 0).toNat).take ((hi.getD (es.length : Int)).toNat - (lo.getD 0).toNat)) = ((flat vs).drop ((lo.getD 0).toNat * P.cellsOf e)).take (((hi.getD (es.length : Int)).toNat - (lo.getD 0).toNat) * P.cellsOf e) := by
     rw [flat_take _ fun v hv => hs v (List.mem_of_mem_drop hv), flat_drop _ hs]
    refine .inr ⟨b, o + (lo.getD 0).toNat * P.cellsOf e, P.cellsOf e, by simp [Addr.add_lit], fun v hv => hs v (List.mem_of_mem_drop (List.mem_of_mem_take hv)), ?_, hr.1, hr.2.1, fun j u hu => ?_⟩
    ·rw [hfl]; exact fun u hu => ho u (List.mem_of_mem_drop (List.mem_of_mem_take hu))
    ·rw [hfl, List.getElem?_take] at hu
     split at hu
     ·rw [List.getElem?_drop] at hu
      have := hr.2.2 _ u hu
      rwa [← Nat.add_assoc] at this
     ·cases hu
 ·rename_i h3 h4
  cases x with
  | nils =>
   simp only [sliceA] at h
   split at h
   case isFalse => simp at h
   rename_i hc
   simp only [L.run_ret, Option.some.injEq] at h
   subst h
   simp only [AR] at hx
   subst hx
   have e1 := hc.1
   have e2 : hi.getD ((0 : Nat) : Int) = 0 := hc.2
   refine ⟨_, key none 0 0 (by omega) (by omega) (by omega), ?_⟩
   simp only [e1, e2]; rfl
  | own l g off len => exact (h3 l g off len rfl).elim
  | p x =>
   cases x with
   | str s => exact (hns s rfl).elim
   | slc es => exact (h4 es rfl).elim
   | _ => simp [sliceA] at h
  | _ => simp [sliceA] at h
theorem lenT_sound {t : TypeId} {x v : AV} {vx : Value} {ty : TypeId} (h0 : HR X inj σ w) (hx : AR X inj σ w x vx) (h : (aop.lenT P t x).run σ = some v) :
  ∃ val, (Builtin.len_ #[t] ty #[vx]).run P w = .ok val w ∧ AR X inj σ w v val := by
 unfold aop.lenT at h
 split at h
 ·rename_i s hu
  simp only [lenA, L.run_ret, Option.some.injEq] at h; subst h
  simp only [AR, PR] at hx; subst hx
  have hsz : (ByteArray.mk s.toArray).size = s.length := by rw [Lib.size_eq]
  exact ⟨.int .i64 s.length, by simp [Builtin.len_, run_underlying hu, goInt, hsz], rfl⟩
 ·rename_i e es hu
  simp only [lenA, L.run_ret, Option.some.injEq] at h; subst h
  obtain ⟨a, cap, vs, rfl, _⟩ := hx
  exact ⟨.int .i64 es.length, by simp [Builtin.len_, run_underlying hu, goInt], rfl⟩
 ·rename_i e hu
  simp only [lenA, L.run_ret, Option.some.injEq] at h; subst h
  simp only [AR] at hx; subst hx
  exact ⟨.int .i64 0, by simp [Builtin.len_, run_underlying hu, goInt], rfl⟩
 ·rename_i e l g off len hu
  simp only [lenA] at h
  have h := lookArr h
  split at h
  case h_2 => simp at h
  rename_i e' sz g' es ho
  split at h
  case isFalse => simp at h
  rename_i hg; subst hg
  simp only [L.run_ret, Option.some.injEq] at h; subst h
  obtain ⟨_, a2⟩ := hx
  obtain ⟨_, a3⟩ := a2 _ ho
  obtain ⟨a4, a5⟩ := a3 rfl e' _ es rfl
  have : ∃ a c, vx = .slice a len c := by
   rcases a5 with ⟨_, rfl, _, rfl⟩ | ⟨b, c, a, _, rfl, _⟩
   ·exact ⟨_, _, rfl⟩
   ·exact ⟨_, _, rfl⟩
  obtain ⟨a, c, rfl⟩ := this
  exact ⟨.int .i64 len, by simp [Builtin.len_, run_underlying hu, goInt], rfl⟩
 ·rename_i k e hu
  simp only [lenA, L.run_ret, Option.some.injEq] at h; subst h
  simp only [AR, PR] at hx; subst hx
  exact ⟨.int .i64 0, by simp [Builtin.len_, run_underlying hu, goInt], rfl⟩
 ·rename_i k e ks vs hu
  simp only [lenA, L.run_ret, Option.some.injEq] at h; subst h
  simp only [AR, PR] at hx
  rcases hx with ⟨rfl, rfl, _⟩ | ⟨r, ms, clock, rfl, h1, h2, h3, h4, h5⟩
  ·exact ⟨.int .i64 0, by simp [Builtin.len_, run_underlying hu, goInt], rfl⟩
  have hl := h4.length
  simp only [List.length_map, Array.length_toList] at hl
  exact ⟨.int .i64 ms.size, by simp [Builtin.len_, run_underlying hu, goInt, getObj, Sem.run, h3], by show _ = _; rw [hl]⟩
 ·rename_i k e l g hu
  simp only [lenA] at h
  have h := lookArr h
  split at h
  case h_2 => simp at h
  rename_i g' ks vs ho
  split at h
  case isFalse => simp at h
  rename_i hg; subst hg
  simp only [L.run_ret, Option.some.injEq] at h; subst h
  obtain ⟨_, a2⟩ := hx
  obtain ⟨_, a3⟩ := a2 _ ho
  obtain ⟨b, c, a4, rfl⟩ := a3 rfl ks vs rfl
  obtain ⟨b', c', ms, clock, p1, p2, p3, p4, p5⟩ := (ho ▸ h0.obj l _ rfl : OR X inj σ w l (.map g ks vs))
  rw [a4] at p1; cases p1
  have hl := p4.length
  simp only [List.length_map, Array.length_toList] at hl
  exact ⟨.int .i64 ms.size, by simp [Builtin.len_, run_underlying hu, goInt, getObj, Sem.run, p3], by show _ = _; rw [hl]⟩
 ·simp at h
end Go.Ab
namespace Go.Ab
variable {D : Prop}
open Go Go.MapKept
set_option linter.unusedVariables false
set_option linter.unusedSimpArgs false
variable {X : Nat → Prop} {inj : Inj} {σ : Nat → AO} {w : World} {P : Program}
theorem allP_some : ∀ {l : List AV} {xs : List PV}, allP l = some xs → l = xs.map .p
 | [], xs, h => by simp only [allP, Option.some.injEq] at h; subst h; rfl
 | .p x :: r, xs, h => by
  simp only [allP] at h
  split at h
  ·rename_i ys hy
   simp only [Option.some.injEq] at h
   subst h
   rw [List.map_cons, allP_some hy]
  ·cases h
 | .any :: _, _, h => by simp [allP] at h
 | .nils :: _, _, h => by simp [allP] at h
 | .loc .. :: _, _, h => by simp [allP] at h
 | .own .. :: _, _, h => by simp [allP] at h
 | .mapo .. :: _, _, h => by simp [allP] at h
 | .func .. :: _, _, h => by simp [allP] at h
 | .agg _ :: _, _, h => by simp [allP] at h
 | .tup _ :: _, _, h => by simp [allP] at h
theorem ba_beq (a b : List UInt8) : ((⟨a.toArray⟩ : ByteArray) == ⟨b.toArray⟩) = (a == b) := by
 show (a.toArray == b.toArray) = _
 rw [Bool.eq_iff_iff]; simp
def key1 : PV → Bool
 | .agg _ => false
 | _ => true
theorem keyEqK_one {kt : TypeId} {k x : PV} {b : Bool} (h1 : key1 k = true) (h : keyEqK P kt k x = some b) : keyEq k x = some b := by
 cases k <;> simp only [key1, Bool.false_eq_true] at h1 <;> cases x <;> simp only [keyEqK] at h <;> first | exact h | (cases h; done) | (simp [keyEq] at h)
theorem keyB_isKey {kt : TypeId} {k : PV} {d : TypeDesc} {vk : Value} {Y : Nat → Prop} (hd : P.underlying kt = some d) (hk : keyB P kt k = true) (hk1 : key1 k = true) (h : PR Y w k vk) : IsKey d vk := by
 unfold keyB at hk
 rw [hd] at hk
 split at hk
 ·rename_i q q' n e
  simp only [Option.some.injEq] at e
  subst e
  simp only [PR] at h; subst h
  simpa [IsKey] using hk
 ·rename_i s e
  simp only [Option.some.injEq] at e
  subst e
  simp only [PR] at h; subst h
  trivial
 ·rename_i s e
  simp only [Option.some.injEq] at e
  subst e
  simp only [PR] at h; subst h
  trivial
 ·cases hk1
 ·cases hk1
 ·cases hk
theorem keyEq_now {kt : TypeId} {k x : PV} {d : TypeDesc} {vk vx : Value} {Y Z : Nat → Prop} {b : Bool} (hd : P.underlying kt = some d) (hk : keyB P kt k = true) (hk1 : key1 k = true) (h1 : PR Y w k vk) (h2 : PR Z w x vx) (he : keyEq k x = some b) : Instr.sameNow d vk vx = some b := by
 unfold keyB at hk
 rw [hd] at hk
 split at hk
 ·rename_i q q' n e
  simp only [Option.some.injEq] at e
  subst e
  simp only [PR] at h1; subst h1
  cases x <;> simp only [keyEq] at he <;> try cases he
  simp only [PR] at h2; subst h2
  simpa [Instr.sameNow] using he
 ·rename_i s e
  simp only [Option.some.injEq] at e
  subst e
  simp only [PR] at h1; subst h1
  cases x <;> simp only [keyEq] at he <;> try cases he
  simp only [PR] at h2; subst h2
  rename_i y
  simp only [Instr.sameNow, Option.some.injEq, ba_beq]
 ·rename_i s e
  simp only [Option.some.injEq] at e
  subst e
  simp only [PR] at h1; subst h1
  cases x <;> simp only [keyEq] at he <;> try cases he
  simp only [PR] at h2; subst h2
  rfl
 ·cases hk1
 ·cases hk1
 ·cases hk
theorem keyEq_same {k x : PV} {vk vx : Value} {Y Z : Nat → Prop} (h1 : PR Y w k vk) (h2 : PR Z w x vx) (he : keyEq k x = some true) : vk = vx ∧ Instr.sameBits 10000 vx vk = true := by
 cases k <;> cases x <;> simp only [keyEq] at he <;> try cases he
 ·rename_i a b c d
  split at he
  ·rename_i e; subst e
   simp only [Option.some.injEq, beq_iff_eq] at he
   subst he
   simp only [PR] at h1 h2; subst h1; subst h2
   exact ⟨rfl, by simp [Instr.sameBits]⟩
  ·cases he
 ·simp only [Option.some.injEq, beq_iff_eq] at he
  subst he
  simp only [PR] at h1 h2; subst h1; subst h2
  exact ⟨rfl, by first | (simp [Instr.sameBits]; done) | (simp only [Instr.sameBits, ba_beq]; exact beq_self_eq_true _)⟩
 ·simp only [Option.some.injEq, beq_iff_eq] at he
  subst he
  simp only [PR] at h1 h2; subst h1; subst h2
  exact ⟨rfl, by show ((⟨_⟩ : ByteArray) == ⟨_⟩) = true; rw [ba_beq]; exact beq_self_eq_true _⟩
theorem find_sound {kt : TypeId} {k : PV} {d : TypeDesc} {vk : Value} {Y Z : Nat → Prop} (hd : P.underlying kt = some d) (hk : keyB P kt k = true) (hk1 : key1 k = true) (h1 : PR Y w k vk) : ∀ {xs : List PV} {vs : List AV} {es : List MapEntry} {i : Nat} {r : Option AV},
  PRs Z w xs (es.map (·.key)) → ARs X inj σ w vs (es.map (·.val)) → findA P kt k xs vs = some r →
  (r = none ∧ Instr.findNow d vk es i = some none) ∨ ∃ v j val, r = some v ∧ Instr.findNow d vk es i = some (some (j, val)) ∧ AR X inj σ w v val
 | [], vs, es, i, r, hp, hv, h => by
  simp only [findA, Option.some.injEq] at h
  simp only [PRs] at hp
  have : es = [] := by simpa using hp
  subst this
  exact .inl ⟨h.symm, rfl⟩
 | x :: xs, vs, es, i, r, hp, hv, h => by
  cases es with
  | nil => simp [PRs] at hp
  | cons e es =>
   simp only [List.map_cons, PRs, List.cons.injEq] at hp
   obtain ⟨_, _, ⟨rfl, rfl⟩, hp1, hp2⟩ := hp
   cases vs with
   | nil => simp [ARs] at hv
   | cons v vs =>
    simp only [List.map_cons, ARs, List.cons.injEq] at hv
    obtain ⟨_, _, ⟨rfl, rfl⟩, hv1, hv2⟩ := hv
    simp only [findA] at h
    split at h
    ·rename_i he
     replace he := keyEqK_one hk1 he
     have := keyEq_now hd hk hk1 h1 hp1 he
     simp only [Option.some.injEq] at h
     exact .inr ⟨v, i, e.val, h.symm, by simp [Instr.findNow, this], hv1⟩
    ·rename_i he
     replace he := keyEqK_one hk1 he
     have := keyEq_now hd hk hk1 h1 hp1 he
     rcases find_sound hd hk hk1 h1 (i := i + 1) hp2 hv2 h with ⟨a, b⟩ | ⟨v', j, val, a, b, c⟩
     ·exact .inl ⟨a, by simp [Instr.findNow, this, b]⟩
     ·exact .inr ⟨v', j, val, a, by simp [Instr.findNow, this, b], c⟩
    ·cases h
theorem entries_sound (h : HR X inj σ w) {m : AV} {vm : Value} {ks vs : List AV} (hm : AR X inj σ w m vm) (hr : (entriesA m).run σ = some (ks, vs)) :
  (vm = .map none ∧ ks = [] ∧ vs = []) ∨ ∃ b ms clock, vm = .map (some b) ∧ w.heap[b]? = some (.map ms clock) ∧ ARs X inj σ w ks (ms.toList.map (·.key)) ∧ ARs X inj σ w vs (ms.toList.map (·.val)) := by
 unfold entriesA at hr
 split at hr
 ·rename_i kx vx
  simp only [L.run_ret, Option.some.injEq, Prod.mk.injEq] at hr
  obtain ⟨rfl, rfl⟩ := hr
  simp only [AR, PR] at hm
  rcases hm with ⟨rfl, rfl, rfl⟩ | ⟨r, ms, clock, rfl, _, _, h3, h4, h5⟩
  ·exact .inl ⟨rfl, rfl, rfl⟩
  ·exact .inr ⟨r, ms, clock, rfl, h3, ARs_map_p.2 h4, ARs_map_p.2 h5⟩
 ·rename_i l g
  simp only [L.run] at hr
  split at hr
  case h_2 => simp at hr
  rename_i g' kx vx ho
  split at hr
  case isFalse => simp at hr
  rename_i hg; subst hg
  simp only [L.run_ret, Option.some.injEq, Prod.mk.injEq] at hr
  obtain ⟨rfl, rfl⟩ := hr
  obtain ⟨b, c, ms, clock, p1, p2, p3, p4, p5⟩ := (ho ▸ h.obj l _ rfl : OR X inj σ w l (.map g kx vx))
  obtain ⟨_, a2⟩ := hm
  obtain ⟨_, a3⟩ := a2 _ ho
  obtain ⟨b', c', a4, rfl⟩ := a3 rfl kx vx rfl
  rw [a4] at p1; cases p1
  exact .inr ⟨b, ms, clock, rfl, p3, p4, p5⟩
 ·simp at hr
theorem upd_sound {kt : TypeId} {k : PV} {v : AV} {d : TypeDesc} {vk : Value} {Y Z : Nat → Prop} (hd : P.underlying kt = some d) (hk : keyB P kt k = true) (hk1 : key1 k = true) (h1 : PR Y w k vk) : ∀ {xs : List PV} {vs : List AV} {es : List MapEntry} {i : Nat} {r : List PV × List AV},
  PRs Z w xs (es.map (·.key)) → ARs X inj σ w vs (es.map (·.val)) → updA P kt k v xs vs = some r →
  (Instr.findNow d vk es i = some none ∧ r = (xs ++ [k], vs ++ [v])) ∨ ∃ j e, Instr.findNow d vk es i = some (some (i + j, e.val)) ∧ es[j]? = some e ∧ vk = e.key ∧ Instr.sameBits 10000 e.key vk = true ∧ r = (xs, vs.set j v)
 | [], vs, es, i, r, hp, hv, h => by
  simp only [PRs] at hp
  have : es = [] := by simpa using hp
  subst this
  simp only [List.map_nil] at hv
  have hvs : vs = [] := by have := hv.length; simpa using this
  subst hvs
  simp only [updA, Option.some.injEq] at h
  exact .inl ⟨rfl, h.symm⟩
 | x :: xs, vs, es, i, r, hp, hv, h => by
  cases es with
  | nil => simp [PRs] at hp
  | cons e es =>
   simp only [List.map_cons, PRs, List.cons.injEq] at hp
   obtain ⟨_, _, ⟨rfl, rfl⟩, hp1, hp2⟩ := hp
   cases vs with
   | nil => simp [ARs] at hv
   | cons u vs =>
    simp only [List.map_cons, ARs, List.cons.injEq] at hv
    obtain ⟨_, _, ⟨rfl, rfl⟩, hv1, hv2⟩ := hv
    simp only [updA] at h
    split at h
    ·rename_i he
     replace he := keyEqK_one hk1 he
     have h3 := keyEq_now hd hk hk1 h1 hp1 he
     obtain ⟨h4, h5⟩ := keyEq_same h1 hp1 he
     simp only [Option.some.injEq] at h
     exact .inr ⟨0, e, by simp [Instr.findNow, h3], rfl, h4, h5, h.symm⟩
    ·rename_i he
     replace he := keyEqK_one hk1 he
     have h3 := keyEq_now hd hk hk1 h1 hp1 he
     obtain ⟨q, hq, rfl⟩ := Option.map_eq_some_iff.1 h
     rcases upd_sound hd hk hk1 h1 (i := i + 1) hp2 hv2 hq with ⟨a, b⟩ | ⟨j, e', a, b, c, c', b'⟩
     ·exact .inl ⟨by simp [Instr.findNow, h3, a], by rw [b]; rfl⟩
     ·refine .inr ⟨j + 1, e', ?_, by simpa using b, c, c', by rw [b']; rfl⟩
      rw [show i + (j + 1) = i + 1 + j by omega, ← a]
      simp [Instr.findNow, h3]
    ·cases h
theorem PRs.free {Y : Nat → Prop} {xs : List PV} {us : List Value} (h : PRs Y w xs us) : PRs (fun _ => False) w xs us := PRs.keep ⟨Nat.le_refl _, fun _ _ _ => rfl, fun _ _ _ h => h⟩ xs us h
theorem keyEqK_agg {kt : TypeId} {ks : List PV} {x : PV} {b : Bool} (h : keyEqK P kt (.agg ks) x = some b) : ∃ ys, x = .agg ys ∧ eqT P 9 kt ks ys = some b ∧ b = eqC ks ys := by
 cases x <;> simp only [keyEqK] at h <;> try cases h
 rename_i ys
 obtain ⟨r, h1, h2⟩ := Option.bind_eq_some_iff.1 h
 split at h2
 ·rename_i e
  simp only [Option.some.injEq] at h2
  subst h2
  exact ⟨ys, rfl, h1, e⟩
 ·cases h2
theorem eqC_same : ∀ {xs ys : List PV} {us vs : List Value} {Y Z : Nat → Prop}, eqC xs ys = true → PRs Y w xs us → PRs Z w ys vs → us = vs ∧ ∀ n, ((us.zip vs).all fun p => Instr.sameBits n p.1 p.2) = true
 | [], [], us, vs, _, _, _, h1, h2 => by simp only [PRs] at h1 h2; subst h1; subst h2; exact ⟨rfl, fun _ => rfl⟩
 | .int k x :: xs, .int k' y :: ys, us, vs, _, _, h, h1, h2 => by
  simp only [eqC, Bool.and_eq_true, beq_iff_eq] at h
  obtain ⟨u, r, rfl, p1, q1⟩ := h1
  obtain ⟨v, r', rfl, p2, q2⟩ := h2
  obtain ⟨e, f⟩ := eqC_same h.2.2 q1 q2
  simp only [PR] at p1 p2
  obtain ⟨rfl, rfl, _⟩ := h
  subst p1; subst p2; subst e
  refine ⟨rfl, fun n => ?_⟩
  simp only [List.zip_cons_cons, List.all_cons, f n, Bool.and_true]
  cases n <;> simp [Instr.sameBits]
 | .str x :: xs, .str y :: ys, us, vs, _, _, h, h1, h2 => by
  simp only [eqC, Bool.and_eq_true, beq_iff_eq] at h
  obtain ⟨u, r, rfl, p1, q1⟩ := h1
  obtain ⟨v, r', rfl, p2, q2⟩ := h2
  obtain ⟨e, f⟩ := eqC_same h.2 q1 q2
  simp only [PR] at p1 p2
  obtain ⟨rfl, _⟩ := h
  subst p1; subst p2; subst e
  refine ⟨rfl, fun n => ?_⟩
  simp only [List.zip_cons_cons, List.all_cons, f n, Bool.and_true]
  cases n <;> (simp only [Instr.sameBits]; rw [ba_beq]; exact beq_self_eq_true _)
 | .bool x :: xs, .bool y :: ys, us, vs, _, _, h, h1, h2 => by
  simp only [eqC, Bool.and_eq_true, beq_iff_eq] at h
  obtain ⟨u, r, rfl, p1, q1⟩ := h1
  obtain ⟨v, r', rfl, p2, q2⟩ := h2
  obtain ⟨e, f⟩ := eqC_same h.2 q1 q2
  simp only [PR] at p1 p2
  obtain ⟨rfl, _⟩ := h
  subst p1; subst p2; subst e
  refine ⟨rfl, fun n => ?_⟩
  simp only [List.zip_cons_cons, List.all_cons, f n, Bool.and_true]
  cases n <;> simp [Instr.sameBits]
theorem agg_equal {kt : TypeId} {ks : List PV} {x : PV} {b : Bool} {vk vx : Value} {Y Z : Nat → Prop} (h : keyEqK P kt (.agg ks) x = some b) (h1 : PR Y w (.agg ks) vk) (h2 : PR Z w x vx) (ht : isAggT P kt = some true) :
  (Op.equal kt vk vx).run P w = .ok b w ∧ (b = true → vk = vx ∧ Instr.sameBits 10000 vx vk = true) := by
 obtain ⟨ys, rfl, he, hb⟩ := keyEqK_agg h
 obtain ⟨us, rfl, p1, o1⟩ := h1
 obtain ⟨vs, rfl, p2, o2⟩ := h2
 have := eqT_sound (P := P) (w := w) 9991 9 kt ks ys b us vs he p1.free p2.free o1 o2
 simp only [valOf, ht, if_true] at this
 refine ⟨this, fun hbt => ?_⟩
 subst hbt
 obtain ⟨e, f⟩ := eqC_same hb.symm p1 p2
 subst e
 refine ⟨rfl, ?_⟩
 show Instr.sameBits (9999 + 1) _ _ = true
 simp only [Instr.sameBits, beq_self_eq_true, Bool.true_and]
 exact f 9999
theorem findAsk_sound {kt : TypeId} {ks : List PV} {vk : Value} {Y Z : Nat → Prop} (ht : isAggT P kt = some true) (h1 : PR Y w (.agg ks) vk) : ∀ {xs : List PV} {vs : List AV} {es : List MapEntry} {i : Nat} {r : Option AV},
  PRs Z w xs (es.map (·.key)) → ARs X inj σ w vs (es.map (·.val)) → findA P kt (.agg ks) xs vs = some r →
  (r = none ∧ (Instr.findAsking kt vk es i).run P w = .ok none w) ∨ ∃ v j val, r = some v ∧ (Instr.findAsking kt vk es i).run P w = .ok (some (j, val)) w ∧ AR X inj σ w v val
 | [], vs, es, i, r, hp, hv, h => by
  simp only [findA, Option.some.injEq] at h
  simp only [PRs] at hp
  have : es = [] := by simpa using hp
  subst this
  exact .inl ⟨h.symm, by simp [Instr.findAsking]⟩
 | x :: xs, vs, es, i, r, hp, hv, h => by
  cases es with
  | nil => simp [PRs] at hp
  | cons e es =>
   simp only [List.map_cons, PRs, List.cons.injEq] at hp
   obtain ⟨_, _, ⟨rfl, rfl⟩, hp1, hp2⟩ := hp
   cases vs with
   | nil => simp [ARs] at hv
   | cons v vs =>
    simp only [List.map_cons, ARs, List.cons.injEq] at hv
    obtain ⟨_, _, ⟨rfl, rfl⟩, hv1, hv2⟩ := hv
    simp only [findA] at h
    split at h
    ·rename_i he
     obtain ⟨q, _⟩ := agg_equal he h1 hp1 ht
     simp only [Option.some.injEq] at h
     exact .inr ⟨v, i, e.val, h.symm, by simp [Instr.findAsking, q], hv1⟩
    ·rename_i he
     obtain ⟨q, _⟩ := agg_equal he h1 hp1 ht
     rcases findAsk_sound ht h1 (i := i + 1) hp2 hv2 h with ⟨a, b⟩ | ⟨v', j, val, a, b, c⟩
     ·exact .inl ⟨a, by simp [Instr.findAsking, q, b]⟩
     ·exact .inr ⟨v', j, val, a, by simp [Instr.findAsking, q, b], c⟩
    ·cases h
theorem updAsk_sound {kt : TypeId} {ks : List PV} {v : AV} {vk : Value} {Y Z : Nat → Prop} (ht : isAggT P kt = some true) (h1 : PR Y w (.agg ks) vk) : ∀ {xs : List PV} {vs : List AV} {es : List MapEntry} {i : Nat} {r : List PV × List AV},
  PRs Z w xs (es.map (·.key)) → ARs X inj σ w vs (es.map (·.val)) → updA P kt (.agg ks) v xs vs = some r →
  ((Instr.findAsking kt vk es i).run P w = .ok none w ∧ r = (xs ++ [.agg ks], vs ++ [v])) ∨ ∃ j e, (Instr.findAsking kt vk es i).run P w = .ok (some (i + j, e.val)) w ∧ es[j]? = some e ∧ vk = e.key ∧ Instr.sameBits 10000 e.key vk = true ∧ r = (xs, vs.set j v)
 | [], vs, es, i, r, hp, hv, h => by
  simp only [PRs] at hp
  have : es = [] := by simpa using hp
  subst this
  simp only [List.map_nil] at hv
  have hvs : vs = [] := by have := hv.length; simpa using this
  subst hvs
  simp only [updA, Option.some.injEq] at h
  exact .inl ⟨by simp [Instr.findAsking], h.symm⟩
 | x :: xs, vs, es, i, r, hp, hv, h => by
  cases es with
  | nil => simp [PRs] at hp
  | cons e es =>
   simp only [List.map_cons, PRs, List.cons.injEq] at hp
   obtain ⟨_, _, ⟨rfl, rfl⟩, hp1, hp2⟩ := hp
   cases vs with
   | nil => simp [ARs] at hv
   | cons u vs =>
    simp only [List.map_cons, ARs, List.cons.injEq] at hv
    obtain ⟨_, _, ⟨rfl, rfl⟩, hv1, hv2⟩ := hv
    simp only [updA] at h
    split at h
    ·rename_i he
     obtain ⟨q, q2⟩ := agg_equal he h1 hp1 ht
     obtain ⟨h4, h5⟩ := q2 rfl
     simp only [Option.some.injEq] at h
     exact .inr ⟨0, e, by simp [Instr.findAsking, q], rfl, h4, h5, h.symm⟩
    ·rename_i he
     obtain ⟨q, _⟩ := agg_equal he h1 hp1 ht
     obtain ⟨z, hz, rfl⟩ := Option.map_eq_some_iff.1 h
     rcases updAsk_sound ht h1 (i := i + 1) hp2 hv2 hz with ⟨a, b⟩ | ⟨j, e', a, b, c, c', b'⟩
     ·exact .inl ⟨by simp [Instr.findAsking, q, a], by rw [b]; rfl⟩
     ·refine .inr ⟨j + 1, e', ?_, by simpa using b, c, c', by rw [b']; rfl⟩
      rw [show i + (j + 1) = i + 1 + j by omega]
      simp [Instr.findAsking, q, a]
    ·cases h
theorem keyB_agg {kt : TypeId} {k : PV} (hk : keyB P kt k = true) (h1 : key1 k = false) : isAggT P kt = some true ∧ (∃ d, P.underlying kt = some d ∧ (∀ a b, Instr.sameNow d a b = none)) ∧ ∃ ks, k = .agg ks ∧ (eqT P 9 kt ks ks).isSome = true := by
 cases k <;> simp only [key1, Bool.true_eq_false] at h1
 rename_i ks
 unfold keyB at hk
 split at hk <;> try (rename_i e; cases e; done)
 all_goals try (cases hk; done)
 ·rename_i fs xs hu e
  cases e
  exact ⟨by simp [isAggT, hu], ⟨_, hu, fun _ _ => rfl⟩, ks, rfl, hk⟩
 ·rename_i n e' xs hu e
  cases e
  exact ⟨by simp [isAggT, hu], ⟨_, hu, fun _ _ => rfl⟩, ks, rfl, hk⟩
theorem keyB_check {kt : TypeId} {k : PV} {vk : Value} {Y : Nat → Prop} (hk : keyB P kt k = true) (h1 : PR Y w k vk) (em : Bool) : (Instr.checkKey em 10000 kt vk).run P w = .ok () w := by
 cases hk1 : key1 k with
 | true =>
  obtain ⟨d, hd⟩ : ∃ d, P.underlying kt = some d := by
   cases hd : P.underlying kt with
   | none => simp [keyB, hd] at hk
   | some d => exact ⟨d, rfl⟩
  exact run_checkKey (w := w) hd (keyB_isKey hd hk hk1 h1) em 9999
 | false =>
  obtain ⟨ht, _, ks, rfl, he⟩ := keyB_agg hk hk1
  obtain ⟨r, hr⟩ := Option.isSome_iff_exists.1 he
  obtain ⟨us, rfl, p1, o1⟩ := h1
  have := checkKey_eqT (P := P) (w := w) em 9991 9 kt ks ks r us hr p1 o1
  simpa only [valOf, ht, if_true] using this
theorem findK_nil {kt : TypeId} {k : PV} {vk : Value} (hk : keyB P kt k = true) : (Instr.findKey kt vk []).run P w = .ok none w := by
 obtain ⟨d, hd⟩ : ∃ d, P.underlying kt = some d := by
  cases hd : P.underlying kt with
  | none => simp [keyB, hd] at hk
  | some d => exact ⟨d, rfl⟩
 exact run_findKey (P := P) (w := w) hd rfl
theorem findK_ask {kt : TypeId} {d : TypeDesc} {vk : Value} {e : MapEntry} {es : List MapEntry} (hd : P.underlying kt = some d) (hn : ∀ a b, Instr.sameNow d a b = none) : (Instr.findKey kt vk (e :: es)).run P w = (Instr.findAsking kt vk (e :: es) 0).run P w := by
 simp [Instr.findKey, run_underlying hd, Instr.findNow, hn]
theorem findK_sound {kt : TypeId} {k : PV} {vk : Value} {Y Z : Nat → Prop} (hk : keyB P kt k = true) (h1 : PR Y w k vk) {xs : List PV} {vs : List AV} {es : List MapEntry} {r : Option AV}
  (hp : PRs Z w xs (es.map (·.key))) (hv : ARs X inj σ w vs (es.map (·.val))) (h : findA P kt k xs vs = some r) :
  (r = none ∧ (Instr.findKey kt vk es).run P w = .ok none w) ∨ ∃ v j val, r = some v ∧ (Instr.findKey kt vk es).run P w = .ok (some (j, val)) w ∧ AR X inj σ w v val := by
 cases hk1 : key1 k with
 | true =>
  obtain ⟨d, hd⟩ : ∃ d, P.underlying kt = some d := by
   cases hd : P.underlying kt with
   | none => simp [keyB, hd] at hk
   | some d => exact ⟨d, rfl⟩
  rcases find_sound hd hk hk1 h1 (i := 0) hp hv h with ⟨a, b⟩ | ⟨v, j, val, a, b, c⟩
  ·exact .inl ⟨a, run_findKey (P := P) (w := w) hd b⟩
  ·exact .inr ⟨v, j, val, a, run_findKey (P := P) (w := w) hd b, c⟩
 | false =>
  obtain ⟨ht, ⟨d, hd, hn⟩, ks, rfl, he⟩ := keyB_agg hk hk1
  cases es with
  | nil =>
   rcases findAsk_sound (i := 0) ht h1 hp hv h with ⟨a, _⟩ | ⟨v, j, val, a, b, c⟩
   ·exact .inl ⟨a, findK_nil hk⟩
   ·simp [Instr.findAsking] at b
  | cons e es =>
   rw [findK_ask hd hn]
   exact findAsk_sound (i := 0) ht h1 hp hv h
theorem updK_sound {kt : TypeId} {k : PV} {v : AV} {vk : Value} {Y Z : Nat → Prop} (hk : keyB P kt k = true) (h1 : PR Y w k vk) {xs : List PV} {vs : List AV} {es : List MapEntry} {r : List PV × List AV}
  (hp : PRs Z w xs (es.map (·.key))) (hv : ARs X inj σ w vs (es.map (·.val))) (h : updA P kt k v xs vs = some r) :
  ((Instr.findKey kt vk es).run P w = .ok none w ∧ r = (xs ++ [k], vs ++ [v])) ∨ ∃ j e, (Instr.findKey kt vk es).run P w = .ok (some (j, e.val)) w ∧ es[j]? = some e ∧ vk = e.key ∧ Instr.sameBits 10000 e.key vk = true ∧ r = (xs, vs.set j v) := by
 cases hk1 : key1 k with
 | true =>
  obtain ⟨d, hd⟩ : ∃ d, P.underlying kt = some d := by
   cases hd : P.underlying kt with
   | none => simp [keyB, hd] at hk
   | some d => exact ⟨d, rfl⟩
  rcases upd_sound hd hk hk1 h1 (i := 0) hp hv h with ⟨a, b⟩ | ⟨j, e, a, b⟩
  ·exact .inl ⟨run_findKey (P := P) (w := w) hd a, b⟩
  ·exact .inr ⟨j, e, run_findKey (P := P) (w := w) hd (by rw [a, Nat.zero_add]), b⟩
 | false =>
  obtain ⟨ht, ⟨d, hd, hn⟩, ks, rfl, he⟩ := keyB_agg hk hk1
  cases es with
  | nil =>
   rcases updAsk_sound (i := 0) ht h1 hp hv h with ⟨_, a⟩ | ⟨j, e, a, b, _⟩
   ·exact .inl ⟨findK_nil hk, a⟩
   ·simp at b
  | cons e es =>
   rw [findK_ask hd hn]
   rcases updAsk_sound (i := 0) ht h1 hp hv h with ⟨a, b⟩ | ⟨j, e', a, b⟩
   ·exact .inl ⟨a, b⟩
   ·exact .inr ⟨j, e', by rw [a, Nat.zero_add], b⟩
theorem zeroM_sound {t : TypeId} {z : AV} (h : zeroM P t = some z) : ∃ val, (zeroValue t).run P w = .ok val w ∧ AR X inj σ w z val := by
 have key : ∀ z, zeroOf P t = some z → ∃ val, (zeroValue t).run P w = .ok val w ∧ AR X inj σ w z val := by
  intro z hz
  unfold zeroOf at hz
  cases hi : P.info? t with
  | none => rw [hi] at hz; cases hz
  | some i =>
   rw [hi] at hz
   cases hzz : i.zero with
   | none => simp [hzz] at hz
   | some v =>
    simp only [Option.bind_some, hzz, Option.map_some, Option.some.injEq] at hz
    subst hz
    exact ⟨v, by simp [zeroValue, typeInfo, hi, hzz], AR_ofV v⟩
 unfold zeroM at h
 split at h
 ·split at h
  ·rename_i hz
   simp only [Option.some.injEq] at h
   subst h
   obtain ⟨val, h1, h2⟩ := key _ hz
   simp only [AR] at h2
   subst h2
   exact ⟨_, h1, ⟨_, _, [], rfl, Nat.le_refl _, rfl, .inl rfl⟩⟩
  ·cases h
 ·exact key z h
theorem lookupA_sound (h : HR X inj σ w) {t : TypeId} {m k r : AV} {vm vk : Value} {c : Bool} (hm : AR X inj σ w m vm) (hk : AR X inj σ w k vk) (hr : (lookupA P t m k c).run σ = some r) :
  ∃ val, (Instr.lookup t vm vk c).run P w = .ok val w ∧ AR X inj σ w r val := by
 unfold lookupA at hr
 split at hr
 case h_2 => simp at hr
 rename_i kt et key hu
 split at hr
 case h_2 => simp at hr
 rename_i z hkb hz
 rw [L.run_bind'] at hr
 cases he : (entriesA m).run σ with
 | none => rw [he] at hr; cases hr
 | some e =>
  obtain ⟨ks, vs⟩ := e
  rw [he] at hr
  simp only [Option.bind_some] at hr
  split at hr
  case h_2 => simp at hr
  rename_i kxs hks
  split at hr
  case h_2 => simp at hr
  rename_i res hf
  simp only [L.run_ret, Option.some.injEq] at hr
  subst hr
  simp only [AR] at hk
  obtain ⟨zv, hz1, hz2⟩ := zeroM_sound (w := w) (X := X) (inj := inj) (σ := σ) hz
  have fin : ∀ (v : AV) (val : Value) (ok : Bool), AR X inj σ w v val → AR X inj σ w (if c = true then mkTup [v, .p (.bool ok)] else v) (if c then .tuple #[val, .bool ok] else val) := by
   intro v val ok hv
   cases c
   ·exact hv
   ·exact AR_mkTup (cs := [v, .p (.bool ok)]) (vs := [val, .bool ok]) ⟨_, _, rfl, hv, _, _, rfl, rfl, rfl⟩
  rcases entries_sound h hm he with ⟨rfl, rfl, rfl⟩ | ⟨b, ms, clock, rfl, hb, h4, h5⟩
  ·simp only [allP, Option.some.injEq] at hks
   subst hks
   simp only [findA, Option.some.injEq] at hf
   subst hf
   refine ⟨_, ?_, fin _ _ _ hz2⟩
   have hck := keyB_check (w := w) hkb hk true
   have hfk := findK_nil (w := w) (vk := vk) hkb
   simp [Instr.lookup, run_underlying hu, hck, hfk, hz1]
  ·have hke := allP_some hks
   subst hke
   have hck := keyB_check (w := w) hkb hk ms.isEmpty
   rcases findK_sound hkb hk (ARs_map_p.1 h4) h5 hf with ⟨rfl, hfk⟩ | ⟨v, j, val, rfl, hfk, hv⟩
   ·refine ⟨_, ?_, fin _ _ _ hz2⟩
    simp [Instr.lookup, run_underlying hu, MapKept.run_getObj_map hb, hck, hfk, hz1]
   ·refine ⟨_, ?_, fin _ _ _ hv⟩
    simp [Instr.lookup, run_underlying hu, MapKept.run_getObj_map hb, hck, hfk]
theorem modify_keys (ms : Array MapEntry) (j : Nat) (e : MapEntry) (vk vv : Value) (he : ms.toList[j]? = some e) (hk : vk = e.key) :
  ((ms.modify j fun e => { e with key := vk, val := vv }).toList.map (·.key)) = ms.toList.map (·.key) ∧ ((ms.modify j fun e => { e with key := vk, val := vv }).toList.map (·.val)) = (ms.toList.map (·.val)).set j vv := by
 constructor
 ·apply List.ext_getElem?
  intro i
  simp only [Array.toList_modify, List.getElem?_map, List.getElem?_modify]
  by_cases h : j = i
  ·subst h; simp [he, hk]
  ·simp [h]
 ·apply List.ext_getElem?
  intro i
  simp only [Array.toList_modify, List.getElem?_map, List.getElem?_modify, List.getElem?_set]
  by_cases h : j = i
  ·subst h
   have := (List.getElem?_eq_some_iff.1 he).1
   simp only [Array.length_toList] at this
   simp [he, this]
  ·simp [h]
theorem frozen_setMap (w : World) (b : Nat) {ms ms' : Array MapEntry} {c c' : Nat} (hb : w.heap[b]? = some (.map ms c)) (a : Addr) : ({ w with heap := w.heap.setIfInBounds b (.map ms' c') } : World).frozen? a = w.frozen? a := by
 unfold World.frozen?
 by_cases h : a.block = b
 ·have hlt := (Array.getElem?_eq_some_iff.1 hb).1
  simp only [h, Array.getElem?_setIfInBounds_self, hb, hlt, if_true]
 ·simp only [Array.getElem?_setIfInBounds_ne (Ne.symm h)]
theorem mapUpdA_sound (h : HR X inj σ w) {t : TypeId} {m k v r : AV} {vm vk vv : Value} {up : Upd} (hm : AR X inj σ w m vm) (hk : AR X inj σ w k vk) (hv : AR X inj σ w v vv) (hr : (mapUpdA P t m k v).run σ = some (r, up)) :
  ∃ w', (Instr.mapUpdate t vm vk vv).run P w = .ok () w' ∧ HR X inj (upd σ up) w' ∧ Ev D X inj σ w inj (upd σ up) w' ∧ r = .any := by
 unfold mapUpdA at hr
 split at hr
 case h_2 => simp at hr
 rename_i kt et l g key hu
 split at hr
 case isFalse => simp at hr
 rename_i hkb
 simp only [Bool.and_eq_true] at hkb
 obtain ⟨hkb, hvk⟩ := hkb
 simp only [L.run] at hr
 split at hr
 case h_2 => simp at hr
 rename_i g' ks vs ho
 split at hr
 case isFalse => simp at hr
 rename_i hg; subst hg
 split at hr
 case h_2 => simp at hr
 rename_i kxs hks
 split at hr
 case h_2 => simp at hr
 rename_i res hup
 simp only [L.run_ret, Option.some.injEq, Prod.mk.injEq] at hr
 obtain ⟨rfl, rfl⟩ := hr
 have hke := allP_some hks
 subst hke
 simp only [AR] at hk
 obtain ⟨b, c, ms, clock, p1, p2, p3, p4, p5⟩ := (ho ▸ h.obj l _ rfl : OR X inj σ w l (.map g (kxs.map .p) vs))
 obtain ⟨_, a2⟩ := hm
 obtain ⟨_, a3⟩ := a2 _ ho
 obtain ⟨b', c', a4, rfl⟩ := a3 rfl _ _ rfl
 rw [a4] at p1; cases p1
 have hck := keyB_check (w := w) hkb hk false
 have goal : ∀ (ms' : Array MapEntry) (clock' : Nat) (ks' : List PV) (vs' : List AV), (∀ {inj' σ' w'}, Ev D X inj σ w inj' σ' w' → ARs X inj' σ' w' (ks'.map .p) (ms'.toList.map (·.key)) ∧ ARs X inj' σ' w' vs' (ms'.toList.map (·.val))) →
   HR X inj (upd σ (some (l, .map g (ks'.map .p) vs'))) { w with heap := w.heap.setIfInBounds b (.map ms' clock') } ∧ Ev D X inj σ w inj (upd σ (some (l, .map g (ks'.map .p) vs'))) { w with heap := w.heap.setIfInBounds b (.map ms' clock') } := by
  intro ms' clock' ks' vs' hars
  have hlt := (Array.getElem?_eq_some_iff.1 p3).1
  have hup := h.update (D := D) (w' := { w with heap := w.heap.setIfInBounds b (.map ms' clock') }) (l := l) (o := .map g (kxs.map .p) vs) (o' := .map g (ks'.map .p) vs') (x := inj l) ho rfl rfl rfl (fun _ => Nat.le_refl _) (by simp)
   (fun a _ => frozen_setMap w b p3 a) (fun q hq hne => Array.getElem?_setIfInBounds_ne (fun e => hne rfl c (by rw [← e]; exact a4)))
   (fun b1 c1 h1 => .inr ⟨rfl, c1, h1⟩) ⟨Nat.le_refl _, fun _ _ => ⟨rfl, .inr ⟨_, _, _, _, rfl, rfl⟩⟩⟩
  rw [inj_same] at hup
  obtain ⟨hev, hhr⟩ := hup
  obtain ⟨e1, e2⟩ := hars hev
  exact ⟨hhr ⟨b, c, ms', clock', a4, p2, by simp [hlt], e1, e2⟩, hev⟩
 rcases updK_sound (v := v) hkb hk (ARs_map_p.1 p4) p5 hup with ⟨hfk, rfl⟩ | ⟨j, e, hfk, he, hke, hsb, rfl⟩
 ·have := goal (ms.push { key := vk, val := vv, born := clock }) (clock + 1) (kxs ++ [key]) (vs ++ [v]) (fun hev => ⟨by
   simp only [Array.toList_push, List.map_append, List.map_cons, List.map_nil]
   exact (ARs.ev hev h.xlt _ _ p4).append ⟨_, _, rfl, AR.ev hev h.xlt (.p key) vk hk, rfl⟩, by
   simp only [Array.toList_push, List.map_append, List.map_cons, List.map_nil]
   exact (ARs.ev hev h.xlt _ _ p5).append ⟨_, _, rfl, AR.ev hev h.xlt v vv hv, rfl⟩⟩)
  refine ⟨_, ?_, this.1, this.2, rfl⟩
  simp [Instr.mapUpdate, run_underlying hu, MapKept.run_getObj_map p3, hck, hfk, run_setObj_map _ p3]
 ·obtain ⟨m1, m2⟩ := modify_keys ms j e vk vv he hke
  have := goal (ms.modify j fun e => { e with key := vk, val := vv }) clock kxs (vs.set j v) (fun hev => ⟨by
   rw [m1]; exact ARs.ev hev h.xlt _ _ p4, by
   rw [m2]; exact (ARs.ev hev h.xlt _ _ p5).set (AR.ev hev h.xlt v vv hv)⟩)
  refine ⟨_, ?_, this.1, this.2, rfl⟩
  have hg : ((ms[j]?).map (·.key)).getD vk = e.key := by
   rw [← Array.getElem?_toList, he]; rfl
  simp [Instr.mapUpdate, run_underlying hu, MapKept.run_getObj_map p3, hck, hfk, run_setObj_map _ p3, Instr.keyThatStays, hg, hsb]
theorem makeMapA_sound (h : HR X inj σ w) {k : Nat} {t : TypeId} {r : AV} {up : Upd} (hr : (makeMapA P k t).run σ = some (r, up)) :
  ∃ val w' inj', (Instr.makeMap t none).run P w = .ok val w' ∧ HR X inj' (upd σ up) w' ∧ Ev D X inj σ w inj' (upd σ up) w' ∧ AR X inj' (upd σ up) w' r val := by
 unfold makeMapA newA at hr
 split at hr
 case h_2 => simp at hr
 simp only [L.run] at hr
 split at hr
 case h_2 => simp at hr
 rename_i g ho
 simp only [L.run_ret, Option.some.injEq, Prod.mk.injEq] at hr
 obtain ⟨rfl, rfl⟩ := hr
 have hh : (w.alloc (.map #[] 0)).heap = w.heap.push (.map #[] 0) := rfl
 have hup := h.update (D := D) (w' := w.alloc (.map #[] 0)) (l := k) (o := σ k) (o' := .map (g + 1) [] []) (x := some (w.heap.size, 0)) rfl rfl rfl rfl (fun _ => Nat.le_refl _) (by rw [hh]; simp)
  (fun a ha => by
   unfold World.frozen?
   rw [hh, Array.getElem?_push]
   by_cases hb : a.block = w.heap.size
   ·simp [hb]
   ·rw [if_neg hb])
  (fun q hq _ => by rw [hh, Array.getElem?_push, if_neg (by omega)])
  (fun b1 c1 h1 => by cases h1; exact .inl (Nat.le_refl _)) ⟨by rw [ho]; exact Nat.le_succ _, fun _ he => by rw [ho] at he; simp only [AO.gen] at he; omega⟩
 obtain ⟨hev, hhr⟩ := hup
 refine ⟨.map (some w.heap.size), _, _, rfl, hhr ⟨w.heap.size, 0, #[], 0, by simp, fun hX => ?_, by rw [hh]; simp, rfl, rfl⟩, hev, ?_⟩
 ·have := h.xlt _ hX; omega
 ·refine ⟨⟨_, rfl⟩, fun o hs => ?_⟩
  have e1 : upd σ (some (k, .map (g + 1) [] [])) k = .map (g + 1) [] [] := supd_same _ _ _
  rw [e1] at hs
  subst hs
  refine ⟨Nat.le_refl _, fun _ ks vs hkv => ?_⟩
  exact ⟨w.heap.size, 0, by simp, rfl⟩
theorem partV_sound {t : TypeId} {cs : List AV} {vs : List Value} {off : Nat} {v : AV} (hcs : ARs X inj σ w cs vs) (h1 : oneAll vs) (hp : partA P t cs off = some v) :
  ∃ val, (part t vs.toArray off).run P w = .ok val w ∧ AR X inj σ w v val := by
 unfold partA at hp
 split at hp
 ·rename_i ht
  split at hp
  ·rename_i hle
   simp only [Option.some.injEq] at hp
   subst hp
   obtain ⟨dd, hd, _⟩ := underlying_of_agg ht
   refine ⟨_, ?_, AR_mkAgg ((hcs.drop off).take (P.cellsOf t)) fun u hu => h1 u (List.mem_of_mem_drop (List.mem_of_mem_take hu))⟩
   simp only [part, Sem.run_bind, run_isAgg_b ht, Result.andThen_ok, if_true, run_sizeOf_u hd, Sem.run_pure]
   congr 2
   apply Array.ext'
   rw [Array.toList_extract, List.extract_eq_take_drop, Nat.add_sub_cancel_left]
  ·cases hp
 ·rename_i ht
  obtain ⟨u, hu, hau⟩ := hcs.get hp
  refine ⟨u, ?_, hau⟩
  simp only [part, Sem.run_bind, run_isAgg_b ht, Result.andThen_ok, Bool.false_eq_true, if_false]
  simp [hu]
 ·cases hp
theorem fieldA_sound {s : TypeId} {f : Nat} {x v : AV} {vx : Value} (hx : AR X inj σ w x vx) (hr : fieldA P s f x = some v) : ∃ val, (Instr.field s vx f).run P w = .ok val w ∧ AR X inj σ w v val := by
 unfold fieldA at hr
 split at hr
 case h_2 => cases hr
 rename_i fs hu
 split at hr
 case h_2 => cases hr
 rename_i fd hf
 split at hr
 case isFalse => cases hr
 rename_i hk
 simp only [Bool.and_eq_true] at hk
 obtain ⟨hcs, hone⟩ := AR.cells_of hk.1 hx
 obtain ⟨val, h1, h2⟩ := partV_sound (P := P) hcs hone hr
 have e := agg_of hk.2 hx
 refine ⟨val, ?_, h2⟩
 rw [e]
 simp only [Instr.field, Sem.run_bind, run_underlying hu, Result.andThen_ok, hf, asAgg, Sem.run_pure]
 exact h1
end Go.Ab
namespace Go.Ab
open Go
set_option linter.unusedVariables false
set_option linter.unusedSimpArgs false
variable {D : Prop} {P : Program} {X : Nat → Prop} {inj : Inj} {σ : Nat → AO} {w : World}
theorem flat_app (a b : List Value) : flat (a ++ b) = flat a ++ flat b := by simp [flat]
theorem flatTk {sz : Nat} : ∀ {vs : List Value} (k : Nat), (∀ v ∈ vs, v.cells.size = sz) → k ≤ vs.length → flat (vs.take k) = (flat vs).take (k * sz)
 | [], k, _, hk => by simp at hk; subst hk; simp [flat]
 | v :: vs, 0, _, _ => by simp [flat]
 | v :: vs, k + 1, h, hk => by
  have h1 : v.cells.toList.length = sz := by rw [Array.length_toList]; exact h v (by simp)
  have ih := flatTk (vs := vs) k (fun u hu => h u (by simp [hu])) (by simpa using hk)
  show v.cells.toList ++ flat (vs.take k) = (v.cells.toList ++ flat vs).take ((k + 1) * sz)
  rw [ih, List.take_append, h1, List.take_of_length_le (l := v.cells.toList) (by rw [h1, Nat.add_mul]; omega), show (k + 1) * sz - sz = k * sz by rw [Nat.add_mul]; omega]
theorem flatDp {sz : Nat} : ∀ {vs : List Value} (k : Nat), (∀ v ∈ vs, v.cells.size = sz) → k ≤ vs.length → flat (vs.drop k) = (flat vs).drop (k * sz)
 | [], k, _, hk => by simp at hk; subst hk; simp [flat]
 | v :: vs, 0, _, _ => by simp [flat]
 | v :: vs, k + 1, h, hk => by
  have h1 : v.cells.toList.length = sz := by rw [Array.length_toList]; exact h v (by simp)
  have ih := flatDp (vs := vs) k (fun u hu => h u (by simp [hu])) (by simpa using hk)
  show flat (vs.drop k) = (v.cells.toList ++ flat vs).drop ((k + 1) * sz)
  rw [ih, List.drop_append, h1, List.drop_of_length_le (l := v.cells.toList) (by rw [h1, Nat.add_mul]; omega), List.nil_append, show (k + 1) * sz - sz = k * sz by rw [Nat.add_mul]; omega]
theorem ARs_rep {z : AV} {zv : Value} (h : AR X inj σ w z zv) : ∀ n, ARs X inj σ w (List.replicate n z) (List.replicate n zv)
 | 0 => rfl
 | n + 1 => ⟨zv, List.replicate n zv, rfl, h, ARs_rep h n⟩
theorem zeroCells_flat (z : Value) (n : Nat) : (Builtin.zeroCells z.cells n).toList = flat (List.replicate n z) := by
 apply List.ext_getElem?
 intro k
 have hfl : (flat (List.replicate n z)).length = n * z.cells.size := by
  rw [flat_length (sz := z.cells.size) (fun v hv => by rw [(List.mem_replicate.1 hv).2])]; simp
 by_cases hk : k < n * z.cells.size
 ·have hpos : 0 < z.cells.size := Nat.pos_of_ne_zero fun h => by rw [h] at hk; simp at hk
  have hq : k / z.cells.size < n := Nat.div_lt_of_lt_mul (by rw [Nat.mul_comm]; exact hk)
  have hm : k % z.cells.size < z.cells.size := Nat.mod_lt _ hpos
  have hkk : k = k / z.cells.size * z.cells.size + k % z.cells.size := by rw [Nat.mul_comm]; exact (Nat.div_add_mod k _).symm
  have h2 : (flat (List.replicate n z))[k]? = z.cells.toList[k % z.cells.size]? := by
   conv => lhs; rw [hkk]
   exact flat_get (sz := z.cells.size) (fun v hv => by rw [(List.mem_replicate.1 hv).2]) (by rw [List.getElem?_replicate, if_pos hq]) hm
  rw [h2]
  simp [Builtin.zeroCells, hk, hm]
 ·rw [List.getElem?_eq_none (by simp [Builtin.zeroCells]; omega), List.getElem?_eq_none (by rw [hfl]; omega)]
theorem clearA_sound (h : HR X inj σ w) {t ty : TypeId} {x r : AV} {vx : Value} {up : Upd} (hx : AR X inj σ w x vx) (hr : (clearA P t x).run σ = some (r, up)) :
  ∃ val w', (Builtin.clear_ #[t] ty #[vx]).run P w = .ok val w' ∧ HR X inj (upd σ up) w' ∧ Ev D X inj σ w inj (upd σ up) w' ∧ AR X inj (upd σ up) w' r val := by
 unfold clearA at hr
 split at hr
 ·rename_i e l g off len hu
  simp only [L.run] at hr
  split at hr
  case h_2 => simp at hr
  rename_i e' sz g' es ho
  split at hr
  case isFalse => simp at hr
  rename_i hc
  obtain ⟨rfl, rfl, rfl, hle⟩ := hc
  split at hr
  case h_2 => simp at hr
  rename_i z hz
  split at hr
  case isFalse => simp at hr
  rename_i hok
  simp only [L.run_ret, Option.some.injEq, Prod.mk.injEq] at hr
  obtain ⟨rfl, rfl⟩ := hr
  obtain ⟨vs, o1, o2, o3, o4⟩ := (ho ▸ h.obj l _ rfl : OR X inj σ w l (.arr e (P.cellsOf e) g es))
  obtain ⟨i, z0, hi, hz0, hzl, his, hib⟩ := zero_of (by rw [hz]; rfl : (zeroOf P e).isSome = true)
  have hzz : z = ofV z0 := by
   unfold zeroOf at hz
   rw [hi] at hz
   simp [hz0] at hz
   exact hz.symm
  subst hzz
  have haz : AR X inj σ w (ofV z0) z0 := AR_ofV z0
  simp only [elemOk, Bool.and_eq_true, beq_iff_eq] at hok
  obtain ⟨hk, hzsz⟩ := hok
  obtain ⟨_, hoz⟩ := AR.cells_of hk haz
  have hzs : z0.cells.size = P.cellsOf e := by rw [known_cells hk haz, hzsz]
  obtain ⟨_, a2⟩ := hx
  obtain ⟨_, a3⟩ := a2 _ ho
  obtain ⟨_, a3⟩ := a3 rfl e (P.cellsOf e) es rfl
  have hel : es.length = vs.length := o1.length
  by_cases hl0 : len = 0
  ·subst hl0
   have hsame : upd σ (some (l, AO.arr e (P.cellsOf e) g (es.take off ++ List.replicate 0 (ofV z0) ++ es.drop (off + 0)))) = σ := by
    funext k
    simp only [upd, supd]
    by_cases hk : k = l
    ·subst hk; simp [ho]
    ·simp [hk]
   rw [hsame]
   refine ⟨.tuple #[], w, ?_, h, Ev.refl X inj σ w, ⟨[], rfl, rfl⟩⟩
   rcases a3 with ⟨_, rfl, _, _⟩ | ⟨b, c, a, _, rfl, _, _⟩
   ·simp [Builtin.clear_, run_underlying hu]
   ·cases a <;> simp [Builtin.clear_, run_underlying hu]
  ·rcases a3 with ⟨_, _, _, h4⟩ | ⟨b, c, a, a4, rfl, a5, a6⟩
   ·exact absurd h4 hl0
   have ha : a = some ⟨b, off * P.cellsOf e, none⟩ := by
    rcases a6 with ⟨_, h6⟩ | h6
    ·omega
    ·exact h6
   subst ha
   rcases o4 with ⟨o4, _⟩ | ⟨b', c', cur, p1, p2, p3, p4, p5, p6, p7⟩
   ·rw [a4] at o4; cases o4
   rw [a4] at p1; cases p1
   have hnews : (Builtin.zeroCells z0.cells len).toList = flat (List.replicate len z0) := zeroCells_flat z0 len
   have hrs : ∀ v ∈ List.replicate len z0, v.cells.size = P.cellsOf e := fun v hv => by rw [(List.mem_replicate.1 hv).2]; exact hzs
   have hnl : (flat (List.replicate len z0)).length = len * P.cellsOf e := by rw [flat_length hrs, List.length_replicate]
   have hmul : (off + len) * P.cellsOf e ≤ vs.length * P.cellsOf e := Nat.mul_le_mul_right _ (by omega)
   have hmul2 : es.length * P.cellsOf e ≤ c * P.cellsOf e := Nat.mul_le_mul_right _ p4
   rw [hel] at hmul2
   rw [Nat.add_mul] at hmul
   have hct : cur.toList.length = c * P.cellsOf e := by rw [Array.length_toList, p6]
   have hone1 : ∀ v ∈ flat (List.replicate len z0), v.oneCell' = true := fun v hv => by
    obtain ⟨u, hu, hv⟩ := List.mem_flatMap.1 hv
    rw [(List.mem_replicate.1 hu).2] at hv
    exact hoz v hv
   have hst := run_storeCells_at P b (off * P.cellsOf e) e (flat (List.replicate len z0)) 0 cur w p3 (by rw [hnl, p6]; omega) hone1
   simp only [Nat.add_zero] at hst
   have hcurlen : off * P.cellsOf e + (flat (List.replicate len z0)).length ≤ cur.toList.length := by rw [hnl, hct]; omega
   have hup := h.update (D := D) (w' := w.setRow b (splice cur.toList (off * P.cellsOf e) (flat (List.replicate len z0))).toArray) (l := l) (o := .arr e (P.cellsOf e) g es) (o' := .arr e (P.cellsOf e) g (es.take off ++ List.replicate len (ofV z0) ++ es.drop (off + len))) (x := inj l) ho rfl rfl rfl (fun _ => Nat.le_refl _) (by simp)
    (fun a _ => frozen_setRow w b _ a) (fun k hk hne => setRow_other w b k _ (fun e => hne rfl c (by rw [e]; exact a4)))
    (fun b1 c1 h1 => .inr ⟨rfl, c1, h1⟩) ⟨Nat.le_refl _, fun _ _ => ⟨rfl, .inl ⟨e, P.cellsOf e, es, _, rfl, rfl, by simp; omega⟩⟩⟩
   rw [inj_same] at hup
   obtain ⟨hev, hhr⟩ := hup
   have hsz : ∀ v ∈ vs.take off ++ List.replicate len z0 ++ vs.drop (off + len), v.cells.size = P.cellsOf e := fun v hv => by
    rcases List.mem_append.1 hv with hv | hv
    ·rcases List.mem_append.1 hv with hv | hv
     ·exact o2 v (List.mem_of_mem_take hv)
     ·exact hrs v hv
    ·exact o2 v (List.mem_of_mem_drop hv)
   refine ⟨.tuple #[], _, ?_, hhr ?_, hev, ⟨[], rfl, rfl⟩⟩
   ·obtain ⟨len', rfl⟩ : ∃ m, len = m + 1 := ⟨len - 1, by omega⟩
    have hzv : (zeroValue e).run P w = .ok z0 w := by simp [zeroValue, typeInfo, hi, hz0]
    have e1 : (#[t] : Array TypeId)[0]? = some t := rfl
    have e2 : (#[Value.slice (some ⟨b, off * P.cellsOf e, none⟩) (len' + 1) (c - off)] : Array Value)[0]? = some (Value.slice (some ⟨b, off * P.cellsOf e, none⟩) (len' + 1) (c - off)) := rfl
    simp only [Builtin.clear_, e1, e2, Sem.run_bind, run_underlying hu, Result.andThen_ok, hzv, hnews]
    rw [hst]
    rfl
   ·refine ⟨vs.take off ++ List.replicate len z0 ++ vs.drop (off + len), ?_, hsz, ?_, .inr ⟨b, c, _, a4, p2, setRow_heap w b cur _ e _ p3, ?_, p5, ?_, ?_⟩⟩
    ·have e0 := ARs.ev hev h.xlt es vs o1
     have ez := AR.ev hev h.xlt (ofV z0) z0 haz
     exact ((e0.take off).append (ARs_rep ez len)).append (e0.drop (off + len))
    ·intro q hq
     obtain ⟨u, hu, hq⟩ := List.mem_flatMap.1 hq
     rcases List.mem_append.1 hu with hu | hu
     ·rcases List.mem_append.1 hu with hu | hu
      ·exact o3 q (List.mem_flatMap.2 ⟨u, List.mem_of_mem_take hu, hq⟩)
      ·rw [(List.mem_replicate.1 hu).2] at hq; exact hoz q hq
     ·exact o3 q (List.mem_flatMap.2 ⟨u, List.mem_of_mem_drop hu, hq⟩)
    ·simp only [List.length_append, List.length_take, List.length_replicate, List.length_drop]; omega
    ·rw [List.size_toArray, length_splice _ _ _ hcurlen, hct]
    ·have hl2 : (es.take off ++ List.replicate len (ofV z0) ++ es.drop (off + len)).length = es.length := by
      simp only [List.length_append, List.length_take, List.length_replicate, List.length_drop]; omega
     rw [hl2, flat_app, flat_app, flatTk off o2 (by omega), flatDp (off + len) o2 (by omega), ← p7]
     show (splice cur.toList (off * P.cellsOf e) (flat (List.replicate len z0))).take (es.length * P.cellsOf e) = _
     unfold splice
     have h1 : (cur.toList.take (off * P.cellsOf e)).length = off * P.cellsOf e := by rw [List.length_take, hct]; omega
     rw [List.take_append, List.take_append, List.length_append, h1, hnl]
     rw [List.take_of_length_le (show (cur.toList.take (off * P.cellsOf e)).length ≤ es.length * P.cellsOf e by rw [h1, hel]; omega)]
     rw [List.take_of_length_le (show (flat (List.replicate len z0)).length ≤ es.length * P.cellsOf e - off * P.cellsOf e by rw [hnl, hel]; omega)]
     rw [List.take_take, Nat.min_eq_left (by rw [hel]; omega)]
     congr 1
     rw [List.drop_take, Nat.add_mul]
 ·rename_i e hu
  simp only [L.run_ret, Option.some.injEq, Prod.mk.injEq] at hr
  obtain ⟨rfl, rfl⟩ := hr
  simp only [AR] at hx
  subst hx
  exact ⟨.tuple #[], w, by simp [Builtin.clear_, run_underlying hu], h, Ev.refl X inj σ w, ⟨[], rfl, rfl⟩⟩
 ·simp at hr
end Go.Ab
namespace Go.Ab
variable {D : Prop}
open Go
set_option linter.unusedVariables false
set_option linter.unusedSimpArgs false
variable {P : Program} {X : Nat → Prop} {inj : Inj} {σ : Nat → AO} {w : World}
theorem foldl_splice (off : Nat) (v : Value) (cells : Array Value) (h : off + v.cells.size ≤ cells.size) :
  (v.cells.zipIdx.foldl (fun cs (x : Value × Nat) => cs.setIfInBounds (off + x.2) x.1) cells).toList = splice cells.toList off v.cells.toList := by
 have e : v.cells.zipIdx.foldl (fun cs (x : Value × Nat) => cs.setIfInBounds (off + x.2) x.1) cells =
   (v.cells.toList.zipIdx 0).foldl (fun cs (x : Value × Nat) => cs.setIfInBounds (off + x.2) x.1) cells := by
  rw [← Array.foldl_toList, Array.toList_zipIdx]
 rw [e]
 obtain ⟨h1, h2⟩ := Great.foldl_set off v.cells.toList 0 cells
 apply List.ext_getElem?
 intro k
 rw [get_splice _ _ _ (by simpa using h), Array.getElem?_toList, h2 k, Array.length_toList, Nat.add_zero]
 by_cases c1 : k < off
 ·rw [if_neg (by omega), if_pos c1, Array.getElem?_toList]
 ·rw [if_neg c1]
  by_cases c2 : k < off + v.cells.size
  ·rw [if_pos (by omega), if_pos c2]
  ·rw [if_neg (by omega), if_neg c2, Array.getElem?_toList]
inductive PartsR (X : Nat → Prop) (inj : Inj) (σ : Nat → AO) (w : World) : List (Nat × AV) → List (Nat × Value) → Prop
 | nil : PartsR X inj σ w [] []
 | cons {i v val r rs} (h : AR X inj σ w v val) (t : PartsR X inj σ w r rs) : PartsR X inj σ w ((i, v) :: r) ((i, val) :: rs)
theorem partsR_map {ρ : Operand → AV} {a : Act} (hρ : ∀ x, AR X inj σ w (ρ x) (a.eval x)) : ∀ (l : List (Nat × Operand)), PartsR X inj σ w (l.map fun p => (p.1, ρ p.2)) (l.map fun p => (p.1, a.eval p.2))
 | [] => .nil
 | p :: l => .cons (hρ p.2) (partsR_map hρ l)
theorem ARs.splice {cs ds : List AV} {vs us : List Value} (h : ARs X inj σ w cs vs) (k : ARs X inj σ w ds us) (o : Nat) : ARs X inj σ w (Ab.splice cs o ds) (Ab.splice vs o us) := by
 unfold Ab.splice
 rw [← k.length]
 exact ((h.take o).append k).append (h.drop _)
theorem oneAll_splice {vs us : List Value} (h : oneAll vs) (k : oneAll us) (o : Nat) : oneAll (Ab.splice vs o us) := by
 intro c hc
 unfold Ab.splice at hc
 rcases List.mem_append.1 hc with hc | hc
 ·rcases List.mem_append.1 hc with hc | hc
  ·exact h c (List.mem_of_mem_take hc)
  ·exact k c hc
 ·exact h c (List.mem_of_mem_drop hc)
theorem fillG_sound {place : Nat → Option (Nat × Nat)} : ∀ (parts : List (Nat × AV)) (vparts : List (Nat × Value)) (base res : List AV) (cells : Array Value),
  fillG place base parts = some res → PartsR X inj σ w parts vparts → ARs X inj σ w base cells.toList → oneAll cells.toList →
  ∃ cells', Instr.fill place cells vparts = some cells' ∧ ARs X inj σ w res cells'.toList ∧ oneAll cells'.toList
 | [], _, base, res, cells, h, hp, hb, ho => by
  cases hp
  simp only [fillG, Option.some.injEq] at h
  subst h
  exact ⟨cells, rfl, hb, ho⟩
 | (i, v) :: parts, _, base, res, cells, h, hp, hb, ho => by
  cases hp with
  | @cons _ _ val _ rs hv ht =>
  simp only [fillG] at h
  split at h
  case h_2 => cases h
  rename_i off size hpl
  split at h
  case isFalse => cases h
  rename_i hc
  simp only [Bool.and_eq_true, beq_iff_eq, decide_eq_true_eq] at hc
  obtain ⟨⟨hk, hsz⟩, hle⟩ := hc
  obtain ⟨hcv, hov⟩ := AR.cells_of hk hv
  have hvs : val.cells.size = size := by rw [known_cells hk hv, hsz]
  have hbl : base.length = cells.size := by rw [hb.length]; exact Array.length_toList
  have hfs := foldl_splice off val cells (by omega)
  obtain ⟨cells', h1, h2, h3⟩ := fillG_sound parts rs _ res (val.cells.zipIdx.foldl (fun cs (x : Value × Nat) => cs.setIfInBounds (off + x.2) x.1) cells) h ht
   (by rw [hfs]; exact hb.splice hcv off) (by rw [hfs]; exact oneAll_splice ho hov off)
  refine ⟨cells', ?_, h2, h3⟩
  simp only [Instr.fill, hpl]
  rw [if_neg (by simp only [Bool.or_eq_true, decide_eq_true_eq]; omega)]
  exact h1
theorem buildA_sound {t : TypeId} {parts : List (Nat × AV)} {vparts : Array (Nat × Value)} {v : AV} (hp : PartsR X inj σ w parts vparts.toList) (h : buildA P t parts = some v) :
  ∃ val, (Instr.build t vparts).run P w = .ok val w ∧ AR X inj σ w v val := by
 unfold buildA at h
 split at h
 case h_3 => cases h
 case h_2 =>
  rename_i n e z hu hz
  split at h
  case isFalse => cases h
  rename_i hc
  simp only [Bool.and_eq_true] at hc
  obtain ⟨hk, hie⟩ := hc
  unfold zeroOf at hz
  obtain ⟨it, hit⟩ := info_of_underlying (P := P) hu
  obtain ⟨ie, hie⟩ := Option.isSome_iff_exists.1 hie
  rw [hit] at hz
  cases hzz : it.zero with
  | none => simp [hzz] at hz
  | some z0 =>
   simp [hzz] at hz
   subst hz
   have hz0 : AR X inj σ w (ofV z0) z0 := AR_ofV z0
   obtain ⟨hcz, hoz⟩ := AR.cells_of hk hz0
   cases hf : fillG (fun i => some (i * P.cellsOf e, P.cellsOf e)) (ofV z0).cells parts with
   | none => rw [hf] at h; cases h
   | some res =>
    rw [hf] at h
    simp only [Option.map_some, Option.some.injEq] at h
    subst h
    obtain ⟨cells', h1, h2, h3⟩ := fillG_sound _ _ _ _ _ hf hp hcz hoz
    refine ⟨.agg cells', ?_, by simpa using AR_mkAgg h2 h3⟩
    refine run_build w t vparts cells' ?_
    unfold Program.built
    simp only [hit, hu, hzz, hie]
    rw [← h1]
    congr 1
    funext i
    simp [Program.cellsOf, hie]
 rename_i fs z hu hz
 split at h
 case isFalse => cases h
 rename_i hc
 simp only [Bool.and_eq_true] at hc
 obtain ⟨hk, hall⟩ := hc
 unfold zeroOf at hz
 obtain ⟨it, hit⟩ := info_of_underlying (P := P) hu
 rw [hit] at hz
 cases hzz : it.zero with
 | none => simp [hzz] at hz
 | some z0 =>
  simp [hzz] at hz
  subst hz
  have hz0 : AR X inj σ w (ofV z0) z0 := AR_ofV z0
  obtain ⟨hcz, hoz⟩ := AR.cells_of hk hz0
  cases hf : fillG (placesA P fs) (ofV z0).cells parts with
  | none => rw [hf] at h; cases h
  | some res =>
   rw [hf] at h
   simp only [Option.map_some, Option.some.injEq] at h
   subst h
   obtain ⟨cells', h1, h2, h3⟩ := fillG_sound _ _ _ _ _ hf hp hcz hoz
   refine ⟨.agg cells', ?_, by simpa using AR_mkAgg h2 h3⟩
   refine run_build w t vparts cells' ?_
   have hplaces : ∀ l : List Field, (l.all fun f => (P.info? f.type).isSome) = true → l.mapM (fun f => (P.info? f.type).map fun i => (f.offset, i.size)) = some (l.map fun f => (f.offset, P.cellsOf f.type)) := by
    intro l
    induction l with
    | nil => intro _; rfl
    | cons f l ih =>
     intro hl
     simp only [List.all_cons, Bool.and_eq_true] at hl
     obtain ⟨i, hi⟩ := Option.isSome_iff_exists.1 hl.1
     simp [List.mapM_cons, hi, ih hl.2, Program.cellsOf]
   unfold Program.built
   simp only [hit, hu, hzz, hplaces fs.toList hall]
   rw [← h1]
   congr 1
   funext i
   simp [placesA]
theorem newA_run {k : Nat} {mk : Nat → AO × AV} {r : AV} {u : Upd} (h : (newA k mk).run σ = some (r, u)) : ∃ g, σ k = .dead g ∧ r = (mk (g + 1)).2 ∧ u = some (k, (mk (g + 1)).1) := by
 unfold newA at h
 have h := lookArr h
 split at h
 case h_2 => simp at h
 rename_i g ho
 simp only [L.run_ret, Option.some.injEq, Prod.mk.injEq] at h
 exact ⟨g, ho, h.1.symm, h.2.symm⟩
theorem zipIdx_of {l : List (Nat × Value)} : ∀ {n : Nat} (k : Nat), l.map (·.1) = List.range' k n → l = ((l.map (·.2)).zipIdx k).map fun x => (x.2, x.1) := by
 induction l with
 | nil => intro n k _; rfl
 | cons p l ih =>
  intro n k h
  cases n with
  | zero => simp at h
  | succ n =>
   simp only [List.map_cons, List.range'_succ, List.cons.injEq] at h
   simp only [List.map_cons, List.zipIdx_cons]
   rw [← ih (k + 1) h.2, ← h.1]
theorem PartsR.fst : ∀ {ps : List (Nat × AV)} {vs : List (Nat × Value)}, PartsR X inj σ w ps vs → ps.map (·.1) = vs.map (·.1) ∧ ARs X inj σ w (ps.map (·.2)) (vs.map (·.2))
 | _, _, .nil => ⟨rfl, rfl⟩
 | _, _, .cons h t => ⟨by simp [t.fst.1], ⟨_, _, rfl, h, t.fst.2⟩⟩
theorem buildSliceA_sound (h : HR X inj σ w) {k : Nat} {t : TypeId} {len : Nat} {parts : List (Nat × AV)} {vparts : Array (Nat × Value)} {r : AV} {up : Upd} (hp : PartsR X inj σ w parts vparts.toList)
  (hr : (buildSliceA P k t len parts).run σ = some (r, up)) :
  ∃ val w' inj', (Instr.buildSlice t len vparts).run P w = .ok val w' ∧ HR X inj' (upd σ up) w' ∧ Ev D X inj σ w inj' (upd σ up) w' ∧ AR X inj' (upd σ up) w' r val := by
 unfold buildSliceA at hr
 split at hr
 case h_2 => simp at hr
 rename_i e hu
 split at hr
 case isFalse => simp at hr
 rename_i hc
 obtain ⟨hfst, hall, hsm, hpos, hmx, hzs⟩ := hc
 obtain ⟨g, ho, rfl, rfl⟩ := newA_run hr
 obtain ⟨i, z, hi, hz, hzl', his, hib⟩ := zero_of hzs
 obtain ⟨hf, hars⟩ := hp.fst
 obtain ⟨hsz, hone⟩ := all_elemOk hall hars
 have hlen : (vparts.toList.map (·.2)).length = len := by
  have := congrArg List.length (hf ▸ hfst)
  simpa using this
 have hpl : (parts.map (·.2)).length = len := by rw [hars.length, hlen]
 have hdense : vparts.toList = ((vparts.toList.map (·.2)).zipIdx 0).map fun x => (x.2, x.1) := zipIdx_of 0 (by rw [← hf, hfst, List.range_eq_range'])
 have hflen : (flat (vparts.toList.map (·.2))).length = len * P.cellsOf e := by rw [flat_length hsz, hlen]
 have hrun : (Instr.buildSlice t len vparts).run P w = .ok (.slice (some ⟨w.heap.size, 0, none⟩) len len) (w.alloc (.cells (flat (vparts.toList.map (·.2))).toArray e)) := by
  by_cases h0 : len * P.cellsOf e = 0
  ·have hl0 : len = 0 := by
    rcases Nat.mul_eq_zero.1 h0 with h1 | h1
    ·exact h1
    ·omega
   have hfl0 : flat (vparts.toList.map (·.2)) = [] := List.eq_nil_of_length_eq_zero (by rw [hflen, h0])
   have hv0 : vparts.toList = [] := List.eq_nil_of_length_eq_zero (by rw [hl0] at hlen; simpa using hlen)
   have hv1 : vparts = #[] := by apply Array.ext'; simpa using hv0
   subst hl0
   subst hv1
   simp [Instr.buildSlice, run_underlying hu, sizeOf, typeInfo, hi, Instr.fill, newRow, flat]
   rw [show Array.range 0 = #[] from by simp [Array.range]]
   simp
  ·have hw := Great.fill_whole (s := P.cellsOf e) hpos (vparts.toList.map (·.2)) ((Array.range (len * P.cellsOf e)).map (z.cells[· % z.cells.size]!)) hsz (by rw [hlen]; simp)
   rw [← hdense] at hw
   have := run_buildSlice (P := P) w t e len vparts _ i z hu hi hz (by rw [his]; omega) (by rw [his]; exact h0) (by rw [his]; exact hw)
   rw [this]
   rfl
 have hal := h.alloc (D := D) (l := k) (g' := g + 1) (e := e) (sz := P.cellsOf e) (es := parts.map (·.2)) (vs := vparts.toList.map (·.2)) (w1 := w) (c := len) (cur := (flat (vparts.toList.map (·.2))).toArray) (.inl rfl)
  (by rw [ho]; exact Nat.lt_succ_self _) hars hsz hone (by rw [hpl]; exact Nat.le_refl _) (by simp only [maxLen]; omega) (by simp [hflen]) (by rw [hpl, ← hflen]; simp)
 exact ⟨_, _, _, hrun, hal.1, hal.2, OwnR_new (inj := fun j => if j = k then some (w.heap.size, len) else inj j) (supd_same _ _ _) (by simp) (by rw [hpl]; exact Nat.le_refl _) (Nat.le_refl _)⟩
theorem madeCells_flat (z : Value) (n : Nat) : (madeCells z.cells (n * z.cells.size)).toList = flat (List.replicate n z) := by
 apply List.ext_getElem?
 intro k
 have hfl : (flat (List.replicate n z)).length = n * z.cells.size := by
  rw [flat_length (sz := z.cells.size) (fun v hv => by rw [(List.mem_replicate.1 hv).2])]; simp
 by_cases hk : k < n * z.cells.size
 ·have hpos : 0 < z.cells.size := Nat.pos_of_ne_zero fun h => by rw [h] at hk; simp at hk
  have hq : k / z.cells.size < n := Nat.div_lt_of_lt_mul (by rw [Nat.mul_comm]; exact hk)
  have hm : k % z.cells.size < z.cells.size := Nat.mod_lt _ hpos
  have hkk : k = k / z.cells.size * z.cells.size + k % z.cells.size := by rw [Nat.mul_comm]; exact (Nat.div_add_mod k _).symm
  have h2 : (flat (List.replicate n z))[k]? = z.cells.toList[k % z.cells.size]? := by
   conv => lhs; rw [hkk]
   exact flat_get (sz := z.cells.size) (fun v hv => by rw [(List.mem_replicate.1 hv).2]) (by rw [List.getElem?_replicate, if_pos hq]) hm
  rw [h2]
  simp [madeCells, hk, hm]
 ·rw [List.getElem?_eq_none (by simp [size_madeCells]; omega), List.getElem?_eq_none (by rw [hfl]; omega)]
theorem makeSliceA_sound (h : HR X inj σ w) {k : Nat} {t : TypeId} {l c r : AV} {vl vc : Value} {up : Upd} (hl : AR X inj σ w l vl) (hc : AR X inj σ w c vc) (hr : (makeSliceA P k t l c).run σ = some (r, up)) :
  ∃ val w' inj', (Instr.makeSlice t vl vc).run P w = .ok val w' ∧ HR X inj' (upd σ up) w' ∧ Ev D X inj σ w inj' (upd σ up) w' ∧ AR X inj' (upd σ up) w' r val := by
 unfold makeSliceA at hr
 split at hr
 case h_2 => simp at hr
 rename_i e k1 n k2 m hu
 split at hr
 case h_2 => simp at hr
 rename_i z hz
 split at hr
 case isFalse => simp at hr
 rename_i hcnd
 obtain ⟨hn, rfl, hroom, hok⟩ := hcnd
 obtain ⟨g, ho, rfl, rfl⟩ := newA_run hr
 simp only [AR, PR] at hl hc
 subst hl; subst hc
 simp only [roomOk, decide_eq_true_eq] at hroom
 obtain ⟨hby, h63⟩ := hroom
 unfold zeroOf at hz
 cases hi : P.info? e with
 | none => simp [hi] at hz
 | some i =>
  cases hzz : i.zero with
  | none => simp [hi, hzz] at hz
  | some z0 =>
   simp [hi, hzz] at hz
   subst hz
   have hz0 : AR X inj σ w (ofV z0) z0 := AR_ofV z0
   simp only [elemOk, Bool.and_eq_true, beq_iff_eq] at hok
   obtain ⟨hk, hsz⟩ := hok
   obtain ⟨_, hoz⟩ := AR.cells_of hk hz0
   have hzs : z0.cells.size = P.cellsOf e := by rw [known_cells hk hz0, hsz]
   have his : i.size = P.cellsOf e := by simp [Program.cellsOf, hi]
   have hib : i.bytes = P.bytesOf e := by simp [Program.bytesOf, hi]
   have hnn : (n.toNat : Int) = n := Int.toNat_of_nonneg hn
   have hrun := run_make (P := P) w t e i z0 hu hi hzz k1 k2 n n hn (Int.le_refl _) (by
    rw [hib]
    have : P.bytesOf e * n.toNat ≤ 140737488355328 := by rw [Nat.mul_comm]; exact hby
    have h2 : ((P.bytesOf e * n.toNat : Nat) : Int) ≤ 140737488355328 := by omega
    rw [Int.natCast_mul, hnn] at h2
    omega) (by omega)
   have hars : ARs X inj σ w (List.replicate n.toNat (ofV z0)) (List.replicate n.toNat z0) := by
    generalize n.toNat = q
    induction q with
    | zero => rfl
    | succ q ih => exact ⟨z0, List.replicate q z0, rfl, hz0, ih⟩
   have hss : ∀ v ∈ List.replicate n.toNat z0, v.cells.size = P.cellsOf e := fun v hv => by rw [(List.mem_replicate.1 hv).2, hzs]
   have hone : oneAll (flat (List.replicate n.toNat z0)) := fun u hu => by
    obtain ⟨v, hv, huv⟩ := List.mem_flatMap.1 hu
    rw [(List.mem_replicate.1 hv).2] at huv
    exact hoz u huv
   have hcur : (madeCells z0.cells (n.toNat * i.size)).toList = flat (List.replicate n.toNat z0) := by rw [his, ← hzs]; exact madeCells_flat z0 n.toNat
   have hal := h.alloc (D := D) (l := k) (g' := g + 1) (e := e) (sz := P.cellsOf e) (es := List.replicate n.toNat (ofV z0)) (vs := List.replicate n.toNat z0) (w1 := w) (c := n.toNat) (cur := madeCells z0.cells (n.toNat * i.size)) (.inl rfl)
    (by rw [ho]; exact Nat.lt_succ_self _) hars hss hone (by simp) (by simp only [maxLen]; omega) (by rw [size_madeCells, his]) (by
     rw [hcur]
     apply List.take_of_length_le
     rw [flat_length hss]; simp)
   refine ⟨_, _, _, hrun, hal.1, hal.2, ?_⟩
   have := OwnR_new (inj := fun j => if j = k then some (w.heap.size, n.toNat) else inj j) (σ := supd σ k (.arr e (P.cellsOf e) (g + 1) (List.replicate n.toNat (ofV z0)))) (len := n.toNat) (b := w.heap.size) (c := n.toNat) (supd_same _ _ _) (by simp) (by simp) (Nat.le_refl _)
   simpa [AR, upd] using this
theorem foldA_sound {f : AV → AV → Option AV} {op : Value → Value → Sem Value} (hop : ∀ x y v vx vy, AR X inj σ w x vx → AR X inj σ w y vy → f x y = some v → ∃ val, (op vx vy).run P w = .ok val w ∧ AR X inj σ w v val) :
  ∀ (rest : List AV) (x v : AV) (vx : Value) (vs : List Value), AR X inj σ w x vx → ARs X inj σ w rest vs → foldB f x rest = some v → ∃ val, (vs.foldlM op vx).run P w = .ok val w ∧ AR X inj σ w v val
 | [], x, v, vx, vs, hx, hr, h => by
  simp only [ARs] at hr; subst hr
  simp only [foldB, Option.some.injEq] at h; subst h
  exact ⟨vx, rfl, hx⟩
 | y :: rest, x, v, vx, vs, hx, hr, h => by
  obtain ⟨vy, r, rfl, hy, hr⟩ := hr
  simp only [foldB] at h
  split at h
  case h_2 => cases h
  rename_i z hf
  obtain ⟨vz, h1, h2⟩ := hop x y z vx vy hx hy hf
  obtain ⟨val, h3, h4⟩ := foldA_sound hop rest z v vz r h2 hr h
  exact ⟨val, by simp [List.foldlM_cons, h1, h3], h4⟩
def OpOk (P : Program) (X : Nat → Prop) (o : Oper) (ρ : Operand → AV) (m : L (AV × Upd)) : Prop :=
 ∀ {inj : Inj} {σ : Nat → AO} {w : World} {a : Act} {v : AV} {u : Upd} {next : Act → World → Prop} {Q : Exit → Act → World → Prop},
  HR X inj σ w → (∀ x, AR X inj σ w (ρ x) (a.eval x)) → m.run σ = some (v, u) →
  (∀ val w' inj', HR X inj' (upd σ u) w' → Ev True X inj σ w inj' (upd σ u) w' → AR X inj' (upd σ u) w' v val → next (a.put o.dst val) w') → o.wp P a w next Q
theorem wp_val {o : Oper} {a : Act} {s : Sem Value} {val : Value} {w' : World} {next : Act → World → Prop} {Q : Exit → Act → World → Prop}
  (he : execOp a.eval o = (do pure (Next.value (← s)))) (hr : s.run P w = .ok val w') (hn : next (a.put o.dst val) w') : o.wp P a w next Q := by
 unfold Oper.wp
 rw [he]
 simp only [Sem.run_bind, hr, Result.andThen_ok, Sem.run_pure, Oper.upon]
 exact hn
theorem wp_unit {o : Oper} {a : Act} {s : Sem Unit} {w' : World} {next : Act → World → Prop} {Q : Exit → Act → World → Prop}
  (he : execOp a.eval o = (do s; pure Next.skip)) (hr : s.run P w = .ok () w') (hn : next (a.put o.dst undef) w') : o.wp P a w next Q := by
 unfold Oper.wp
 rw [he]
 simp only [Sem.run_bind, hr, Result.andThen_ok, Sem.run_pure, Oper.upon]
 exact hn
theorem builtin_len (at_ : Array TypeId) (ty : TypeId) (cs : Array Bool) (args : Array Value) : builtin .len at_ ty cs args = (do pure (Next.value (← Builtin.len_ at_ ty args))) := rfl
theorem builtin_clear (at_ : Array TypeId) (ty : TypeId) (cs : Array Bool) (args : Array Value) : builtin .clear at_ ty cs args = (do pure (Next.value (← Builtin.clear_ at_ ty args))) := rfl
theorem builtin_append (at_ : Array TypeId) (ty : TypeId) (cs : Array Bool) (args : Array Value) : builtin .append at_ ty cs args = (do pure (Next.value (← Builtin.append_ at_ ty args))) := rfl
theorem builtin_max (at_ : Array TypeId) (ty : TypeId) (cs : Array Bool) (args : Array Value) : builtin .max at_ ty cs args = (do pure (Next.value (← Builtin.max_ at_ ty args))) := rfl
theorem builtin_min (at_ : Array TypeId) (ty : TypeId) (cs : Array Bool) (args : Array Value) : builtin .min at_ ty cs args = (do pure (Next.value (← Builtin.min_ at_ ty args))) := rfl
theorem quietA_run {m : L AV} {v : AV} {u : Upd} (h : (quietA m).run σ = some (v, u)) : m.run σ = some v ∧ u = none := by
 unfold quietA at h
 rw [L.run_bind'] at h
 cases hm : m.run σ with
 | none => rw [hm] at h; cases h
 | some x =>
  rw [hm] at h
  simp only [Option.bind_some, L.run_ret, Option.some.injEq, Prod.mk.injEq] at h
  exact ⟨by rw [h.1], h.2.symm⟩
theorem ars_map {ρ : Operand → AV} {a : Act} (hρ : ∀ x, AR X inj σ w (ρ x) (a.eval x)) : ∀ l : List Operand, ARs X inj σ w (l.map ρ) (l.map a.eval)
 | [] => rfl
 | x :: l => ⟨_, _, rfl, hρ x, ars_map hρ l⟩
theorem intOf_sound {x : AV} {vx : Value} {i : Int} (h : intOf? x = some i) (hx : AR X inj σ w x vx) : ∃ k, vx = .int k i := by
 unfold intOf? at h
 split at h
 ·rename_i k n
  simp only [Option.some.injEq] at h; subst h
  exact ⟨k, hx⟩
 ·cases h
set_option maxHeartbeats 1000000 in
theorem aop_ok (B : Nat) (o : Oper) (ρ : Operand → AV) : OpOk P X o ρ (aop P B ρ o) := by
 intro inj σ w a v u next Q h hρ hr hn
 obtain ⟨dst, op, type, pos, after, guard⟩ := o
 have quiet : ∀ {s : Sem Value} {val : Value}, execOp a.eval ⟨dst, op, type, pos, after, guard⟩ = (do pure (Next.value (← s))) → s.run P w = .ok val w → u = none → AR X inj σ w v val →
   (Oper.mk dst op type pos after guard).wp P a w next Q := by
  intro s val he hs hu ha
  subst hu
  exact wp_val he hs (hn val w inj h (Ev.refl X inj σ w) ha)
 cases op <;> (first | (cases hr; done) | skip)
 all_goals simp only [aop] at hr
 case move x =>
  simp only [L.run_ret, Option.some.injEq, Prod.mk.injEq] at hr
  obtain ⟨rfl, rfl⟩ := hr
  unfold Oper.wp
  exact hn _ w inj h (Ev.refl X inj σ w) (hρ x)
 case assign x =>
  simp only [L.run_ret, Option.some.injEq, Prod.mk.injEq] at hr
  obtain ⟨rfl, rfl⟩ := hr
  unfold Oper.wp
  exact hn _ w inj h (Ev.refl X inj σ w) (hρ x)
 case pick c x y =>
  split at hr
  case h_2 => simp at hr
  rename_i t hc
  simp only [L.run_ret, Option.some.injEq, Prod.mk.injEq] at hr
  obtain ⟨rfl, rfl⟩ := hr
  have h1 := hρ c
  rw [hc] at h1
  simp only [AR, PR] at h1
  have hrun : (execOp a.eval ⟨dst, .pick c x y, type, pos, after, guard⟩).run P w = .ok (.value (if t then a.eval x else a.eval y)) w := by
   simp [execOp, h1, asBool]
  unfold Oper.wp
  rw [hrun]
  refine hn _ w inj h (Ev.refl X inj σ w) ?_
  cases t
  ·exact hρ y
  ·exact hρ x
 case alloc t =>
  split at hr
  case h_2 => simp at hr
  rename_i z hz
  split at hr
  case isFalse => simp at hr
  unfold zeroOf at hz
  cases hi : P.info? t with
  | none => simp [hi] at hz
  | some i =>
   cases hzz : i.zero with
   | none => simp [hi, hzz] at hz
   | some z0 =>
    simp [hi, hzz] at hz
    subst hz
    obtain ⟨inj', h1, h2, h3⟩ := boxA_sound (P := P) h (AR_ofV z0) hr
    refine wp_val (s := Instr.alloc t true (.tuple #[])) rfl ?_ (hn _ _ _ h1 h2 h3)
    simp [Instr.alloc, zeroValue, typeInfo, hi, hzz, newVar, newRow]
 case box t x =>
  obtain ⟨inj', h1, h2, h3⟩ := boxA_sound (P := P) h (hρ x) hr
  refine wp_val (s := Instr.box t (a.eval x)) rfl ?_ (hn _ _ _ h1 h2 h3)
  simp [Instr.box, newVar, newRow]
 case build t parts =>
  obtain ⟨hr, hu⟩ := quietA_run hr
  rw [L.run_ofOpt] at hr
  obtain ⟨val, h1, h2⟩ := buildA_sound (P := P) (vparts := parts.map fun p => (p.1, a.eval p.2)) (by simpa using partsR_map hρ parts.toList) hr
  have e : (parts.map fun p => (p.1, a.eval p.2)) = (parts.map fun (i, x) => (i, a.eval x)) := rfl
  rw [e] at h1
  have he : execOp a.eval ⟨dst, .build t parts, type, pos, after, guard⟩ = (do pure (Next.value (← Instr.build t (parts.map fun (i, x) => (i, a.eval x))))) := by
   simp only [execOp]
  exact quiet he h1 hu h2
 case buildSlice t len parts =>
  obtain ⟨val, w', inj', h1, h2, h3, h4⟩ := buildSliceA_sound (P := P) h (vparts := parts.map fun p => (p.1, a.eval p.2)) (by simpa using partsR_map hρ parts.toList) hr
  have e : (parts.map fun p => (p.1, a.eval p.2)) = (parts.map fun (i, x) => (i, a.eval x)) := rfl
  rw [e] at h1
  have he : execOp a.eval ⟨dst, .buildSlice t len parts, type, pos, after, guard⟩ = (do pure (Next.value (← Instr.buildSlice t len (parts.map fun (i, x) => (i, a.eval x))))) := by
   simp only [execOp]
  exact wp_val he h1 (hn _ _ _ h2 h3 h4)
 case load t x =>
  obtain ⟨hr, hu⟩ := quietA_run hr
  obtain ⟨val, h1, h2⟩ := loadA_sound (P := P) h (hρ x) hr
  exact quiet (s := Instr.loadAt t (a.eval x)) rfl h1 hu h2
 case store t x y =>
  obtain ⟨w', h1, h2, h3, rfl⟩ := storeA_sound (P := P) h (hρ x) (hρ y) hr
  exact wp_unit (s := Instr.storeAt t (a.eval x) (a.eval y)) rfl h1 (hn _ _ _ h2 h3 trivial)
 case binOp op t x y yt =>
  obtain ⟨hr, hu⟩ := quietA_run hr
  rw [L.run_ofOpt] at hr
  obtain ⟨val, h1, h2⟩ := binA_sound (P := P) (ox := x) (oy := y) (hρ x) (hρ y) hr
  exact quiet (s := do eqGuard op t x y (a.eval x) (a.eval y); binOp op t (a.eval x) (a.eval y)) rfl h1 hu h2
 case unOp op t x =>
  obtain ⟨hr, hu⟩ := quietA_run hr
  rw [L.run_ofOpt] at hr
  obtain ⟨val, h1, h2⟩ := unA_sound (P := P) (hρ x) hr
  exact quiet (s := Op.unary op (a.eval x)) rfl h1 hu h2
 case convert s d x =>
  obtain ⟨hr, hu⟩ := quietA_run hr
  obtain ⟨val, h1, h2⟩ := convBA_sound (P := P) h (hρ x) hr
  exact quiet (s := convert s d (a.eval x)) rfl h1 hu h2
 case makeFunc fn first captured =>
  split at hr
  case isFalse => simp at hr
  rename_i hf
  simp only [L.run_ret, Option.some.injEq, Prod.mk.injEq] at hr
  obtain ⟨rfl, rfl⟩ := hr
  have hf0 : first = #[] := Array.eq_empty_of_size_eq_zero hf
  subst hf0
  have hm := AR_mkFunc (fn := fn) (ars_map hρ captured.toList)
  refine quiet (s := Instr.makeFunc fn ((#[] : Array Operand).map a.eval) (captured.map a.eval)) rfl (val := .func fn #[] (captured.map a.eval)) ?_ rfl ?_
  ·simp [Instr.makeFunc]
  ·have e : (captured.toList.map a.eval).toArray = captured.map a.eval := by apply Array.ext'; simp
   rw [← e]; exact hm
 case makeMap t r =>
  cases r with
  | some r => simp [aop] at hr
  | none =>
   simp only [aop] at hr
   obtain ⟨val, w', inj', h1, h2, h3, h4⟩ := makeMapA_sound (P := P) h hr
   exact wp_val (s := Instr.makeMap t none) rfl h1 (hn _ _ _ h2 h3 h4)
 case lookup t m k c =>
  obtain ⟨hr, hu⟩ := quietA_run hr
  obtain ⟨val, h1, h2⟩ := lookupA_sound (P := P) h (hρ m) (hρ k) hr
  exact quiet (s := Instr.lookup t (a.eval m) (a.eval k) c) rfl h1 hu h2
 case mapUpdate t m k x =>
  obtain ⟨w', h1, h2, h3, rfl⟩ := mapUpdA_sound (P := P) h (hρ m) (hρ k) (hρ x) hr
  exact wp_unit (s := Instr.mapUpdate t (a.eval m) (a.eval k) (a.eval x)) rfl h1 (hn _ _ _ h2 h3 trivial)
 case insert t m k x =>
  obtain ⟨w', h1, h2, h3, rfl⟩ := mapUpdA_sound (P := P) h (hρ m) (hρ k) (hρ x) hr
  exact wp_unit (s := Instr.mapUpdate t (a.eval m) (a.eval k) (a.eval x)) rfl h1 (hn _ _ _ h2 h3 trivial)
 case field s x f =>
  obtain ⟨hr, hu⟩ := quietA_run hr
  rw [L.run_ofOpt] at hr
  obtain ⟨val, h1, h2⟩ := fieldA_sound (P := P) (hρ x) hr
  exact quiet (s := Instr.field s (a.eval x) f) rfl h1 hu h2
 case nilCheck x =>
  obtain ⟨hr, hu⟩ := quietA_run hr
  rw [L.run_ofOpt] at hr
  have hx := hρ x
  have hp : ∃ b, a.eval x = .pointer (some b) := by
   generalize ρ x = y at *
   unfold nilA at hr
   split at hr
   ·exact hx.1
   ·simp only [AR, PR] at hx
    obtain ⟨b, o, vs, h1, _⟩ := hx
    exact ⟨_, h1⟩
   ·cases hr
  have hv : v = ρ x := by
   generalize ρ x = y at *
   unfold nilA at hr
   split at hr
   ·cases hr; rfl
   ·cases hr; rfl
   ·cases hr
  obtain ⟨b, hb⟩ := hp
  have hrun : (execOp a.eval ⟨dst, .nilCheck x, type, pos, after, guard⟩).run P w = .ok (.value (a.eval x)) w := by
   simp [execOp, hb]
  subst hu
  unfold Oper.wp
  rw [hrun]
  refine hn _ w inj h (Ev.refl X inj σ w) ?_
  rw [hv]; exact hx
 case makeSlice t l c =>
  obtain ⟨val, w', inj', h1, h2, h3, h4⟩ := makeSliceA_sound (P := P) h (hρ l) (hρ c) hr
  exact wp_val (s := Instr.makeSlice t (a.eval l) (a.eval c)) rfl h1 (hn _ _ _ h2 h3 h4)
 case slice t x lo hi mx =>
  cases mx with
  | some m =>
   cases lo with
   | some l => simp [aop] at hr
   | none =>
   cases hi with
   | none => simp [aop] at hr
   | some hi =>
   simp only [aop] at hr
   split at hr
   case h_2 => simp at hr
   rename_i e es k1 hh k2 mm hu hxe hhe hme
   split at hr
   case isFalse => simp at hr
   rename_i hc
   obtain ⟨rfl, c2, c3, c4⟩ := hc
   obtain ⟨hr, hu2⟩ := quietA_run hr
   simp only [L.run_ret, Option.some.injEq] at hr
   subst hr
   have hx := hρ x
   have h1 := hρ hi
   have h2 := hρ m
   rw [hxe] at hx
   rw [hhe] at h1
   rw [hme] at h2
   obtain ⟨val, q1, q2⟩ := slice3_sound (P := P) (w := w) hu c4 hx h1 h2 c2 c3
   exact quiet (s := Instr.sliceAt t (a.eval x) none (some (a.eval hi)) (some (a.eval m))) rfl q1 hu2 q2
  | none =>
   simp only [aop] at hr
   split at hr
   ·rename_i l hh hu hl hhi
    split at hr
    case h_2 => simp at hr
    rename_i s hs
    obtain ⟨hr, hu2⟩ := quietA_run hr
    obtain ⟨kl, el⟩ := optInt_sound hl hρ
    obtain ⟨kh, eh⟩ := optInt_sound hhi hρ
    have hx := hρ x
    rw [hs] at hx hr
    simp only [AR, PR] at hx
    obtain ⟨val, h1, h2⟩ := sliceStr_sound (P := P) (X := X) (inj := inj) (w := w) hu el eh hr
    refine quiet (s := Instr.sliceAt t (a.eval x) (lo.map a.eval) (hi.map a.eval) none) rfl ?_ hu2 h2
    rw [hx]; exact h1
   ·rename_i e l hh hu hl hhi
    split at hr
    case h_1 => simp at hr
    rename_i hs
    split at hr
    case isFalse => simp at hr
    rename_i hok
    obtain ⟨hr, hu2⟩ := quietA_run hr
    obtain ⟨kl, el⟩ := optInt_sound hl hρ
    obtain ⟨kh, eh⟩ := optInt_sound hhi hρ
    obtain ⟨val, h1, h2⟩ := sliceT_sound (P := P) h hu hok (hρ x) (fun s hxs => hs s hxs) el eh hr
    exact quiet (s := Instr.sliceAt t (a.eval x) (lo.map a.eval) (hi.map a.eval) none) rfl h1 hu2 h2
   ·simp at hr
 case fieldAddr s x f =>
  obtain ⟨hr, hu⟩ := quietA_run hr
  rw [L.run_ofOpt] at hr
  obtain ⟨val, h1, h2⟩ := fieldAddrA_sound (P := P) (hρ x) hr
  exact quiet (s := Instr.fieldAt s (a.eval x) f) rfl h1 hu h2
 case indexAddr t x ix =>
  split at hr
  case h_2 => simp at hr
  rename_i i hi
  obtain ⟨k, hk⟩ := intOf_sound hi (hρ ix)
  obtain ⟨hr, hu⟩ := quietA_run hr
  obtain ⟨val, h1, h2⟩ := indexAddrA_sound (P := P) (k := k) (hρ x) hr
  refine quiet (s := Instr.indexAt t (a.eval x) (a.eval ix)) rfl ?_ hu h2
  rw [hk]; exact h1
 case index t x ix =>
  split at hr
  case h_2 => simp at hr
  rename_i i hi
  obtain ⟨k, hk⟩ := intOf_sound hi (hρ ix)
  obtain ⟨hr, hu⟩ := quietA_run hr
  rw [L.run_ofOpt] at hr
  obtain ⟨val, h1, h2⟩ := indexA_sound (P := P) (k := k) (hρ x) hr
  refine quiet (s := Instr.index t (a.eval x) (a.eval ix)) rfl ?_ hu h2
  rw [hk]; exact h1
 case extract x i =>
  have hx := hρ x
  split at hr
  ·rename_i vs hvs
   obtain ⟨hr, hu⟩ := quietA_run hr
   rw [L.run_ofOpt] at hr
   rw [hvs] at hx
   obtain ⟨us, hus, h1⟩ := hx
   cases hv : vs[i]? with
   | none => rw [hv] at hr; cases hr
   | some y =>
    rw [hv] at hr
    simp only [Option.map_some, Option.some.injEq] at hr
    subst hr
    obtain ⟨z, hz, hpz⟩ := h1.get hv
    refine quiet (s := Instr.extract (a.eval x) i) rfl (val := z) ?_ hu hpz
    rw [hus]
    simp [Instr.extract, hz]
  ·rename_i vs hvs
   obtain ⟨hr, hu⟩ := quietA_run hr
   rw [L.run_ofOpt] at hr
   rw [hvs] at hx
   obtain ⟨us, hus, h1⟩ := hx
   obtain ⟨z, hz, hpz⟩ := h1.get hr
   refine quiet (s := Instr.extract (a.eval x) i) rfl (val := z) ?_ hu hpz
   rw [hus]
   simp [Instr.extract, hz]
  ·simp at hr
 case call c =>
  obtain ⟨callee, args, argTypes⟩ := c
  cases callee with
  | value f => simp [aop] at hr
  | invoke r m => simp [aop] at hr
  | builtin b =>
   have res : ∀ s : Sem Value, (∀ cs, builtin b argTypes type cs (args.map a.eval) = (do pure (Next.value (← s)))) → (execOp a.eval ⟨dst, .call ⟨.builtin b, args, argTypes⟩, type, pos, after, guard⟩).run P w = ((do pure (Next.value (← s)) : Sem Next)).run P w := by
    intro s hs
    simp only [execOp, resolve, Sem.run_bind, Sem.run_pure, Result.andThen_ok, invoke]
    rw [hs _]
    simp
   have fin : ∀ {s : Sem Value} {val : Value} {w' : World} {inj' : Inj}, (∀ cs, builtin b argTypes type cs (args.map a.eval) = (do pure (Next.value (← s)))) → s.run P w = .ok val w' → HR X inj' (upd σ u) w' → Ev True X inj σ w inj' (upd σ u) w' → AR X inj' (upd σ u) w' v val →
     (Oper.mk dst (.call ⟨.builtin b, args, argTypes⟩) type pos after guard).wp P a w next Q := by
    intro s val w' inj' hb hs h1 h2 h3
    unfold Oper.wp
    rw [res s hb]
    simp only [Sem.run_bind, hs, Result.andThen_ok, Sem.run_pure, Oper.upon]
    exact hn _ _ _ h1 h2 h3
   cases b <;> (first | (cases hr; done) | skip)
   all_goals simp only [aop] at hr
   case len =>
    split at hr
    case h_2 => simp at hr
    rename_i x t hxs hts
    split at hr
    case isFalse => simp at hr
    obtain ⟨hr, hu⟩ := quietA_run hr
    obtain ⟨val, h1, h2⟩ := lenT_sound (P := P) (ty := type) h (hρ x) hr
    have e1 : args = #[x] := by apply Array.ext'; simpa using hxs
    have e2 : argTypes = #[t] := by apply Array.ext'; simpa using hts
    subst hu e1 e2
    exact fin (s := Builtin.len_ #[t] type ((#[x] : Array Operand).map a.eval)) (fun _ => builtin_len _ _ _ _) (by simpa using h1) h (Ev.refl X inj σ w) h2
   case append =>
    split at hr
    case h_2 => simp at hr
    rename_i s x t t' hxs hts
    split at hr
    case isFalse => simp at hr
    rename_i htt
    subst htt
    obtain ⟨val, w', inj', h1, h2, h3, h4⟩ := appendA_sound (P := P) (ty := type) h (hρ s) (hρ x) hr
    have e1 : args = #[s, x] := by apply Array.ext'; simpa using hxs
    have e2 : argTypes = #[t, t] := by apply Array.ext'; simpa using hts
    subst e1 e2
    exact fin (s := Builtin.append_ #[t, t] type ((#[s, x] : Array Operand).map a.eval)) (fun _ => builtin_append _ _ _ _) (by simpa using h1) h2 h3 h4
   case clear =>
    split at hr
    case h_2 => simp at hr
    rename_i x t hxs hts
    obtain ⟨val, w', h1, h2, h3, h4⟩ := clearA_sound (P := P) (ty := type) h (hρ x) hr
    have e1 : args = #[x] := by apply Array.ext'; simpa using hxs
    have e2 : argTypes = #[t] := by apply Array.ext'; simpa using hts
    subst e1 e2
    exact fin (s := Builtin.clear_ #[t] type ((#[x] : Array Operand).map a.eval)) (fun _ => builtin_clear _ _ _ _) (by simpa using h1) h2 h3 h4
   case max =>
    obtain ⟨hr2, hu⟩ := quietA_run hr
    rw [L.run_ofOpt] at hr2
    clear hr
    subst hu
    cases hl : args.toList with
    | nil => rw [hl] at hr2; cases hr2
    | cons x rest =>
     rw [hl] at hr2
     obtain ⟨val, h1, h2⟩ := foldA_sound (P := P) (w := w) (f := max2A) (op := Builtin.max2) (fun x y v vx vy hx hy hf => by
      unfold max2A at hf
      split at hf
      ·simp only [Option.some.injEq] at hf; subst hf
       simp only [AR, PR] at hx hy; subst hx hy
       exact ⟨_, rfl, rfl⟩
      ·cases hf) (rest.map ρ) (ρ x) v (a.eval x) (rest.map a.eval) (hρ x) (ars_map hρ rest) hr2
     refine fin (s := Builtin.max_ argTypes type (args.map a.eval)) (fun _ => builtin_max _ _ _ _) (val := val) ?_ h (Ev.refl X inj σ w) h2
     simp [Builtin.max_, hl, h1]
   case min =>
    obtain ⟨hr2, hu⟩ := quietA_run hr
    rw [L.run_ofOpt] at hr2
    clear hr
    subst hu
    cases hl : args.toList with
    | nil => rw [hl] at hr2; cases hr2
    | cons x rest =>
     rw [hl] at hr2
     obtain ⟨val, h1, h2⟩ := foldA_sound (P := P) (w := w) (f := min2A) (op := Builtin.min2) (fun x y v vx vy hx hy hf => by
      unfold min2A at hf
      split at hf
      ·simp only [Option.some.injEq] at hf; subst hf
       simp only [AR, PR] at hx hy; subst hx hy
       exact ⟨_, rfl, rfl⟩
      ·cases hf) (rest.map ρ) (ρ x) v (a.eval x) (rest.map a.eval) (hρ x) (ars_map hρ rest) hr2
     refine fin (s := Builtin.min_ argTypes type (args.map a.eval)) (fun _ => builtin_min _ _ _ _) (val := val) ?_ h (Ev.refl X inj σ w) h2
     simp [Builtin.min_, hl, h1]
end Go.Ab
namespace Go.Ab
variable {D : Prop}
open Go
set_option linter.unusedVariables false
set_option linter.unusedSimpArgs false
def hget : List (Nat × AO) → Nat → AO
 | [], _ => .dead 0
 | (k, o) :: r, l => if k = l then o else hget r l
def hset (h : List (Nat × AO)) (k : Nat) (o : AO) : List (Nat × AO) := (k, o) :: h
structure Cx where
 P : Program
 N : Nat
 B : Nat
 X : Nat → Prop
 H0 : List (Nat × AO)
 inj0 : Inj
 w0 : World
 D : Prop
 tab : TabOk P (fun b => X b ∨ F inj0 (hget H0) b) w0
structure St where
 env : Env
 heap : List (Nat × AO)
abbrev St.sig (st : St) : Nat → AO := hget st.heap
structure SR (C : Cx) (st : St) (inj : Inj) (a : Act) (w : World) : Prop where
 env : ∀ t, AR C.X inj st.sig w (st.env.get t) (a.tmps.getD t undef)
 size : a.tmps.size = C.N
 defers : a.defers = []
 hr : HR C.X inj st.sig w
 ev : Ev C.D C.X C.inj0 (hget C.H0) C.w0 inj st.sig w
def lift (C : Cx) (Q : Exit → St → Prop) : Exit → Act → World → Prop := fun ex a w => ∃ st inj, SR C st inj a w ∧ Q ex st
def AWp (C : Cx) (c : Code) (Q : Exit → St → Prop) (st : St) : Prop := ∀ inj a w, SR C st inj a w → c.wp C.P (lift C Q) a w
def AL (C : Cx) (ops : Array Oper) (l : List Oper) (Q : Exit → St → Prop) (st : St) : Prop := ∀ inj a w, SR C st inj a w → wpList C.P ops (lift C Q) l a w
variable {C : Cx} {Q : Exit → St → Prop} {st : St} {inj : Inj} {a : Act} {w : World}
theorem hget_hset (h : List (Nat × AO)) (k : Nat) (o : AO) : hget (hset h k o) = supd (hget h) k o := by
 funext l
 simp only [hset, hget, supd]
 by_cases h1 : l = k
 ·subst h1; simp
 ·rw [if_neg (Ne.symm h1), if_neg h1]
def putE (env : Env) (d : Option Tmp) (v : AV) : Env := match d with
 | some t => (t, v) :: env
 | none => env
def putH (h : List (Nat × AO)) : Upd → List (Nat × AO)
 | none => h
 | some (l, o) => hset h l o
theorem hget_putH (h : List (Nat × AO)) (u : Upd) : hget (putH h u) = upd (hget h) u := by
 cases u with
 | none => rfl
 | some p => exact hget_hset h p.1 p.2
def dstOk (N : Nat) (o : Oper) : Bool := match o.dst with
 | some d => decide (d < N)
 | none => true
theorem tab_ev {C : Cx} {σ : Nat → AO} {inj : Inj} {w : World} (ev : Ev C.D C.X C.inj0 (hget C.H0) C.w0 inj σ w) : TabOk C.P (fun b => C.X b ∨ F inj σ b) w :=
 C.tab.keep ⟨ev.size, fun b hb hx => ev.blk b hb fun hf => hx (.inr hf), fun b hb hx hn => hn.elim (fun h => hx (.inl h)) fun hf => (ev.fp b hf).elim (fun h => hx (.inr h)) fun h => by omega⟩
theorem SR.eval (h : SR C st inj a w) (x : Operand) : AR C.X inj st.sig w (Ab.ev st.env x) (a.eval x) := by
 cases x with
 | tmp t => exact h.env t
 | const v => exact AR_ofV v
 | global g => trivial
 | func f => exact ⟨[], rfl, rfl⟩
theorem SR.put (h : SR C st inj a w) {o : Oper} (hd : dstOk C.N o = true) {v : AV} {val : Value} {u : Upd} {inj' : Inj} {w' : World}
  (h1 : HR C.X inj' (upd st.sig u) w') (h2 : Ev C.D C.X inj st.sig w inj' (upd st.sig u) w') (h3 : AR C.X inj' (upd st.sig u) w' v val) :
  SR C ⟨putE st.env o.dst v, putH st.heap u⟩ inj' (a.put o.dst val) w' := by
 have hs : (St.mk (putE st.env o.dst v) (putH st.heap u)).sig = upd st.sig u := hget_putH _ _
 refine ⟨fun t => ?_, ?_, ?_, by rw [hs]; exact h1, by rw [hs]; exact h.ev.trans h2⟩
 ·rw [hs]
  cases hdst : o.dst with
  | none => simpa [putE, Act.put] using AR.ev h2 h.hr.xlt _ _ (h.env t)
  | some d =>
   simp only [dstOk, hdst, decide_eq_true_eq] at hd
   simp only [putE, Act.put, Env.get]
   by_cases ht : d = t
   ·subst ht
    rw [if_pos rfl]
    have : (a.tmps.setIfInBounds d val).getD d undef = val := by simp [h.size, hd]
    rw [this]; exact h3
   ·rw [if_neg ht]
    have : (a.tmps.setIfInBounds d val).getD t undef = a.tmps.getD t undef := by simp [Array.getElem?_setIfInBounds_ne ht]
    rw [this]; exact AR.ev h2 h.hr.xlt _ _ (h.env t)
 ·cases hdst : o.dst <;> simp [Act.put, h.size]
 ·cases hdst : o.dst <;> simp [Act.put, h.defers]
def guardA (ops : Array Oper) (env : Env) (o : Oper) : Option Bool :=
 match o.guard with
 | none => some true
 | some (j, want) => match (ops[j]?).bind (·.dst) with
  | some d => (match env.get d with | .p (.bool b) => some (b == want) | .p (.tup []) => some false | _ => none)
  | none => none
theorem guard_sound {ops : Array Oper} {o : Oper} {b : Bool} (h : SR C st inj a w) (hg : guardA ops st.env o = some b) : Region.wanted o (yielded ops a.tmps) = b := by
 unfold guardA at hg
 unfold Region.wanted
 split at hg
 ·rename_i hgd
  simp only [Option.some.injEq] at hg; subst hg
  rw [hgd]
 ·rename_i j want hgd
  rw [hgd]
  split at hg
  ·rename_i d hd
   have he := h.env d
   split at hg
   ·rename_i b' hb
    simp only [Option.some.injEq] at hg; subst hg
    rw [hb] at he
    simp only [AR, PR] at he
    have ht : a.tmps[d]? = some (.bool b') := by
     cases hx : a.tmps[d]? with
     | none => simp [hx, undef] at he
     | some x => simp [hx] at he; rw [he]
    simp only [yielded, hd, Option.bind_some, ht]
    cases b' <;> cases want <;> rfl
   ·rename_i hb
    simp only [Option.some.injEq] at hg; subst hg
    rw [hb] at he
    obtain ⟨vs, he, _⟩ := he
    have ht : a.tmps[d]? = none ∨ a.tmps[d]? = some (.tuple vs.toArray) := by
     cases hx : a.tmps[d]? with
     | none => exact .inl rfl
     | some x => simp [hx] at he; exact .inr (by rw [he])
    rcases ht with ht | ht <;> simp only [yielded, hd, Option.bind_some, ht] <;> cases want <;> rfl
   ·cases hg
  ·cases hg
theorem AL_nil {ops : Array Oper} (h : Q .normal st) : AL C ops [] Q st := fun inj a w hs => ⟨st, inj, hs, h⟩
theorem AL_op {ops : Array Oper} {o : Oper} {rest : List Oper} {m : L (AV × Upd)} {v : AV} {u : Upd} (hg : guardA ops st.env o = some true) (hd : dstOk C.N o = true)
  (hop : OpOk C.P C.X o (ev st.env) m) (hr : m.run st.sig = some (v, u)) (h : AL C ops rest Q ⟨putE st.env o.dst v, putH st.heap u⟩) : AL C ops (o :: rest) Q st := by
 intro inj a w hs
 simp only [wpList, guard_sound hs hg, if_true]
 exact .inl (hop hs.hr (fun x => hs.eval x) hr fun val w' inj' h1 h2 h3 => h inj' _ _ (hs.put hd h1 h2.weak h3))
theorem AL_skip {ops : Array Oper} {o : Oper} {rest : List Oper} (hg : guardA ops st.env o = some false) (hd : dstOk C.N o = true)
  (h : AL C ops rest Q ⟨putE st.env o.dst (.p (.tup [])), st.heap⟩) : AL C ops (o :: rest) Q st := by
 intro inj a w hs
 simp only [wpList, guard_sound hs hg, Bool.false_eq_true, if_false]
 exact h inj _ _ (hs.put (u := none) hd hs.hr (Ev.refl _ _ _ _) ⟨[], rfl, rfl⟩)
inductive Go1 where
 | on (v : AV) (u : Upd)
 | stop
def go1 (P : Program) (N B : Nat) (ops : Array Oper) (o : Oper) (st : St) : Go1 :=
 if dstOk N o then
  match guardA ops st.env o with
  | some true => (match (aop P B (ev st.env) o).run st.sig with
   | some (v, u) => .on v u
   | none => .stop)
  | some false => .on (.p (.tup [])) none
  | none => .stop
 else .stop
def runOps (P : Program) (N B : Nat) (ops : Array Oper) : List Oper → St → St × List Oper
 | [], st => (st, [])
 | o :: rest, st =>
  match go1 P N B ops o st with
  | .on v u => runOps P N B ops rest ⟨putE st.env o.dst v, putH st.heap u⟩
  | .stop => (st, o :: rest)
def runOn (P : Program) (N B : Nat) (ops : Array Oper) (o : Oper) (rest : List Oper) (st : St) : Go1 → St × List Oper
 | .on v u => runOps P N B ops rest ⟨putE st.env o.dst v, putH st.heap u⟩
 | .stop => (st, o :: rest)
theorem runOps_cons (P : Program) (N B : Nat) (ops : Array Oper) (o : Oper) (rest : List Oper) (st : St) : runOps P N B ops (o :: rest) st = runOn P N B ops o rest st (go1 P N B ops o st) := by
 simp only [runOps, runOn]
theorem runOn_on (P : Program) (N B : Nat) (ops : Array Oper) (o : Oper) (rest : List Oper) (st : St) (v : AV) (u : Upd) : runOn P N B ops o rest st (.on v u) = runOps P N B ops rest ⟨putE st.env o.dst v, putH st.heap u⟩ := rfl
theorem runOn_stop (P : Program) (N B : Nat) (ops : Array Oper) (o : Oper) (rest : List Oper) (st : St) : runOn P N B ops o rest st .stop = (st, o :: rest) := rfl
theorem AWp.mono {c : Code} {Q' : Exit → St → Prop} (h : AWp C c Q st) (hq : ∀ e s, Q e s → Q' e s) : AWp C c Q' st :=
 fun inj a w hs => wp_mono (h inj a w hs) fun e a w ⟨s, i, h1, h2⟩ => ⟨s, i, h1, hq e s h2⟩
def thenA (K : St → Prop) (Q : Exit → St → Prop) : Exit → St → Prop
 | .normal, s => K s
 | e, s => Q e s
theorem lift_then {K : St → Prop} {K' : Act → World → Prop} (hK : ∀ s inj a w, SR C s inj a w → K s → K' a w) : ∀ e a w, lift C (thenA K Q) e a w → Exit.then K' (lift C Q) e a w := by
 intro e a w ⟨s, i, h1, h2⟩
 cases e with
 | normal => exact hK s i a w h1 h2
 | _ => exact ⟨s, i, h1, h2⟩
theorem awp_seq {x y : Code} (h : AWp C x (thenA (fun s => AWp C y Q s) Q) st) : AWp C (.seq x y) Q st := fun inj a w hs =>
 wp_seq (wp_mono (h inj a w hs) (lift_then fun s i a w h1 h2 => h2 i a w h1))
theorem awp_skip (h : Q .normal st) : AWp C .skip Q st := fun inj a w hs => wp_skip ⟨st, inj, hs, h⟩
theorem awp_ret (h : Q .ret st) : AWp C .ret Q st := fun inj a w hs => wp_ret ⟨st, inj, hs, h⟩
theorem awp_exit {id : Nat} (h : Q (.exit id) st) : AWp C (.exit id) Q st := fun inj a w hs => wp_exit ⟨st, inj, hs, h⟩
def blockA (id : Nat) (Q : Exit → St → Prop) : Exit → St → Prop
 | .exit id', s => if id' = id then Q .normal s else Q (.exit id') s
 | e, s => Q e s
theorem awp_block {id : Nat} {c : Code} (h : AWp C c (blockA id Q) st) : AWp C (.block id c) Q st := fun inj a w hs =>
 wp_block (wp_mono (h inj a w hs) fun e a w ⟨s, i, h1, h2⟩ => by
  cases e with
  | exit id' =>
   simp only [Exit.inBlock]
   simp only [blockA] at h2
   split
   ·rename_i he; rw [if_pos he] at h2; exact ⟨s, i, h1, h2⟩
   ·rename_i he; rw [if_neg he] at h2; exact ⟨s, i, h1, h2⟩
  | _ => exact ⟨s, i, h1, h2⟩)
theorem awp_cond {c : Operand} {x y : Code} {b : Bool} (hc : ev st.env c = .p (.bool b)) (ht : b = true → AWp C x Q st) (hf : b = false → AWp C y Q st) : AWp C (.cond c x y) Q st := by
 intro inj a w hs
 have he := hs.eval c
 rw [hc] at he
 simp only [AR, PR] at he
 exact wp_cond_split he (fun h => ht h inj a w hs) (fun h => hf h inj a w hs)
theorem awp_region {id : Nat} {l : List Oper} (h : AL C l.toArray l Q st) : AWp C (.region id l.toArray false) Q st := by
 intro inj a w hs
 apply wp_region
 have := wpOps_eq_wpList (P := C.P) (ops := l.toArray) (Q := lift C Q) l 0 (fun j => by simp)
 rw [List.size_toArray, List.range_eq_range', this]
 exact h inj a w hs
theorem awp_loop {G : Type} {c : Code} (I : G → St → Prop) (μ : G → Nat) (g0 : G) (h0 : I g0 st)
  (round : ∀ g s, I g s → AWp C c (thenA (fun s' => ∃ g', I g' s' ∧ μ g' < μ g) Q) s) : AWp C (.loop c) Q st := by
 intro inj a w hs
 refine wp_loop_ghost (fun n a w => ∃ g s i, μ g = n ∧ I g s ∧ SR C s i a w) (μ g0) ⟨g0, st, inj, rfl, h0, hs⟩ ?_
 rintro n a w ⟨g, s, i, rfl, hI, hS⟩
 refine wp_mono (round g s hI i a w hS) (lift_then fun s' i' a' w' h1 h2 => ?_)
 obtain ⟨g', h3, h4⟩ := h2
 exact ⟨μ g', h4, g', s', i', rfl, h3, h1⟩
structure Fr (D : Prop) (w w' : World) : Prop where
 os : w'.os = w.os
 tape : w'.tape = w.tape
 output : w'.output = w.output
 dr : D → w.drawn ≤ w'.drawn
 size : w.heap.size ≤ w'.heap.size
 fz : ∀ a, a.block < w.heap.size → w'.frozen? a = w.frozen? a
 blk : ∀ b, b < w.heap.size → w'.heap[b]? = w.heap[b]?
def Pure (D : Prop) (P : Program) (f : FuncId) (args : List PV) (r : PV) : Prop :=
 ∀ (X : Nat → Prop) (w : World) (vs : List Value), (∀ b, X b → b < w.heap.size) → TabOk P X w → PRs X w args vs →
  Calls P f vs.toArray w fun e w' => ∃ v, e = .returned v ∧ PR X w' r v ∧ Fr D w w'
def resOne (P : Program) (st : St) : ResultVar → Option AV
 | .tmp t => some (st.env.get t)
 | .cell a t => (loadA P t (st.env.get a)).run st.sig
def resAll (P : Program) (st : St) : List ResultVar → Option (List AV)
 | [] => some []
 | x :: r => match resOne P st x, resAll P st r with
  | some v, some vs => some (v :: vs)
  | _, _ => none
def resA (P : Program) (st : St) (rs : List ResultVar) : Option AV := match resAll P st rs with
 | some [v] => some v
 | some vs => some (mkTup vs)
 | none => none
def resF (tmps : Array Value) : ResultVar → Sem Value
 | .tmp t => pure (tmps.getD t undef)
 | .cell p t => do loadVar t (← asAddr (tmps.getD p undef))
theorem results_eq (fn : Func) (tmps : Array Value) : results fn tmps = (do let vs ← fn.results.mapM (resF tmps); pure (if h : vs.size = 1 then vs[0] else .tuple vs)) := by
 unfold results
 have : (fun (x : ResultVar) => (match x with | .tmp t => pure (tmps.getD t undef) | .cell a t => (do loadVar t (← asAddr (tmps.getD a undef))) : Sem Value)) = resF tmps := by
  funext x; cases x <;> rfl
 rw [← this]
 rfl
theorem resOne_sound (h : SR C st inj a w) {x : ResultVar} {v : AV} (hr : resOne C.P st x = some v) :
  ∃ val, (resF a.tmps x).run C.P w = .ok val w ∧ AR C.X inj st.sig w v val := by
 cases x with
 | tmp t =>
  simp only [resOne, Option.some.injEq] at hr; subst hr
  exact ⟨_, rfl, h.env t⟩
 | cell p t =>
  simp only [resOne] at hr
  obtain ⟨u, h1, h2⟩ := loadA_sound (P := C.P) h.hr (h.env p) hr
  refine ⟨u, ?_, h2⟩
  simp only [Instr.loadAt, Sem.run_bind] at h1
  simp only [resF, Sem.run_bind]
  have he := h.env p
  have : (asAddr (a.tmps.getD p undef)).run C.P w = (Instr.sureAddr (a.tmps.getD p undef)).run C.P w := by
   cases hv : a.tmps.getD p undef with
   | pointer q =>
    cases q with
    | some q => rfl
    | none => rw [hv] at h1; simp [Instr.sureAddr, stuck, Sem.run, Result.andThen] at h1
   | _ => rw [hv] at h1; simp [Instr.sureAddr, stuck, Sem.run, Result.andThen] at h1
  rw [this]; exact h1
theorem resAll_sound (h : SR C st inj a w) : ∀ {rs : List ResultVar} {vs : List AV}, resAll C.P st rs = some vs →
  ∃ us, (rs.mapM (resF a.tmps)).run C.P w = .ok us w ∧ ARs C.X inj st.sig w vs us
 | [], vs, hr => by simp only [resAll, Option.some.injEq] at hr; subst hr; exact ⟨[], rfl, rfl⟩
 | x :: rs, vs, hr => by
  simp only [resAll] at hr
  split at hr
  ·rename_i v us h1 h2
   simp only [Option.some.injEq] at hr; subst hr
   obtain ⟨val, h3, h4⟩ := resOne_sound h h1
   obtain ⟨vals, h5, h6⟩ := resAll_sound h h2
   refine ⟨val :: vals, ?_, val, vals, rfl, h4, h6⟩
   rw [List.mapM_cons]
   simp only [Sem.run_bind, h3, Result.andThen_ok, h5, Sem.run_pure]
  ·cases hr
theorem resA_sound (h : SR C st inj a w) {fn : Func} {v : AV} (hr : resA C.P st fn.results.toList = some v) : ∃ val, (results fn a.tmps).run C.P w = .ok val w ∧ AR C.X inj st.sig w v val := by
 unfold resA at hr
 have key : ∀ {vs : List AV} {us : List Value}, resAll C.P st fn.results.toList = some vs → (fn.results.toList.mapM (resF a.tmps)).run C.P w = .ok us w →
   (results fn a.tmps).run C.P w = .ok (if h : us.toArray.size = 1 then us.toArray[0] else .tuple us.toArray) w := by
  intro vs us _ hu
  rw [results_eq]
  simp only [Sem.run_bind, Array.mapM_eq_mapM_toList, Sem.run_map, hu, Result.andThen_ok, Sem.run_pure]
 split at hr
 ·rename_i v' hv
  simp only [Option.some.injEq] at hr; subst hr
  obtain ⟨us, h1, h2⟩ := resAll_sound h hv
  obtain ⟨u, r, rfl, h3, h4⟩ := h2
  simp only [ARs] at h4; subst h4
  exact ⟨u, by rw [key hv h1]; simp, h3⟩
 ·rename_i vs hne hv
  simp only [Option.some.injEq] at hr; subst hr
  obtain ⟨us, h1, h2⟩ := resAll_sound h hv
  refine ⟨.tuple us.toArray, ?_, AR_mkTup h2⟩
  rw [key hv h1, dif_neg]
  intro hl
  have h3 := h2.length
  rw [List.size_toArray] at hl
  rw [hl] at h3
  match vs, h3 with
  | [v], _ => exact hne v rfl
 ·cases hr
def argsEnv : Nat → List PV → Env
 | _, [] => []
 | k, x :: r => (k, .p x) :: argsEnv (k + 1) r
theorem argsEnv_get : ∀ (ps : List PV) (vs : List Value) (k t : Nat) {X : Nat → Prop} {inj : Inj} {σ : Nat → AO} {w : World}, PRs (fun b => X b ∨ F inj σ b) w ps vs →
  AR X inj σ w ((argsEnv k ps).get t) (if k ≤ t then vs.getD (t - k) undef else undef)
 | [], _, k, t, _, _, _, _, _ => trivial
 | p :: ps, _, k, t, X, inj, σ, w, h => by
  obtain ⟨v, r, rfl, h2, h3⟩ := h
  simp only [argsEnv, Env.get]
  by_cases hk : k = t
  ·subst hk
   rw [if_pos rfl, if_pos (Nat.le_refl _)]
   simpa [AR] using h2
  ·rw [if_neg hk]
   have := argsEnv_get ps r (k + 1) t (X := X) (inj := inj) h3
   by_cases hle : k ≤ t
   ·rw [if_pos hle]
    rw [if_pos (by omega)] at this
    have e : t - k = (t - (k + 1)) + 1 := by omega
    rw [e]; simpa using this
   ·rw [if_neg hle]
    rw [if_neg (by omega)] at this
    exact this
def retQ (P : Program) (fn : Func) (r : PV) : Exit → St → Prop := fun ex s => (ex = .normal ∨ ex = .ret) ∧ ∃ v, resA P s fn.results.toList = some v ∧ (view (fun _ => true) 9 v).run s.sig = some r
theorem pure_of_awp {P : Program} {f : FuncId} {fn : Func} {c : Code} {args : List PV} {r : PV} {N : Nat} (hf : P.funcs[f]? = some fn) (hb : fn.body = some c) (hN : fn.ntmps = N) (hn : args.length ≤ N)
  (h : ∀ X w hT, AWp ⟨P, N, 0, X, [], fun _ => none, w, D, hT⟩ c (retQ P fn r) ⟨argsEnv 0 args, []⟩) : Pure D P f args r := by
 subst hN
 intro X w vs hX hTb hargs
 have hnoF : ∀ inj b, ¬ F inj (hget []) b := by
  rintro inj b ⟨l, c, o, h1, h2, _⟩
  simp only [hget] at h1; subst h1; cases h2
 have hpr : PRs (fun b => X b ∨ F (fun _ => none) (hget []) b) w args vs := PRs.keep ⟨Nat.le_refl _, fun _ _ _ => rfl, fun b _ hx hn => hn.elim hx (hnoF _ _)⟩ args vs hargs
 have hT : TabOk P (fun b => X b ∨ F (fun _ => none) (hget []) b) w := hTb.keep ⟨Nat.le_refl _, fun _ _ _ => rfl, fun b _ hx hn => hn.elim hx (hnoF _ _)⟩
 have hl := hargs.length
 refine calls_of_wp hf hb (wp_mono (h X w hT (fun _ => none) _ w ⟨fun t => ?_, ?_, rfl, ⟨fun l o ho => ?_, fun l l' o o' b c c' h1 h2 h3 => ?_, hX⟩, Ev.refl _ _ _ _⟩) ?_)
 ·have := argsEnv_get args vs 0 t (X := X) (inj := fun _ => none) hpr
  simp only [Nat.zero_le, if_true, Nat.sub_zero] at this
  have e : (vs.toArray ++ Array.replicate (fn.ntmps - vs.toArray.size) undef).getD t undef = vs.getD t undef := by
   by_cases ht : t < vs.length
   ·simp [Array.getElem?_append, ht]
   ·simp only [Array.getD_eq_getD_getElem?, Array.getElem?_append, List.size_toArray, ht, if_false, Array.getElem?_replicate]
    rw [List.getD_eq_getElem?_getD, List.getElem?_eq_none (by omega)]
    split <;> rfl
  rw [e]; exact this
 ·simp [← hl]; omega
 ·simp only [St.sig, hget] at ho; subst ho; trivial
 ·simp only [St.sig, hget] at h1; subst h1; cases h3
 ·intro e a w' ⟨s, inj, hs, hq⟩
  obtain ⟨hex, v, hv, hview⟩ := hq
  obtain ⟨val, h1, h2⟩ := resA_sound hs hv
  have hp := view_sound hs.hr (fun _ => true) 9 v val r h2 hview
  have hp' : PR X w' r val := PR.keep ⟨Nat.le_refl _, fun _ _ _ => rfl, fun b _ hx hn => hx (.inl hn)⟩ r val hp
  have hfr : Fr D w w' := ⟨hs.ev.os, hs.ev.tape, hs.ev.output, hs.ev.dr, hs.ev.size, hs.ev.fz, fun b hb => hs.ev.blk b hb (hnoF _ _)⟩
  rcases hex with rfl | rfl
  ·exact ⟨hs.defers, val, h1, val, rfl, hp', hfr⟩
  ·exact ⟨hs.defers, val, h1, val, rfl, hp', hfr⟩
def PV.flat : PV → Bool
 | .int .. | .bool _ | .str _ | .nilp | .nilf | .nili | .nilm => true
 | .agg cs => flatAll cs
 | .tup cs => flatAll cs
 | _ => false
where flatAll : List PV → Bool
 | [] => true
 | c :: cs => c.flat && flatAll cs
mutual
theorem PR.flat {X X' : Nat → Prop} {w : World} : ∀ (x : PV) (v : Value), x.flat = true → PR X w x v → PR X' w x v
 | .int _ _, _, _, h => h
 | .bool _, _, _, h => h
 | .str _, _, _, h => h
 | .nilp, _, _, h => h
 | .nilf, _, _, h => h
 | .nili, _, _, h => h
 | .nilm, _, _, h => h
 | .agg cs, v, hf, h => by
  obtain ⟨vs, h1, h2, h3⟩ := h
  exact ⟨vs, h1, PRs.flat cs vs hf h2, h3⟩
 | .tup cs, v, hf, h => by
  obtain ⟨vs, h1, h2⟩ := h
  exact ⟨vs, h1, PRs.flat cs vs hf h2⟩
theorem PRs.flat {X X' : Nat → Prop} {w : World} : ∀ (xs : List PV) (vs : List Value), PV.flat.flatAll xs = true → PRs X w xs vs → PRs X' w xs vs
 | [], _, _, h => h
 | x :: xs, vs, hf, h => by
  simp only [PV.flat.flatAll, Bool.and_eq_true] at hf
  obtain ⟨v, r, h1, h2, h3⟩ := h
  exact ⟨v, r, h1, PR.flat x v hf.1 h2, PRs.flat xs r hf.2 h3⟩
end
def callArgs (env : Env) (f : Operand) (args : List Operand) : Option (FuncId × List AV) :=
 match ev env f with
 | .p (.func (.func k) cs) => some (k, args.map (ev env) ++ cs.map .p)
 | .func (.func k) cs => some (k, args.map (ev env) ++ cs)
 | _ => none
def HasBody (P : Program) (k : FuncId) : Prop := ∀ (args : Array Value) (w : World), (callFunc k args).run P w = .ok (.enter k args) w
theorem call_run (h : SR C st inj a w) {o : Oper} {f : Operand} {args : Array Operand} {ats : Array TypeId} {k : FuncId} {avs : List AV} (ho : o.op = .call ⟨.value f, args, ats⟩)
  (hk : HasBody C.P k) (hc : callArgs st.env f args.toList = some (k, avs)) :
  ∃ vs, (execOp a.eval o).run C.P w = .ok (.enter k vs.toArray) w ∧ ARs C.X inj st.sig w avs vs := by
 have hf := h.eval f
 have hargs := ars_map (fun x => h.eval x) args.toList
 obtain ⟨dst, op, type, pos, after, guard⟩ := o
 simp only at ho
 subst ho
 unfold callArgs at hc
 have run : ∀ cap : Array Value, a.eval f = .func (.func k) #[] cap → (execOp a.eval ⟨dst, .call ⟨.value f, args, ats⟩, type, pos, after, guard⟩).run C.P w = .ok (.enter k (args.map a.eval ++ cap)) w := by
  intro cap he
  simp only [execOp, resolve, Deferred.ofValue, he, Sem.run_bind, Sem.run_pure, Result.andThen_ok, invoke]
  rw [hk]
  simp
 split at hc
 ·rename_i k' cs hev
  simp only [Option.some.injEq, Prod.mk.injEq] at hc
  obtain ⟨rfl, rfl⟩ := hc
  rw [hev] at hf
  obtain ⟨vs, h1, h2⟩ := hf
  refine ⟨args.toList.map a.eval ++ vs, ?_, hargs.append (ARs_map_p.2 h2)⟩
  rw [run vs.toArray h1]
  congr 2
  apply Array.ext'; simp
 ·rename_i k' cs hev
  simp only [Option.some.injEq, Prod.mk.injEq] at hc
  obtain ⟨rfl, rfl⟩ := hc
  rw [hev] at hf
  obtain ⟨vs, h1, h2⟩ := hf
  refine ⟨args.toList.map a.eval ++ vs, ?_, hargs.append h2⟩
  rw [run vs.toArray h1]
  congr 2
  apply Array.ext'; simp
 ·cases hc
theorem Fr.ev {X : Nat → Prop} {inj : Inj} {σ : Nat → AO} {w w' : World} (h : Fr D w w') : Ev D X inj σ w inj σ w' :=
 ⟨h.os, h.tape, h.output, h.dr, h.size, h.fz, fun b hb _ => h.blk b hb, fun _ hf => .inl hf, fun l => (OEv.refl _).of fun _ => rfl⟩
theorem HR.fr {X : Nat → Prop} {inj : Inj} {σ : Nat → AO} {w w' : World} (h : HR X inj σ w) (hf : Fr D w w') : HR X inj σ w' := by
 refine ⟨fun l o ho => ?_, h.inj1, fun b hb => Nat.lt_of_lt_of_le (h.xlt b hb) hf.size⟩
 have h0 := h.obj l o ho
 have hev : Ev D X inj σ w inj σ w' := hf.ev
 cases o with
 | dead g => trivial
 | arr e sz g es =>
  obtain ⟨vs, h1, h2, h3, h4⟩ := h0
  refine ⟨vs, ARs.ev hev h.xlt es vs h1, h2, h3, ?_⟩
  rcases h4 with h4 | ⟨b, c, cur, h5, h6, h7, h8⟩
  ·exact .inl h4
  ·exact .inr ⟨b, c, cur, h5, h6, by rw [hf.blk b (Array.getElem?_eq_some_iff.1 h7).1]; exact h7, h8⟩
 | map g ks vs =>
  obtain ⟨b, c, ms, clock, h5, h6, h7, h8, h9⟩ := h0
  exact ⟨b, c, ms, clock, h5, h6, by rw [hf.blk b (Array.getElem?_eq_some_iff.1 h7).1]; exact h7, ARs.ev hev h.xlt ks _ h8, ARs.ev hev h.xlt vs _ h9⟩
theorem AL_call {ops : Array Oper} {o : Oper} {rest : List Oper} {f : Operand} {args : Array Operand} {ats : Array TypeId} {k : FuncId} {avs : List AV} {pargs : List PV} {r : PV}
  (hp : Pure C.D C.P k pargs r) (ho : o.op = .call ⟨.value f, args, ats⟩) (hg : guardA ops st.env o = some true) (hd : dstOk C.N o = true) (hk : HasBody C.P k)
  (hc : callArgs st.env f args.toList = some (k, avs)) (hv : (viewAll (view (fun _ => true) 9) avs).run st.sig = some pargs) (hfl : (allP avs).isSome = true ∨ r.flat = true)
  (h : AL C ops rest Q ⟨putE st.env o.dst (.p r), st.heap⟩) : AL C ops (o :: rest) Q st := by
 intro inj a w hs
 simp only [wpList, guard_sound hs hg, if_true]
 refine .inl ?_
 obtain ⟨vs, hrun, hars⟩ := call_run hs ho hk hc
 unfold Oper.wp
 rw [hrun]
 simp only [Oper.upon]
 rcases hfl with hfl | hfl
 ·obtain ⟨xs, hxs⟩ := Option.isSome_iff_exists.1 hfl
  have hav := allP_eq hxs
  subst hav
  rw [viewAll_p] at hv
  simp only [L.run_ret, Option.some.injEq] at hv
  subst hv
  refine (hp (fun b => C.X b ∨ F inj st.sig b) w vs (fun b hb => hb.elim (hs.hr.xlt b) fun hf => (hs.hr.flt hf).1) (tab_ev hs.ev) (ARs_map_p.1 hars)).mono ?_
  rintro e w' ⟨v, rfl, h1, h2⟩
  exact h inj _ _ (hs.put (u := none) hd (hs.hr.fr h2) h2.ev h1)
 ·have hpr := viewAll_sound (view_sound hs.hr (fun _ => true) 9) avs vs pargs hars hv
  have hpr' : PRs C.X w pargs vs := PRs.keep ⟨Nat.le_refl _, fun _ _ _ => rfl, fun b _ hx hn => hx (.inl hn)⟩ pargs vs hpr
  refine (hp C.X w vs hs.hr.xlt ((tab_ev hs.ev).keep ⟨Nat.le_refl _, fun _ _ _ => rfl, fun b _ hx hn => hx (.inl hn)⟩) hpr').mono ?_
  rintro e w' ⟨v, rfl, h1, h2⟩
  exact h inj _ _ (hs.put (u := none) hd (hs.hr.fr h2) h2.ev (PR.flat r v hfl h1))
end Go.Ab
