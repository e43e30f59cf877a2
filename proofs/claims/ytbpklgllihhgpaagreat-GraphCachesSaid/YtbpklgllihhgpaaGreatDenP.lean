/- A region that draws its order: whatever the order, it comes to what the order of the text comes to. -/
import Derived.Test.YtbpklgllihhgpaaGreatDenO
namespace Go.Den
variable {P : Program}

inductive Path (ops : Array Oper) : Nat → Nat → Prop where
  | one {j : Nat} {o : Oper} {e : Edge} (ho : ops[j]? = some o) (he : e ∈ o.after.toList) (hb : Region.binds .any e = true) : Path ops j e.on
  | step {i j k : Nat} (h : Path ops i j) (h' : Path ops j k) : Path ops i k

def Down (ops : Array Oper) (S : Nat → Bool) : Prop := ∀ j o, ops[j]? = some o → S j = true → ∀ e ∈ o.after.toList, Region.binds .any e = true → S e.on = true
theorem Down.path {ops : Array Oper} {S : Nat → Bool} (h : Down ops S) {j i : Nat} (p : Path ops j i) : S j = true → S i = true := by
  induction p with
  | one ho he hb => exact fun hj => h _ _ ho hj _ he hb
  | step _ _ ih ih' => exact fun hj => ih' (ih hj)
theorem hasEdge_iff {o : Oper} {j : Nat} : hasEdge o j = true ↔ ∃ e ∈ o.after.toList, Region.binds .any e = true ∧ e.on = j := by
  unfold hasEdge
  rw [List.any_eq_true]
  constructor
  · rintro ⟨e, he, h⟩
    simp only [Bool.and_eq_true] at h
    exact ⟨e, he, h.1, Nat.eq_of_beq_eq_true h.2⟩
  · rintro ⟨e, he, h1, h2⟩
    exact ⟨e, he, by simp [h1, h2]⟩

/-- What two blocks say of memory is the same. -/
def EqOb (P : Program) (a b : Option Ob) : Prop := (∃ o, a = some o) ∧ (∃ o, b = some o) ∧ ∀ (α : AM) (L : Loc) (w : World), (∃ o, a = some o ∧ ObR P α L w o) ↔ ∃ o, b = some o ∧ ObR P α L w o

inductive Stepd (P : Program) (self : Self) (ops : Array Oper) (o : Oper) (id : Nat) (E : Env) (m : Mem) : Kd → Env → Mem → Prop where
  | skip (hw : wantE ops E o = false) : Stepd P self ops o id E m .skip (E.put' o.dst undef) m
  | quiet {v : Value} (hw : wantE ops E o = true) (h : quietV P E o m = some v) : Stepd P self ops o id E m (.quiet (foot E o.op)) (E.put' o.dst v) m
  | new {v : Value} {ob : Ob} (hw : wantE ops E o = true) (h : newV P E o id = some (v, ob)) : Stepd P self ops o id E m .new (E.put' o.dst v) ⟨Tr.set (id + 1) m.t id ob, m.next⟩
  | eff {v : Value} {m' : Mem} (hw : wantE ops E o = true) (h : evOp P self E o m = some (E.put' o.dst v, m')) (hle : m.next ≤ m'.next) : Stepd P self ops o id E m .eff (E.put' o.dst v) m'

structure DR (P : Program) (slf : Self) (ops : Array Oper) (base : Nat) (E : Nat → Env) (M : Nat → Mem) (kd : Nat → Kd) : Prop where
  step : ∀ i o, ops[i]? = some o → Stepd P slf ops o (base + i) (E i) (M i) (kd i) (E (i + 1)) (M (i + 1))
  far : ∀ i, ops.size ≤ i → kd i = .skip
  stat : ∀ i o, ops[i]? = some o → statOp ops.toList o i = true
  chain : ∀ i j, i < j → kd i = .eff → kd j = .eff → Path ops j i
  stable : ∀ i b, kd i = .quiet (some b) → ∀ e, kd e = .eff → e ≠ i → (i < e ∧ Path ops e i) ∨ (e < i ∧ Path ops i e) ∨ (M e).next ≤ b ∨ EqOb P ((M e).t.get b) ((M (e + 1)).t.get b)
  next0 : (M 0).next = base + ops.size

section
variable {self : Self} {ops : Array Oper} {base : Nat} {E : Nat → Env} {M : Nat → Mem} {kd : Nat → Kd} (D : DR P self ops base E M kd)
include D

theorem DR.lt {i : Nat} (h : kd i ≠ .skip) : i < ops.size := by
  rcases Nat.lt_or_ge i ops.size with h' | h'
  · exact h'
  · exact absurd (D.far i h') h
omit D in
theorem opAt {i : Nat} (h : i < ops.size) : ∃ o, ops[i]? = some o := ⟨ops[i], Array.getElem?_eq_getElem h⟩
theorem DR.next_le {i : Nat} (h : i < ops.size) : (M i).next ≤ (M (i + 1)).next := by
  obtain ⟨o, ho⟩ := opAt h
  have := D.step i o ho
  generalize M (i + 1) = m' at *
  generalize E (i + 1) = e' at *
  generalize kd i = k at *
  cases this with
  | skip => exact Nat.le_refl _
  | quiet => exact Nat.le_refl _
  | new => exact Nat.le_refl _
  | eff _ _ h => exact h
theorem DR.next_mono {i j : Nat} (h : i ≤ j) (hj : j ≤ ops.size) : (M i).next ≤ (M j).next := by
  induction h with
  | refl => exact Nat.le_refl _
  | step _ ih => exact Nat.le_trans (ih (by omega)) (D.next_le (by omega))
theorem DR.base_le {i j : Nat} (hj : j ≤ ops.size) (hi : i < ops.size) : base + i < (M j).next := by
  have := D.next_mono (Nat.zero_le j) hj
  rw [D.next0] at this
  omega
/-- a step that is no effect turns its own name alone -/
theorem DR.float {i : Nat} (h : kd i ≠ .eff) (hi : i < ops.size) : (M (i + 1)).next = (M i).next ∧ ∀ b, (b ≠ base + i ∨ kd i ≠ .new) → (M (i + 1)).t.get b = (M i).t.get b := by
  obtain ⟨o, ho⟩ := opAt hi
  have := D.step i o ho
  generalize M (i + 1) = m' at *
  generalize E (i + 1) = e' at *
  generalize kd i = k at *
  cases this with
  | skip => exact ⟨rfl, fun _ _ => rfl⟩
  | quiet => exact ⟨rfl, fun _ _ => rfl⟩
  | new =>
    refine ⟨rfl, fun b hb => ?_⟩
    have hb : b ≠ base + i := hb.resolve_right (fun h => h rfl)
    dsimp only
    rw [get_put, if_neg hb]
  | eff => exact absurd rfl h
theorem DR.floats {i j : Nat} (hij : i ≤ j) (hj : j ≤ ops.size) (h : ∀ k, i ≤ k → k < j → kd k ≠ .eff) :
    (M j).next = (M i).next ∧ ∀ b, (∀ k, i ≤ k → k < j → kd k = .new → b ≠ base + k) → (M j).t.get b = (M i).t.get b := by
  induction hij with
  | refl => exact ⟨rfl, fun _ _ => rfl⟩
  | @step j hij ih =>
    obtain ⟨h1, h2⟩ := ih (by omega) fun k a b => h k a (by omega)
    obtain ⟨h3, h4⟩ := D.float (h j hij (by omega)) (by omega)
    refine ⟨h3.trans h1, fun b hb => ?_⟩
    rw [h4 b, h2 b fun k a c d => hb k a (by omega) d]
    by_cases e : kd j = .new
    · exact .inl (hb j hij (by omega) e)
    · exact .inr e

theorem DR.En {i : Nat} (h : i < ops.size) : (E (i + 1)).n = (E i).n := by
  obtain ⟨o, ho⟩ := opAt h
  have key : ∀ (x : Env) (d : Option Tmp) (v : Value), (x.put' d v).n = x.n := by
    intro x d v
    unfold Env.put'
    cases d with
    | none => rfl
    | some d => simp only []; cases Nat.blt d x.n <;> rfl
  have := D.step i o ho
  generalize M (i + 1) = m' at *
  generalize E (i + 1) = e' at *
  generalize kd i = k at *
  cases this <;> exact key _ _ _
theorem DR.En0 {i : Nat} (h : i ≤ ops.size) : (E i).n = (E 0).n := by
  induction i with
  | zero => rfl
  | succ i ih => exact (D.En (by omega)).trans (ih (by omega))
omit D in
theorem put'_get (x : Env) (d : Option Tmp) (v : Value) (t : Nat) (h : d ≠ some t) : (x.put' d v).get t = x.get t := by
  unfold Env.put'
  cases d with
  | none => rfl
  | some d =>
    have hne : t ≠ d := fun e => h (by rw [e])
    simp only []
    cases Nat.blt d x.n with
    | false => rfl
    | true => simp only [cond_true, Env.get, Tr.get_set _ _ _ _ _ (Nat.lt_succ_self d), if_neg hne]
omit D in
theorem put'_self (x : Env) (t : Nat) (v : Value) (h : t < x.n) : (x.put' (some t) v).get t = v := by
  unfold Env.put'
  simp only [blt_iff.2 h, cond_true, Env.get, Tr.get_set _ _ _ _ _ (Nat.lt_succ_self t), if_true]
theorem DR.Eget1 {i t : Nat} {o : Oper} (ho : ops[i]? = some o) (h : o.dst ≠ some t) : (E (i + 1)).get t = (E i).get t := by
  have := D.step i o ho
  generalize M (i + 1) = m' at *
  generalize E (i + 1) = e' at *
  generalize kd i = k at *
  cases this <;> exact put'_get _ _ _ _ h
end

/-- what a name holds when the operations S have been done -/
noncomputable def valS (ops : Array Oper) (E : Nat → Env) (S : Nat → Bool) (t : Nat) : Value :=
  match dstIdx ops.toList t 0 with
  | some j => bif S j then (E ops.size).get t else (E 0).get t
  | none => (E 0).get t

section
variable {self : Self} {ops : Array Oper} {base : Nat} {E : Nat → Env} {M : Nat → Mem} {kd : Nat → Kd} (D : DR P self ops base E M kd)
include D
theorem DR.dst {i t : Nat} {o : Oper} (ho : ops[i]? = some o) (h : o.dst = some t) : dstIdx ops.toList t 0 = some i := by
  have := D.stat i o ho
  unfold statOp at this
  simp only [Bool.and_eq_true] at this
  have := this.1.1.1.2
  rw [h] at this
  simpa using this
theorem DR.Eget {t : Nat} : ∀ {i : Nat}, i ≤ ops.size → (E i).get t = match dstIdx ops.toList t 0 with | some j => (if j < i then (E ops.size).get t else (E 0).get t) | none => (E 0).get t := by
  -- forward: unchanged till its own step; behind it unchanged to the end
  have fwd : ∀ i, i ≤ ops.size → (∀ j, dstIdx ops.toList t 0 = some j → ¬ j < i) → (E i).get t = (E 0).get t := by
    intro i
    induction i with
    | zero => intro _ _; rfl
    | succ i ih =>
      intro hi h
      obtain ⟨o, ho⟩ := opAt (ops := ops) (i := i) (by omega)
      rw [D.Eget1 ho (fun e => h i (D.dst ho e) (by omega))]
      exact ih (by omega) fun j hj hlt => h j hj (by omega)
  have back : ∀ k i, i + k = ops.size → (∀ j, dstIdx ops.toList t 0 = some j → j < i) → (E i).get t = (E ops.size).get t := by
    intro k
    induction k with
    | zero => intro i hi _; rw [← hi]; rfl
    | succ k ih =>
      intro i hi h
      obtain ⟨o, ho⟩ := opAt (ops := ops) (i := i) (by omega)
      rw [← D.Eget1 ho (fun e => absurd (h i (D.dst ho e)) (by omega))]
      exact ih (i + 1) (by omega) fun j hj => by have := h j hj; omega
  intro i hi
  cases hd : dstIdx ops.toList t 0 with
  | none => exact fwd i hi fun j hj => by rw [hd] at hj; cases hj
  | some j =>
    simp only []
    by_cases hlt : j < i
    · rw [if_pos hlt]
      exact back (ops.size - i) i (by omega) fun j' hj' => by rw [hd] at hj'; cases hj'; exact hlt
    · rw [if_neg hlt]
      exact fwd i hi fun j' hj' => by rw [hd] at hj'; cases hj'; exact hlt
end
end Go.Den
