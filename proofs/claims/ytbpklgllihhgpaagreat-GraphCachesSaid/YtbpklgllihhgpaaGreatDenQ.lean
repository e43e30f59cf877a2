/- A region that draws its order: the invariant, and the steps that turn no old memory. -/
import Derived.Test.YtbpklgllihhgpaaGreatDenP
namespace Go.Den
variable {P : Program}

/-- what is there: in the memory that the text has come to before effect p, or laid ahead of it -/
def Pres (base : Nat) (M : Nat → Mem) (kd : Nat → Kd) (S : Array Bool) (p b : Nat) (o : Ob) : Prop :=
  (M p).t.get b = some o ∨ ∃ j, p ≤ j ∧ kd j = .new ∧ S.getD j false = true ∧ b = base + j ∧ (M (j + 1)).t.get b = some o

structure Inv (P : Program) (ops : Array Oper) (base : Nat) (E : Nat → Env) (M : Nat → Mem) (kd : Nat → Kd) (α0 : AM) (w0 : World) (ds : List Deferred) (S : Array Bool) (a : Act) (w : World) (α : AM) (p : Nat) : Prop where
  size : S.size = ops.size
  down : Down ops fun i => S.getD i false
  p1 : ∀ e, e < p → kd e = .eff → S.getD e false = true
  ple : p ≤ ops.size
  p2 : p < ops.size → kd p = .eff
  p3 : ∀ e, p ≤ e → kd e = .eff → S.getD e false = false
  tsize : a.tmps.size = (E 0).n
  env : ∀ t, t < (E 0).n → VR α (valS ops E (fun i => S.getD i false) t) (a.tmps.getD t undef)
  defers : a.defers = ds
  dom : ∀ b L, α b = some L → b < (M p).next ∧ L.blk < w.heap.size
  obj : ∀ b o L, (M p).t.get b = some o → α b = some L → ObR P α L w o
  inj : ∀ b b' o o' L L', Pres base M kd S p b o → Live o → α b = some L → Pres base M kd S p b' o' → Live o' → α b' = some L' → L.blk = L'.blk → b = b'
  top : ∀ i, i ≤ p → ∀ b, (M i).next ≤ b → (M i).t.get b = none
  fl : ∀ j, p ≤ j → kd j = .new → S.getD j false = true → ∃ L o, α (base + j) = some L ∧ (M (j + 1)).t.get (base + j) = some o ∧ Live o ∧ ObR P α L w o
  later : ∀ i, i ≤ p → ∀ j, i ≤ j → kd j = .new → (M i).t.get (base + j) = none
  gone : ∀ j, kd j = .new → S.getD j false = false → α (base + j) = none
  ghost : ∀ j, j < p → kd j = .new → S.getD j false = false → (M p).t.get (base + j) = (M (j + 1)).t.get (base + j)
  le0 : Le α0 α
  old0 : ∀ b, b < base → α b = α0 b
  os : w.os = w0.os
  tape : w.tape = w0.tape
  output : w.output = w0.output
  size0 : w0.heap.size ≤ w.heap.size
  frame : ∀ cb, cb < w0.heap.size → ¬ InR α0 (M 0) cb → w.heap[cb]? = w0.heap[cb]?
  rng : ∀ b o L, Pres base M kd S p b o → Live o → α b = some L → InR α0 (M 0) L.blk ∨ w0.heap.size ≤ L.blk
  ghost0 : ∀ b, b < base → (α0 b = none ∨ (M 0).t.get b = none) → (M p).t.get b = (M 0).t.get b

theorem set_eq (S : Array Bool) (i j : Nat) (hi : i < S.size) : (S.setIfInBounds i true).getD j false = if j = i then true else S.getD j false := by
  by_cases e : j = i
  · subst e; rw [if_pos rfl]; simp [hi]
  · rw [if_neg e, getD_set_ne _ (Ne.symm e)]
theorem set_false {S : Array Bool} {i j : Nat} (hi : i < S.size) (h : (S.setIfInBounds i true).getD j false = false) : j ≠ i ∧ S.getD j false = false := by
  rw [set_eq S i j hi] at h
  by_cases e : j = i
  · rw [if_pos e] at h; cases h
  · rw [if_neg e] at h; exact ⟨e, h⟩
theorem set_true {S : Array Bool} {i j : Nat} (hi : i < S.size) (h : S.getD j false = true) : (S.setIfInBounds i true).getD j false = true := by
  rw [set_eq S i j hi]
  split
  · rfl
  · exact h

theorem dstIdx_spec {t : Nat} : ∀ (l : List Oper) (k j : Nat), dstIdx l t k = some j → k ≤ j ∧ ∃ o, l[j - k]? = some o ∧ o.dst = some t
  | [], _, _, h => by cases h
  | o :: rest, k, j, h => by
    unfold dstIdx at h
    have hrec : dstIdx rest t (k + 1) = some j → k ≤ j ∧ ∃ o', (o :: rest)[j - k]? = some o' ∧ o'.dst = some t := by
      intro h
      obtain ⟨h1, o', h2, h3⟩ := dstIdx_spec rest (k + 1) j h
      refine ⟨by omega, o', ?_, h3⟩
      rw [show j - k = (j - (k + 1)) + 1 from by omega]
      simpa using h2
    split at h
    · rename_i d hd
      cases hb : Nat.beq d t with
      | true =>
        rw [hb, cond_true] at h
        cases h
        exact ⟨Nat.le_refl _, o, by simp, by rw [hd, Nat.eq_of_beq_eq_true hb]⟩
      | false => rw [hb, cond_false] at h; exact hrec h
    · exact hrec h

section
variable {self : Self} {ops : Array Oper} {base : Nat} {E : Nat → Env} {M : Nat → Mem} {kd : Nat → Kd} (D : DR P self ops base E M kd)
  {α0 : AM} {w0 : World} {ds : List Deferred} {S : Array Bool} {a : Act} {w : World} {α : AM} {p i : Nat} {o : Oper}
include D

/-- what is ready to run: its operands read as the text has them -/
theorem Inv.eget (_ : Inv P ops base E M kd α0 w0 ds S a w α p) (hi : i < ops.size) (hni : S.getD i false = false) {t : Nat}
    (h : ∀ j, dstIdx ops.toList t 0 = some j → j = i ∨ (j < i ∧ S.getD j false = true) ∨ (i < j ∧ S.getD j false = false)) :
    (E i).get t = valS ops E (fun i => S.getD i false) t := by
  rw [D.Eget (Nat.le_of_lt hi)]
  unfold valS
  cases hd : dstIdx ops.toList t 0 with
  | none => rfl
  | some j =>
    simp only []
    rcases h j hd with rfl | ⟨h1, h2⟩ | ⟨h1, h2⟩
    · rw [if_neg (Nat.lt_irrefl _), hni]; rfl
    · rw [if_pos h1, h2]; rfl
    · rw [if_neg (by omega), h2]; rfl
theorem Inv.operands (I : Inv P ops base E M kd α0 w0 ds S a w α p) (ho : ops[i]? = some o) (hni : S.getD i false = false) (hrd : ∀ e ∈ o.after.toList, Region.binds .any e = true → S.getD e.on false = true) :
    ∀ x ∈ o.op.operands, opOK (E i) x = true → VR α (ev (E i) x) (a.eval x) := by
  have hi : i < ops.size := (Array.getElem?_eq_some_iff.1 ho).1
  intro x hx hok
  cases x with
  | tmp t =>
    have hst := D.stat i o ho
    unfold statOp at hst
    simp only [Bool.and_eq_true] at hst
    have hst := List.all_eq_true.1 hst.1.1.2 (.tmp t) (by simpa using hx)
    have hn : t < (E i).n := blt_iff.1 hok
    rw [D.En0 (Nat.le_of_lt hi)] at hn
    have e : (E i).get t = valS ops E (fun i => S.getD i false) t := by
      refine I.eget D hi hni fun j hj => ?_
      simp only [hj, Bool.or_eq_true, Bool.and_eq_true] at hst
      rcases hst with (hst | ⟨h1, h2⟩) | ⟨h1, h2⟩
      · exact .inl (Nat.eq_of_beq_eq_true hst)
      · obtain ⟨e, he, hb, rfl⟩ := hasEdge_iff.1 h2
        exact .inr (.inl ⟨blt_iff.1 h1, hrd e he hb⟩)
      · refine .inr (.inr ⟨blt_iff.1 h1, ?_⟩)
        split at h2
        · rename_i q hq
          obtain ⟨e, he, hb, hon⟩ := hasEdge_iff.1 h2
          cases hS : S.getD j false with
          | false => rfl
          | true =>
            have := I.down j q (by simpa using hq) hS e he hb
            rw [hon] at this
            simp only [hni] at this
            cases this
        · cases h2
    show VR α ((E i).get t) (a.tmps.getD t undef)
    rw [e]
    exact I.env t hn
  | const v => exact VR.refl hok
  | global g => cases hok
  | func f => exact .func rfl rfl (fun i h => absurd h (Nat.not_lt_zero _)) (fun i h => absurd h (Nat.not_lt_zero _))
theorem Inv.want (I : Inv P ops base E M kd α0 w0 ds S a w α p) (ho : ops[i]? = some o) (hni : S.getD i false = false) (hrd : ∀ e ∈ o.after.toList, Region.binds .any e = true → S.getD e.on false = true) :
    wantE ops (E i) o = Region.wanted o (yielded ops a.tmps) := by
  have hi : i < ops.size := (Array.getElem?_eq_some_iff.1 ho).1
  have hn := D.En0 (Nat.le_of_lt hi)
  refine wantE_eq' (α := α) o (by rw [hn]; exact I.tsize) ?_
  intro j want o' d hg hj hd hlt
  have hst := D.stat i o ho
  unfold statOp at hst
  simp only [Bool.and_eq_true] at hst
  have hst := hst.1.2
  rw [hg] at hst
  simp only [Bool.and_eq_true] at hst
  have hdi := D.dst hj hd
  rw [I.eget D hi hni fun k hk => by
    rw [hdi] at hk; cases hk
    obtain ⟨e, he, hb, rfl⟩ := hasEdge_iff.1 hst.2
    exact .inr (.inl ⟨blt_iff.1 hst.1, hrd e he hb⟩)]
  exact I.env d (by rw [← hn]; exact hlt)

/-- the names, one operation further -/
theorem Inv.envStep (I : Inv P ops base E M kd α0 w0 ds S a w α p) (ho : ops[i]? = some o) {β : AM} (hle : Le α β) {v v' : Value} (hE : E (i + 1) = (E i).put' o.dst v) (hv : VR β v v') :
    (a.put o.dst v').tmps.size = (E 0).n ∧ ∀ t, t < (E 0).n → VR β (valS ops E (fun j => (S.setIfInBounds i true).getD j false) t) ((a.put o.dst v').tmps.getD t undef) := by
  have hi : i < ops.size := (Array.getElem?_eq_some_iff.1 ho).1
  have hiS : i < S.size := by rw [I.size]; exact hi
  have hn := D.En0 (Nat.le_of_lt hi)
  have hsz : (a.put o.dst v').tmps.size = (E 0).n := by
    unfold Act.put
    split <;> simp [I.tsize]
  refine ⟨hsz, fun t ht => ?_⟩
  by_cases e : o.dst = some t
  · have hd := D.dst ho e
    have e1 : valS ops E (fun j => (S.setIfInBounds i true).getD j false) t = v := by
      unfold valS
      rw [hd]
      simp only [set_eq S i i hiS, if_true, cond_true]
      have := D.Eget (t := t) (i := i + 1) (by omega)
      rw [hd] at this
      simp only [Nat.lt_succ_self, if_true] at this
      rw [← this, hE, e]
      exact put'_self _ _ _ (by rw [hn]; exact ht)
    rw [e1]
    have : t < a.tmps.size := by rw [I.tsize]; exact ht
    unfold Act.put
    rw [e]
    simpa [this] using hv
  · have e1 : valS ops E (fun j => (S.setIfInBounds i true).getD j false) t = valS ops E (fun j => S.getD j false) t := by
      unfold valS
      cases hd : dstIdx ops.toList t 0 with
      | none => rfl
      | some j =>
        have hne : j ≠ i := by
          rintro rfl
          obtain ⟨_, o2, h1, h2⟩ := dstIdx_spec _ _ _ hd
          have : ops[j]? = some o2 := by simpa using h1
          rw [ho] at this
          cases this
          exact e h2
        simp only [set_eq S i j hiS, if_neg hne]
    rw [e1]
    have := (I.env t ht).mono hle
    unfold Act.put
    split
    · rename_i d hd
      have hne : d ≠ t := fun h => e (by rw [hd, h])
      simpa [Array.getElem?_setIfInBounds, hne] using this
    · exact this

omit D in
theorem Inv.downStep (I : Inv P ops base E M kd α0 w0 ds S a w α p) (ho : ops[i]? = some o) (hrd : ∀ e ∈ o.after.toList, Region.binds .any e = true → S.getD e.on false = true) :
    Down ops fun j => (S.setIfInBounds i true).getD j false := by
  have hi : i < ops.size := (Array.getElem?_eq_some_iff.1 ho).1
  have hiS : i < S.size := by rw [I.size]; exact hi
  intro j q hq hj e he hb
  simp only at hj ⊢
  rw [set_eq S i j hiS] at hj
  by_cases hji : j = i
  · subst hji
    rw [ho] at hq
    cases hq
    exact set_true hiS (hrd e he hb)
  · rw [if_neg hji] at hj
    exact set_true hiS (I.down j q hq hj e he hb)

/-- a step that turns no memory -/
theorem Inv.quiet (I : Inv P ops base E M kd α0 w0 ds S a w α p) (ho : ops[i]? = some o) (hrd : ∀ e ∈ o.after.toList, Region.binds .any e = true → S.getD e.on false = true)
    (h1 : kd i ≠ .eff) (h2 : kd i ≠ .new) {v v' : Value} (hE : E (i + 1) = (E i).put' o.dst v) (hv : VR α v v') : Inv P ops base E M kd α0 w0 ds (S.setIfInBounds i true) (a.put o.dst v') w α p := by
  have hi : i < ops.size := (Array.getElem?_eq_some_iff.1 ho).1
  have hiS : i < S.size := by rw [I.size]; exact hi
  obtain ⟨he1, he2⟩ := I.envStep D ho (.refl _) hE hv
  have back : ∀ j, kd j = .new → (S.setIfInBounds i true).getD j false = true → S.getD j false = true := by
    intro j hj h
    rw [set_eq S i j hiS, if_neg (fun e => h2 (by rw [← e]; exact hj))] at h
    exact h
  have pb : ∀ {b ob}, Pres base M kd (S.setIfInBounds i true) p b ob → Pres base M kd S p b ob := by
    rintro b ob (h | ⟨j, a1, a2, a3, a4⟩)
    · exact .inl h
    · exact .inr ⟨j, a1, a2, back j a2 a3, a4⟩
  exact
    { size := by simp [I.size]
      down := I.downStep ho hrd
      p1 := fun e he hk => set_true hiS (I.p1 e he hk)
      ple := I.ple
      p2 := I.p2
      p3 := fun e he hk => by rw [set_eq S i e hiS, if_neg (fun h => h1 (by rw [← h]; exact hk))]; exact I.p3 e he hk
      tsize := he1
      env := he2
      defers := by rw [put_defers]; exact I.defers
      dom := I.dom
      obj := I.obj
      inj := fun b b' o o' L L' x1 x2 x3 y1 y2 y3 e => I.inj b b' o o' L L' (pb x1) x2 x3 (pb y1) y2 y3 e
      top := I.top
      fl := fun j a1 a2 a3 => I.fl j a1 a2 (back j a2 a3)
      later := I.later
      gone := fun j a1 a2 => I.gone j a1 (set_false hiS a2).2
      ghost := fun j a1 a2 a3 => I.ghost j a1 a2 (set_false hiS a3).2
      le0 := I.le0, old0 := I.old0, os := I.os, tape := I.tape, output := I.output, size0 := I.size0, frame := I.frame
      rng := fun b o L x1 x2 x3 => I.rng b o L (pb x1) x2 x3
      ghost0 := I.ghost0 }

/-- a step that lays one new block -/
theorem Inv.new (I : Inv P ops base E M kd α0 w0 ds S a w α p) (ho : ops[i]? = some o) (hni : S.getD i false = false) (hrd : ∀ e ∈ o.after.toList, Region.binds .any e = true → S.getD e.on false = true)
    (h1 : kd i = .new) {v v' : Value} {ob : Ob} {o' : Obj} {L : Loc} (hE : E (i + 1) = (E i).put' o.dst v) (hM : (M (i + 1)).t.get (base + i) = some ob) (hL : L.blk = w.heap.size) (hv : VR (ext α (base + i) L) v v')
    (hob : ObR P (ext α (base + i) L) L (w.alloc o') ob) (hlive : Live ob) :
    Inv P ops base E M kd α0 w0 ds (S.setIfInBounds i true) (a.put o.dst v') (w.alloc o') (ext α (base + i) L) p := by
  have hi : i < ops.size := (Array.getElem?_eq_some_iff.1 ho).1
  have hiS : i < S.size := by rw [I.size]; exact hi
  have hgone := I.gone i h1 hni
  have hle := le_ext' hgone L
  have hnew : ∀ k, k < w.heap.size → (w.alloc o').heap[k]? = w.heap[k]? := fun k hk => by
    show (w.heap.push o')[k]? = _
    rw [Array.getElem?_push, if_neg (by omega)]
  have hsz : (w.alloc o').heap.size = w.heap.size + 1 := by
    show (w.heap.push o').size = _
    simp
  obtain ⟨he1, he2⟩ := I.envStep D ho hle hE hv
  have back : ∀ {b L2}, ext α (base + i) L b = some L2 → (b = base + i ∧ L2 = L) ∨ (b ≠ base + i ∧ α b = some L2) := by
    intro b L2 h
    by_cases e : b = base + i
    · subst e; rw [ext_self] at h; cases h; exact .inl ⟨rfl, rfl⟩
    · rw [ext_ne _ _ e] at h; exact .inr ⟨e, h⟩
  have pb : ∀ {b ob2}, b ≠ base + i → Pres base M kd (S.setIfInBounds i true) p b ob2 → Pres base M kd S p b ob2 := by
    rintro b ob2 hne (h | ⟨j, a1, a2, a3, a4, a5⟩)
    · exact .inl h
    · refine .inr ⟨j, a1, a2, ?_, a4, a5⟩
      rw [set_eq S i j hiS, if_neg (by omega)] at a3
      exact a3
  exact
    { size := by simp [I.size]
      down := I.downStep ho hrd
      p1 := fun e he hk => set_true hiS (I.p1 e he hk)
      ple := I.ple
      p2 := I.p2
      p3 := fun e he hk => by rw [set_eq S i e hiS, if_neg (fun h => by rw [h, h1] at hk; cases hk)]; exact I.p3 e he hk
      tsize := he1
      env := he2
      defers := by rw [put_defers]; exact I.defers
      dom := fun b L2 h => by
        rcases back h with ⟨rfl, rfl⟩ | ⟨_, h⟩
        · exact ⟨D.base_le I.ple hi, by rw [hsz]; omega⟩
        · have := I.dom _ _ h; exact ⟨this.1, by rw [hsz]; omega⟩
      obj := fun b o2 L2 hb h => by
        rcases back h with ⟨rfl, rfl⟩ | ⟨_, h⟩
        · rcases Nat.lt_or_ge i p with hip | hip
          · rw [I.ghost i hip h1 hni, hM] at hb; cases hb; exact hob
          · rw [I.later p (Nat.le_refl _) i hip h1] at hb; cases hb
        · exact ((I.obj b o2 L2 hb h).heap (hnew _ (I.dom _ _ h).2)).mono hle
      inj := fun b b' o1 o2 L1 L2 x1 x2 x3 y1 y2 y3 e => by
        rcases back x3 with ⟨e1, f1⟩ | ⟨e1, z1⟩ <;> rcases back y3 with ⟨e2, f2⟩ | ⟨e2, z2⟩
        · rw [e1, e2]
        · have := (I.dom _ _ z2).2; rw [f1] at e; omega
        · have := (I.dom _ _ z1).2; rw [f2] at e; omega
        · exact I.inj b b' o1 o2 L1 L2 (pb e1 x1) x2 z1 (pb e2 y1) y2 z2 e
      top := I.top
      fl := fun j a1 a2 a3 => by
        by_cases e : j = i
        · subst e; exact ⟨L, ob, ext_self _ _ _, hM, hlive, hob⟩
        · rw [set_eq S i j hiS, if_neg e] at a3
          obtain ⟨L2, o2, b1, b2, b3, b4⟩ := I.fl j a1 a2 a3
          exact ⟨L2, o2, hle _ _ b1, b2, b3, (b4.heap (hnew _ (I.dom _ _ b1).2)).mono hle⟩
      later := I.later
      gone := fun j a1 a2 => by
        have := set_false hiS a2
        rw [ext_ne _ _ (by omega)]
        exact I.gone j a1 this.2
      ghost := fun j a1 a2 a3 => I.ghost j a1 a2 (set_false hiS a3).2
      le0 := I.le0.trans hle
      old0 := fun b hb => by rw [ext_ne _ _ (by omega)]; exact I.old0 b hb
      os := I.os, tape := I.tape, output := I.output
      size0 := by rw [hsz]; have := I.size0; omega
      frame := fun cb hcb hn => (hnew _ (Nat.lt_of_lt_of_le hcb I.size0)).trans (I.frame cb hcb hn)
      rng := fun b o2 L2 x1 x2 x3 => by
        rcases back x3 with ⟨_, rfl⟩ | ⟨e1, x3⟩
        · exact .inr (by rw [hL]; exact I.size0)
        · exact I.rng b o2 L2 (pb e1 x1) x2 x3
      ghost0 := I.ghost0 }
end
end Go.Den
