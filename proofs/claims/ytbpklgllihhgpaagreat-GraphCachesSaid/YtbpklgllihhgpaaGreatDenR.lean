/- A region that draws its order: the step that may turn old memory, and the whole. -/
import Derived.Test.YtbpklgllihhgpaaGreatDenQ
namespace Go.Den
variable {P : Program}

theorem next_eff (kd : Nat → Kd) (n : Nat) : ∀ (k i : Nat), i + k = n → ∃ p, i ≤ p ∧ p ≤ n ∧ (∀ j, i ≤ j → j < p → kd j ≠ .eff) ∧ (p < n → kd p = .eff)
  | 0, i, h => ⟨i, Nat.le_refl _, by omega, fun j a b => by omega, fun h' => by omega⟩
  | k + 1, i, h => by
    by_cases e : kd i = .eff
    · exact ⟨i, Nat.le_refl _, by omega, fun j a b => by omega, fun _ => e⟩
    · obtain ⟨p, h1, h2, h3, h4⟩ := next_eff kd n k (i + 1) (by omega)
      refine ⟨p, by omega, h2, fun j a b => ?_, h4⟩
      by_cases hj : j = i
      · rw [hj]; exact e
      · exact h3 j (by omega) b

section
variable {self : Self} {ops : Array Oper} {base : Nat} {E : Nat → Env} {M : Nat → Mem} {kd : Nat → Kd} (D : DR P self ops base E M kd)
  {α0 : AM} {w0 : World} {ds : List Deferred} {S : Array Bool} {a : Act} {w : World} {α : AM} {p : Nat} {o : Oper}
include D

omit D in
theorem Inv.rel (I : Inv P ops base E M kd α0 w0 ds S a w α p) : Rel P α (M p) w :=
  ⟨I.dom, I.obj, fun b b' o o' L L' x1 x2 x3 y1 y2 y3 e => I.inj b b' o o' L L' (.inl x1) x2 x3 (.inl y1) y2 y3 e, I.top p (Nat.le_refl _)⟩

theorem Inv.eff (I : Inv P ops base E M kd α0 w0 ds S a w α p) (ho : ops[p]? = some o) (hrd : ∀ e ∈ o.after.toList, Region.binds .any e = true → S.getD e.on false = true)
    {β : AM} {w1 : World} {v v' : Value} (hE : E (p + 1) = (E p).put' o.dst v) (hv : VR β v v') (hst : Stp P α (M p) w β (M (p + 1)) w1) :
    ∃ p', Inv P ops base E M kd α0 w0 ds (S.setIfInBounds p true) (a.put o.dst v') w1 β p' := by
  have hp : p < ops.size := (Array.getElem?_eq_some_iff.1 ho).1
  have hpS : p < S.size := by rw [I.size]; exact hp
  obtain ⟨p', q1, q2, q3, q4⟩ := next_eff kd ops.size (ops.size - (p + 1)) (p + 1) (by omega)
  obtain ⟨f1, f2⟩ := D.floats q1 q2 q3
  obtain ⟨he1, he2⟩ := I.envStep D ho hst.le hE hv
  have hSt : ∀ j, j ≠ p → (S.setIfInBounds p true).getD j false = S.getD j false := fun j hj => by rw [set_eq S p j hpS, if_neg hj]
  have bnd : ∀ {j}, kd j = .new → base + j < (M p).next := fun {j} hj => D.base_le I.ple (D.lt (by rw [hj]; intro h; cases h))
  -- a block laid ahead is untouched
  have keep : ∀ j, p ≤ j → kd j = .new → S.getD j false = true → ∃ L o, α (base + j) = some L ∧ β (base + j) = some L ∧ (M (j + 1)).t.get (base + j) = some o ∧ Live o ∧ ObR P β L w1 o ∧ L.blk < w.heap.size ∧ ¬ InR α (M p) L.blk := by
    intro j h1 h2 h3
    obtain ⟨L, o2, r1, r2, r3, r4⟩ := I.fl j h1 h2 h3
    have hlt := (I.dom _ _ r1).2
    have hnot : ¬ InR α (M p) L.blk := by
      rintro ⟨b, o3, L3, s1, s2, s3, s4⟩
      have := I.inj b (base + j) o3 o2 L3 L (.inl s1) s2 s3 (.inr ⟨j, h1, h2, h3, rfl, r2⟩) r3 r1 s4
      rw [this, I.later p (Nat.le_refl _) j h1 h2] at s1
      cases s1
    exact ⟨L, o2, r1, hst.le _ _ r1, r2, r3, (r4.heap (hst.frame _ hlt hnot)).mono hst.le, hlt, hnot⟩
  have mid : ∀ {j}, p < j → j < p' → kd j = .new → (M p').t.get (base + j) = (M (j + 1)).t.get (base + j) := by
    intro j h1 h2 h3
    exact (D.floats (i := j + 1) (j := p') (by omega) q2 fun k a b => q3 k (by omega) b).2 _ fun k a b c => by omega
  have low : ∀ {j}, (j < p ∨ p' ≤ j) → (M p').t.get (base + j) = (M (p + 1)).t.get (base + j) := by
    intro j h
    exact f2 _ fun k a b c => by omega
  have pre : ∀ {j}, j ≠ p → kd j = .new → (j < p → S.getD j false = false) → (M (p + 1)).t.get (base + j) = (M p).t.get (base + j) := by
    intro j hj h1 h2
    refine hst.ghost _ (bnd h1) ?_
    rcases Nat.lt_or_ge j p with h | h
    · exact .inl (I.gone j h1 (h2 h))
    · exact .inr (I.later p (Nat.le_refl _) j h h1)
  -- what is there now: laid ahead, or the effect's
  have cls : ∀ {b ob L}, Pres base M kd (S.setIfInBounds p true) p' b ob → β b = some L → (∃ j, p < j ∧ kd j = .new ∧ S.getD j false = true ∧ b = base + j ∧ (M (j + 1)).t.get b = some ob ∧ α b = some L) ∨ (M (p + 1)).t.get b = some ob := by
    intro b ob L h hL
    rcases h with h | ⟨j, h1, h2, h3, rfl, h5⟩
    · by_cases hf : ∃ j, p < j ∧ j < p' ∧ kd j = .new ∧ b = base + j
      · obtain ⟨j, h1, h2, h3, rfl⟩ := hf
        rw [mid h1 h2 h3] at h
        have hα : α (base + j) = some L := by rw [← hst.old _ (bnd h3)]; exact hL
        refine .inl ⟨j, h1, h3, ?_, rfl, h, hα⟩
        cases hS : S.getD j false with
        | true => rfl
        | false => rw [I.gone j h3 hS] at hα; cases hα
      · rw [f2 b fun k a b' c e => hf ⟨k, a, b', c, e⟩] at h
        exact .inr h
    · refine .inl ⟨j, by omega, h2, ?_, rfl, h5, ?_⟩
      · rw [hSt j (by omega)] at h3; exact h3
      · rw [← hst.old _ (bnd h2)]; exact hL
  have clsRng : ∀ {b ob L}, (M (p + 1)).t.get b = some ob → Live ob → β b = some L → InR α (M p) L.blk ∨ w.heap.size ≤ L.blk := fun h1 h2 h3 => hst.rng _ ⟨_, _, _, h1, h2, h3, rfl⟩
  refine ⟨p',
    { size := by simp [I.size]
      down := I.downStep ho hrd
      p1 := fun e he hke => by
        by_cases h1 : e = p
        · rw [h1, set_eq S p p hpS, if_pos rfl]
        · rcases Nat.lt_or_ge e p with h2 | h2
          · exact set_true hpS (I.p1 e h2 hke)
          · exact absurd hke (q3 e (by omega) he)
      ple := q2
      p2 := q4
      p3 := fun e he hke => by rw [hSt e (by omega)]; exact I.p3 e (by omega) hke
      tsize := he1
      env := he2
      defers := by rw [put_defers]; exact I.defers
      dom := fun b L h => by have := hst.rel.dom b L h; exact ⟨by rw [f1]; exact this.1, this.2⟩
      obj := fun b ob L hb hL => by
        rcases cls (.inl hb) hL with ⟨j, h1, h2, h3, rfl, h5, h6⟩ | h
        · obtain ⟨L2, o2, r1, r2, r3, r4, r5, _⟩ := keep j (by omega) h2 h3
          rw [r2] at hL; cases hL
          rw [h5] at r3; cases r3
          exact r5
        · exact hst.rel.obj b ob L h hL
      inj := fun b b' o1 o2 L1 L2 x1 x2 x3 y1 y2 y3 e => by
        rcases cls x1 x3 with ⟨j, h1, h2, h3, h4, h5, h6⟩ | h1 <;> rcases cls y1 y3 with ⟨k, g1, g2, g3, g4, g5, g6⟩ | g1
        · exact I.inj b b' o1 o2 L1 L2 (.inr ⟨j, by omega, h2, h3, h4, h5⟩) x2 h6 (.inr ⟨k, by omega, g2, g3, g4, g5⟩) y2 g6 e
        · obtain ⟨L3, o3, r1, r2, r3, r4, r5, r6, r7⟩ := keep j (by omega) h2 h3
          rw [← h4, h6] at r1; cases r1
          rcases clsRng g1 y2 y3 with h | h
          · rw [← e] at h; exact absurd h r7
          · rw [← e] at h; omega
        · obtain ⟨L3, o3, r1, r2, r3, r4, r5, r6, r7⟩ := keep k (by omega) g2 g3
          rw [← g4, g6] at r1; cases r1
          rcases clsRng h1 x2 x3 with h | h
          · rw [e] at h; exact absurd h r7
          · rw [e] at h; omega
        · exact hst.rel.inj b b' o1 o2 L1 L2 h1 x2 x3 g1 y2 y3 e
      top := fun i hi b hb => by
        rcases Nat.lt_or_ge p i with hlt | hge
        · obtain ⟨g1, g2⟩ := D.floats (i := p + 1) (j := i) (by omega) (by omega) fun k a b' => q3 k a (by omega)
          rw [g1] at hb
          have hb2 : base + ops.size ≤ b := by
            have := D.next_mono (Nat.zero_le (p + 1)) (by omega)
            rw [D.next0] at this
            omega
          rw [g2 b fun k a b' c e => by have := D.lt (i := k) (by rw [c]; intro h; cases h); omega]
          exact hst.rel.top b hb
        · exact I.top i hge b hb
      fl := fun j h1 h2 h3 => by
        rw [hSt j (by omega)] at h3
        obtain ⟨L2, o2, r1, r2, r3, r4, r5, _⟩ := keep j (by omega) h2 h3
        exact ⟨L2, o2, r2, r3, r4, r5⟩
      later := fun i hi j h1 h2 => by
        rcases Nat.lt_or_ge p i with hlt | hge
        · obtain ⟨g1, g2⟩ := D.floats (i := p + 1) (j := i) (by omega) (by omega) fun k a b' => q3 k a (by omega)
          rw [g2 _ fun k a b' c e => by omega, pre (by omega) h2 (fun h => by omega)]
          exact I.later p (Nat.le_refl _) j (by omega) h2
        · exact I.later i hge j h1 h2
      gone := fun j h1 h2 => by
        have := set_false hpS h2
        rw [hst.old _ (bnd h1)]
        exact I.gone j h1 this.2
      ghost := fun j h1 h2 h3 => by
        have := set_false hpS h3
        rcases Nat.lt_or_ge j p with h | h
        · rw [low (.inl h), pre this.1 h2 (fun _ => this.2)]
          exact I.ghost j h h2 this.2
        · exact mid (by omega) h1 h2
      le0 := I.le0.trans hst.le
      old0 := fun b hb => by
        rw [hst.old b (by have := D.base_le (i := p) I.ple hp; omega)]
        exact I.old0 b hb
      os := hst.os.trans I.os, tape := hst.tape.trans I.tape, output := hst.output.trans I.output
      size0 := Nat.le_trans I.size0 hst.size
      frame := fun cb hcb hn => by
        refine (hst.frame cb (Nat.lt_of_lt_of_le hcb I.size0) ?_).trans (I.frame cb hcb hn)
        rintro ⟨b, ob, L, h1, h2, h3, rfl⟩
        rcases I.rng b ob L (.inl h1) h2 h3 with h | h
        · exact hn h
        · omega
      rng := fun b ob L x1 x2 x3 => by
        rcases cls x1 x3 with ⟨j, h1, h2, h3, h4, h5, h6⟩ | h1
        · exact I.rng b ob L (.inr ⟨j, by omega, h2, h3, h4, h5⟩) x2 h6
        · rcases clsRng h1 x2 x3 with ⟨b2, o2, L2, s1, s2, s3, s4⟩ | h
          · rw [← s4]; exact I.rng b2 o2 L2 (.inl s1) s2 s3
          · exact .inr (Nat.le_trans I.size0 h)
      ghost0 := fun b hb hn => by
        have hb2 : b < (M p).next := by have := D.base_le (i := p) I.ple hp; omega
        rw [f2 b fun k a b' c e => by omega, hst.ghost b hb2 (by
          rcases hn with h | h
          · exact .inl ((I.old0 b hb).trans h)
          · exact .inr ((I.ghost0 b hb (.inr h)).trans h))]
        exact I.ghost0 b hb hn }⟩

/-- nothing is ready: all is done -/
theorem Inv.all (I : Inv P ops base E M kd α0 w0 ds S a w α p) (h : Region.ready .any ops S = []) : ∀ i, i < ops.size → S.getD i false = true := by
  intro i
  induction i using Nat.strongRecOn with
  | _ i ih =>
    intro hi
    cases hS : S.getD i false with
    | true => rfl
    | false =>
      exfalso
      obtain ⟨o, ho⟩ := opAt hi
      have hmem : i ∈ Region.ready .any ops S := by
        rw [mem_ready]
        refine ⟨?_, o, ho, fun e he hb => ?_⟩
        · have : i < S.size := by rw [I.size]; exact hi
          simpa [this] using hS
        · have hst := D.stat i o ho
          unfold statOp at hst
          simp only [Bool.and_eq_true] at hst
          have h1 := List.all_eq_true.1 hst.1.1.1.1 e (by simpa using he)
          rw [hb] at h1
          have h2 : e.on < i := blt_iff.1 (by simpa using h1)
          exact ih e.on h2 (by omega)
      rw [h] at hmem
      cases hmem
theorem Inv.end (I : Inv P ops base E M kd α0 w0 ds S a w α p) (h : ∀ i, i < ops.size → S.getD i false = true) {m0 : Mem} (h0 : m0.t = (M 0).t) (hb : m0.next = base) :
    Done P α0 m0 w0 ds (E ops.size) (M ops.size) a w := by
  have hp : p = ops.size := by
    rcases Nat.lt_or_ge p ops.size with h' | h'
    · have := I.p3 p (Nat.le_refl _) (I.p2 h')
      rw [h p h'] at this
      cases this
    · exact Nat.le_antisymm I.ple h'
  subst hp
  have hin : ∀ cb, InR α0 (M 0) cb ↔ InR α0 m0 cb := by intro cb; unfold InR; rw [h0]
  refine ⟨α, ⟨I.le0, fun b hb' => I.old0 b (by omega), ?_, I.rel, I.os, I.tape, I.output, I.size0, fun cb hc hn => I.frame cb hc (fun h => hn ((hin cb).1 h)), ?_, ?_⟩, ⟨?_, fun t ht => ?_⟩, I.defers⟩
  · have := D.next_mono (Nat.zero_le ops.size) (Nat.le_refl _)
    rw [D.next0] at this
    omega
  · rintro cb ⟨b, ob, L, x1, x2, x3, rfl⟩
    exact (I.rng b ob L (.inl x1) x2 x3).imp (hin _).1 id
  · intro b hb' hn
    rw [h0] at hn ⊢
    exact I.ghost0 b (by omega) hn
  · rw [D.En0 (Nat.le_refl _)]; exact I.tsize
  · rw [D.En0 (Nat.le_refl _)] at ht
    have := I.env t ht
    have e : valS ops E (fun i => S.getD i false) t = (E ops.size).get t := by
      unfold valS
      rw [D.Eget (t := t) (Nat.le_refl _)]
      cases hd : dstIdx ops.toList t 0 with
      | none => rfl
      | some j =>
        obtain ⟨_, o2, h1, _⟩ := dstIdx_spec _ _ _ hd
        have hj : j < ops.size := by
          have := (List.getElem?_eq_some_iff.1 h1).1
          simpa using this
        simp only [h j hj, cond_true, hj, if_true]
    rwa [e] at this
end
end Go.Den
