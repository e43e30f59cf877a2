/- A region that draws its order: every order. -/
import Derived.Test.YtbpklgllihhgpaaGreatDenR
namespace Go.Den
variable {P : Program}

theorem EqOb.refl_or {P : Program} {a b c : Option Ob} (h1 : a = b ∨ EqOb P a b) (h2 : b = c ∨ EqOb P b c) : a = c ∨ EqOb P a c := by
  rcases h1 with rfl | h1
  · exact h2
  · rcases h2 with rfl | h2
    · exact .inr h1
    · exact .inr ⟨h1.1, h2.2.1, fun α L w => (h1.2.2 α L w).trans (h2.2.2 α L w)⟩

section
variable {self : Self} {ops : Array Oper} {base : Nat} {E : Nat → Env} {M : Nat → Mem} {kd : Nat → Kd} (D : DR P self ops base E M kd)
  {α0 : AM} {w0 : World} {ds : List Deferred} {S : Array Bool} {a : Act} {w : World} {α : AM} {p i : Nat} {o : Oper}
include D

/-- what no step between turns -/
theorem DR.same {i j b : Nat} (hij : i ≤ j) (hj : j ≤ ops.size) (hf : ∀ k, i ≤ k → k < j → kd k = .new → b ≠ base + k)
    (he : ∀ e, i ≤ e → e < j → kd e = .eff → EqOb P ((M e).t.get b) ((M (e + 1)).t.get b)) : (M i).t.get b = (M j).t.get b ∨ EqOb P ((M i).t.get b) ((M j).t.get b) := by
  induction hij with
  | refl => exact .inl rfl
  | @step j hij ih =>
    refine (ih (by omega) (fun k a b => hf k a (by omega)) fun e a b => he e a (by omega)).elim (fun h => ?_) fun h => ?_
    · by_cases hk : kd j = .eff
      · rw [h]; exact .inr (he j hij (by omega) hk)
      · refine .inl ?_
        rw [h, (D.float hk (by omega)).2 b]
        by_cases hn : kd j = .new
        · exact .inl (hf j hij (by omega) hn)
        · exact .inr hn
    · by_cases hk : kd j = .eff
      · exact EqOb.refl_or (.inr h) (.inr (he j hij (by omega) hk))
      · refine EqOb.refl_or (.inr h) (.inl ?_)
        rw [(D.float hk (by omega)).2 b]
        by_cases hn : kd j = .new
        · exact .inl (hf j hij (by omega) hn)
        · exact .inr hn

theorem Inv.foot (I : Inv P ops base E M kd α0 w0 ds S a w α p) (ho : ops[i]? = some o) (hni : S.getD i false = false) (hrd : ∀ e ∈ o.after.toList, Region.binds .any e = true → S.getD e.on false = true)
    {b : Nat} (hk : kd i = .quiet (some b)) {ob : Ob} {L : Loc} (hb : (M i).t.get b = some ob) (hL : α b = some L) : ObR P α L w ob := by
  have hi : i < ops.size := (Array.getElem?_eq_some_iff.1 ho).1
  -- what comes before i has been done
  have before : ∀ {x y}, Path ops x y → x = i → S.getD y false = true := by
    intro x y h
    induction h with
    | one ho' he hbd =>
      rintro rfl
      rw [ho] at ho'
      cases ho'
      exact hrd _ he hbd
    | step h1 h2 ih ih' => exact fun hx => I.down.path h2 (ih hx)
  have behind : ∀ {x}, Path ops x i → S.getD x false = true → False := by
    intro x h hx
    have := I.down.path h hx
    simp only [hni] at this
    cases this
  have hbp := (I.dom _ _ hL).1
  -- effects that may stand on either side of i
  have eqA : ∀ e, e < p → i ≤ e → b < (M e).next → kd e = .eff → EqOb P ((M e).t.get b) ((M (e + 1)).t.get b) := by
    intro e h1 h2 h3 h4
    have hne : e ≠ i := by rintro rfl; rw [hk] at h4; cases h4
    rcases D.stable i b hk e h4 hne with ⟨_, h⟩ | ⟨h, _⟩ | h | h
    · exact (behind h (I.p1 e h1 h4)).elim
    · omega
    · omega
    · exact h
  have eqB : ∀ e, p ≤ e → e < i → b < (M e).next → kd e = .eff → EqOb P ((M e).t.get b) ((M (e + 1)).t.get b) := by
    intro e h1 h2 h3 h4
    rcases D.stable i b hk e h4 (by omega) with ⟨h, _⟩ | ⟨_, h⟩ | h | h
    · omega
    · have := before h rfl
      rw [I.p3 e h1 h4] at this
      cases this
    · omega
    · exact h
  have use : ∀ {x : Option Ob}, (x = some ob ∨ EqOb P x (some ob)) → (∀ o2, x = some o2 → ObR P α L w o2) → ObR P α L w ob := by
    intro x h hx
    rcases h with h | h
    · exact hx ob h
    · obtain ⟨o2, h2⟩ := h.1
      obtain ⟨o3, h3, h4⟩ := (h.2.2 α L w).1 ⟨o2, h2, hx o2 h2⟩
      cases h3
      exact h4
  have sym : ∀ {x y : Option Ob}, (x = y ∨ EqOb P x y) → (y = x ∨ EqOb P y x) := by
    intro x y h
    rcases h with h | h
    · exact .inl h.symm
    · exact .inr ⟨h.2.1, h.1, fun α L w => (h.2.2 α L w).symm⟩
  by_cases hfl : ∃ j, kd j = .new ∧ b = base + j
  · obtain ⟨j, hj, rfl⟩ := hfl
    have hjn : j < ops.size := D.lt (by rw [hj]; intro h; cases h)
    have hSj : S.getD j false = true := by
      cases hS : S.getD j false with
      | true => rfl
      | false => rw [I.gone j hj hS] at hL; cases hL
    have hnx : ∀ e, e ≤ ops.size → base + j < (M e).next := fun e he => D.base_le he hjn
    rcases Nat.lt_or_ge j p with hjp | hjp
    · rcases Nat.lt_or_ge j i with hji | hji
      · rcases Nat.lt_or_ge p i with hpi | hpi
        · refine use (x := (M p).t.get (base + j)) ?_ fun o2 h2 => I.obj _ _ _ h2 hL
          rw [← hb]
          exact D.same (Nat.le_of_lt hpi) (Nat.le_of_lt hi) (fun k h1 h2 h3 => by omega) fun e h1 h2 h3 => eqB e h1 h2 (hnx e (by omega)) h3
        · refine use (x := (M p).t.get (base + j)) ?_ fun o2 h2 => I.obj _ _ _ h2 hL
          rw [← hb]
          exact sym (D.same hpi I.ple (fun k h1 h2 h3 => by omega) fun e h1 h2 h3 => eqA e h2 h1 (hnx e (by have := I.ple; omega)) h3)
      · rw [I.later i (by omega) j hji hj] at hb; cases hb
    · rcases Nat.lt_or_ge j i with hji | hji
      · obtain ⟨L2, o2, r1, r2, r3, r4⟩ := I.fl j hjp hj hSj
        rw [hL] at r1; cases r1
        refine use (x := (M (j + 1)).t.get (base + j)) ?_ fun o3 h3 => by rw [r2] at h3; cases h3; exact r4
        rw [← hb]
        exact D.same (by omega) (Nat.le_of_lt hi) (fun k h1 h2 h3 => by omega) fun e h1 h2 h3 => eqB e (by omega) h2 (hnx e (by omega)) h3
      · rcases Nat.lt_or_ge p i with hpi | hpi
        · have := D.same (b := base + j) (Nat.le_of_lt hpi) (Nat.le_of_lt hi) (fun k h1 h2 h3 => by omega) fun e h1 h2 h3 => eqB e h1 h2 (hnx e (by omega)) h3
          rw [I.later p (Nat.le_refl _) j hjp hj, hb] at this
          rcases this with h | h
          · cases h
          · obtain ⟨x, hx⟩ := h.1; cases hx
        · rw [I.later i hpi j hji hj] at hb; cases hb
  · have hnf : ∀ k, kd k = .new → b ≠ base + k := fun k h1 h2 => hfl ⟨k, h1, h2⟩
    rcases Nat.lt_or_ge p i with hpi | hpi
    · refine use (x := (M p).t.get b) ?_ fun o2 h2 => I.obj _ _ _ h2 hL
      rw [← hb]
      exact D.same (Nat.le_of_lt hpi) (Nat.le_of_lt hi) (fun k _ _ h3 => hnf k h3) fun e h1 h2 h3 => eqB e h1 h2 (Nat.lt_of_lt_of_le hbp (D.next_mono h1 (by omega))) h3
    · have hbi : b < (M i).next := by
        rcases Nat.lt_or_ge b (M i).next with h | h
        · exact h
        · rw [I.top i hpi b h] at hb; cases hb
      refine use (x := (M p).t.get b) ?_ fun o2 h2 => I.obj _ _ _ h2 hL
      rw [← hb]
      exact sym (D.same hpi I.ple (fun k _ _ h3 => hnf k h3) fun e h1 h2 h3 => eqA e h2 h1 (Nat.lt_of_lt_of_le hbi (D.next_mono h1 (by have := I.ple; omega))) h3)
end
end Go.Den
