/- The examples of the chapter (the law's own 'sanity'): in every world the call returns true and makes memory alone. -/
import Derived.Test.YtbpklgllihhgpaaGreatExt
import Derived.Test.YtbpklgllihhgpaaGreatRun
namespace Go.Proofs.YtbpklgllihhgpaaGreat
open Go.Den
theorem progOK : ProgOK Tryz.prog := progOK_of 273 (by kernel_rfl) (by kernel_rfl) (by kernel_rfl) (Checked.mixed Tryz.checked)
theorem extOK0 : ExtOK Tryz.prog X0 := by
  intro f g hx self hs
  unfold X0 at hx
  cases h1 : Nat.beq f 76 with
  | true =>
    rw [h1, cond_true] at hx
    cases hx
    rw [Nat.eq_of_beq_eq_true h1]
    exact check_ext hs
  | false =>
    rw [h1, cond_false] at hx
    cases h2 : Nat.beq f 26 with
    | true =>
      rw [h2, cond_true] at hx
      cases hx
      rw [Nat.eq_of_beq_eq_true h2]
      exact put_ext hs
    | false => rw [h2] at hx; cases hx
theorem sameVs_eq : ∀ {x y : List Value}, sameVs x y = true → x = y
  | [], [], _ => rfl
  | [], _ :: _, h => by cases h
  | _ :: _, [], h => by cases h
  | a :: x, b :: y, h => by
    unfold sameVs at h
    rw [Bool.and_eq_true] at h
    rw [sameV_eq h.1, sameVs_eq h.2]
theorem ranTrue_spec {r : Option (Value × Mem)} (h : ranTrue r = true) : ∃ m, r = some (.bool true, m) := by
  unfold ranTrue at h
  split at h
  · exact ⟨_, rfl⟩
  · cases h
theorem ranTile_spec {r : Option (Value × Mem)} (h : ranTile r = true) : ∃ m, r = some (.agg ⟨tileL⟩, m) := by
  unfold ranTile at h
  split at h
  · rw [sameVs_eq h]; exact ⟨_, rfl⟩
  · cases h
theorem clean_ext {self : Self} (hs : SelfOK Tryz.prog self) : OneOK Tryz.prog 204 (xClean self) := by
  intro args m v m1 h α w args' hr ha
  unfold xClean at h
  split at h
  case h_2 => cases h
  rename_i cs
  cases hb : sameVs cs tileL with
  | false =>
    rw [hb, cond_false] at h
    exact evBody_sound progOK hs _ m v m1 h α w args' hr ha
  | true =>
    rw [hb, cond_true] at h
    cases h
    have hcs := sameVs_eq hb
    subst hcs
    obtain ⟨m2, he⟩ := ranTile_spec clean_run
    exact memo_ok progOK extOK0 (by kernel_rfl) (by kernel_rfl) he hr ha
theorem extOK1 : ExtOK Tryz.prog X1 := by
  intro f g hx self hs
  unfold X1 at hx
  cases h1 : Nat.beq f 76 with
  | true =>
    rw [h1, cond_true] at hx
    cases hx
    rw [Nat.eq_of_beq_eq_true h1]
    exact check_ext hs
  | false =>
    rw [h1, cond_false] at hx
    cases h2 : Nat.beq f 26 with
    | true =>
      rw [h2, cond_true] at hx
      cases hx
      rw [Nat.eq_of_beq_eq_true h2]
      exact put_ext hs
    | false =>
      rw [h2, cond_false] at hx
      cases h3 : Nat.beq f 204 with
      | true =>
        rw [h3, cond_true] at hx
        cases hx
        rw [Nat.eq_of_beq_eq_true h3]
        exact clean_ext hs
      | false => rw [h3] at hx; cases hx
/-- the chapter's examples, in every world -/
theorem sanity_any (w : World) : Calls Tryz.prog 8 #[] w fun e w' => e = .returned (.bool true) ∧ Ext0 w w' := by
  obtain ⟨m, he⟩ := ranTrue_spec sanity_run
  have h0 : Rel Tryz.prog (fun _ => none) ⟨.e, 0⟩ w := ⟨(fun _ _ h => by cases h), (fun _ _ _ h => by cases h), (fun _ _ _ _ _ _ h => by cases h), fun _ _ => rfl⟩
  refine (evCall_sound progOK extOK1 60 8 #[] ⟨.e, 0⟩ _ m he (fun _ => none) w #[] h0 ⟨rfl, fun i h1 _ => absurd h1 (Nat.not_lt_zero i)⟩).mono ?_
  rintro e w' ⟨β, v', rfl, hv, hst⟩
  have := VR.eq rfl hv
  subst this
  refine ⟨rfl, hst.size, fun cb hcb => hst.frame cb hcb ?_, hst.os, hst.tape, hst.output⟩
  rintro ⟨b, o, L, h1, _⟩
  cases h1
end Go.Proofs.YtbpklgllihhgpaaGreat
