/-
  GraphNil of layer 18: for every integer the law returns true, and its argument reads as it did. No condition.
-/
import Derived.Test.YtbpklgllihhgpaaGreatRows
import Derived.WalkKit
import Derived.ProofKit
import Derived.OpenShut
import Derived.Test.YtbpklgllihhgpaaGreatNilParts
import Derived.Test.YtbpklgllihhgpaaGreatPost
namespace Go.Proofs.YtbpklgllihhgpaaGreat.graphNil
open Go.ChangeShapes Go.WideShapes Go.ChangeAt Go.RowKit Go.Den

theorem own : ownKnob Tryz.prog.godebug = none := by kernel_rfl

theorem store66' (w : World) (k : Nat) (hk : k = w.heap.size) : (Instr.storeAt 66 (.pointer (some ⟨k, 0, none⟩)) (.agg Z66)).run Tryz.prog (w.alloc (.cells Z66 66)) = .ok () (w.alloc (.cells Z66 66)) := by
  subst hk; exact store66 w
set_option maxRecDepth 100000 in
theorem walk (a0 : Int) (w : World) :
    Calls Tryz.prog 7 #[.int .i64 a0] w fun e w' => e = .returned (.bool true) ∧ Ext0 w w' := by
  have hal := alloc66
  have hbl := build66
  go_enter Tryz.func7, Tryz.ntmps7
  go_wp2_with (first
    | (go_at_call 8; refine (sanity_any _).mono ?_; rintro e w1 ⟨rfl, hx1⟩)
    | (go_at_call 24; refine (key_any _ _).mono ?_; rintro e w' ⟨rfl, hw⟩; subst hw)
    | (go_at_call 26; refine (put_nil _ _ _).mono ?_; rintro e w' ⟨rfl, hw⟩; subst hw)
    | (go_at_call 23; refine (clear_nil _).mono ?_; rintro e w' ⟨rfl, hw⟩; subst hw)
    | (go_at_call 28; refine (get_nil _ _).mono ?_; rintro e w' ⟨rfl, hw⟩; subst hw)
    | (go_at_call 30; refine (stats_nil _).mono ?_; rintro e w' ⟨rfl, hw⟩; subst hw)
    | (go_at_call 31; refine (count_nil _).mono ?_; rintro e w' ⟨rfl, hw⟩; subst hw)
    | (refine wpList_store_run rfl 66 (.tmp 5) (.tmp 23) rfl rfl rfl (store66' _ _ (by simp)) ?_))
  go_ret
  exact ⟨rfl, ((((hx1.alloc _).alloc _).alloc _).alloc _).alloc _⟩

/-! ### THE ROW's STEP: WRITTEN OUT: LEAVE IT -/
set_option maxRecDepth 100000 in
theorem lifted (os : Os) (started : os.Started) (H : Type) (enc : TypeId × Value → H) :
    ReturnsInHanded {} Tryz.checked os 7 .any (Rows.graphNilSpec.pre6 enc Tryz.prog Tryz.f7 Rows.graphNilRow.domain false) (Rows.graphNilSpec.post enc Tryz.prog Tryz.f7 false true false false) := by
  refine returnsInHanded_of_change (C := Tryz.checked) own started (by kernel_rfl) Tryz.func7
    (ChangeSpec.witness6 (enc := enc) (C := Tryz.checked) false ⟨#[], #[.int .i64 0], []⟩ 8 (by kernel_rfl) (by kernel_rfl) (by kernel_rfl) (by kernel_rfl)) ?_
  intro W base args ds gs before hval0 hW hcnd _
  have hval : ∀ (j : Nat) t v, Tryz.f7.params[j]? = some t → args[j]? = some v → Value.okWide Tryz.prog W .any base t v := hval0
  have hW' := hW
  obtain ⟨p, q, hA0, hV, rfl, hfz, hnd⟩ := hW
  have hA : DataW.TrodAll enc Tryz.prog W 0 (fun _ => true) true Tryz.f7.params.toList args.toList ds p := hA0
  rw [Tryz.params7] at hA hval
  obtain ⟨v0, vs0, d0, ds0, p0, q0, hargs, rfl, rfl, h0, r0⟩ := trodAll_cons hA
  obtain ⟨rfl, rfl, rfl⟩ := trodAll_nil r0
  obtain rfl : args = #[v0] := by cases args; simp_all
  obtain ⟨rfl, rfl⟩ := trodVars_none hV
  obtain ⟨a0, rfl, rfl, rfl, w0⟩ := open_int Tryz.underlying3 (hval 0 3 v0 rfl rfl) h0
  clear hA0 hval0
  simp only [List.append_nil] at hW'
  refine (walk a0 W).mono fun e W' ⟨he, hg⟩ => ?_
  subst he
  exact ⟨_, rfl, post_of_ext0 (pa := []) (pv := []) hW' (fun _ _ _ => (trodAll_cons_mk (shut_bool Tryz.underlying4 _) trodAll_mk0)) (fun sp _ => (trodAll_cons_mk (shut_int Tryz.underlying3 w0) trodAll_mk0)) (fun _ _ => rfl) rfl
    hg (ok_one (by kernel_rfl) rfl (okWide_bool_mk Tryz.underlying4 _))⟩

theorem over : Rows.graphNilRow.holds Tryz.pinned (OpenSpec.ofChange Rows.graphNilSpec) :=
  OpenClaim.holds_of_wide 7 Tryz.f7 rfl rfl rfl rfl rfl rfl rfl ⟨rfl, rfl, rfl, rfl, rfl⟩ rfl rfl rfl rfl rfl (by kernel_rfl) Tryz.func7 (by kernel_rfl)
    (of_decide_eq_true (by kernel_rfl)) (by unfold Func.isWrapper; first | (rw [if_pos (by decide +kernel)]; kernel_rfl) | (rw [if_neg (by decide +kernel)]; exact ⟨rfl, rfl⟩))
    (fun os started H enc _ => lifted os started H enc)

/-- ████ THE STATEMENT ████ -/
theorem proved : Rows.GraphNilSaid :=
  over
#print axioms proved
end Go.Proofs.YtbpklgllihhgpaaGreat.graphNil
