/-
  GraphCaches of layer 18: for every budget, every sequence of calls and every place of the clearing the law returns true, and its arguments read as they did. No condition.
-/
import Derived.Test.YtbpklgllihhgpaaGreatRows
import Derived.WalkKit
import Derived.ProofKit
import Derived.OpenShut
import Derived.Deep.Strs
import Derived.Test.YtbpklgllihhgpaaGreatLaw
import Derived.Test.YtbpklgllihhgpaaGreatKeepArgs
namespace Go.Proofs.YtbpklgllihhgpaaGreat.graphCaches
open Go.ChangeShapes Go.WideShapes Go.ChangeAt Go.RowKit Go.Deep

theorem own : ownKnob Tryz.prog.godebug = none := by kernel_rfl
theorem laidOut : laidOutB Tryz.prog = true := by kernel_rfl
theorem cells62 : Tryz.prog.cellsOf 62 = 3 := by kernel_rfl
theorem cells4 : Tryz.prog.cellsOf 4 = 1 := by kernel_rfl
theorem cells3 : Tryz.prog.cellsOf 3 = 1 := by kernel_rfl
theorem read3 : Tryz.prog.readableRec 3 = true ∧ 3 < Tryz.prog.types.size := ⟨by kernel_rfl, of_decide_eq_true (by kernel_rfl)⟩
theorem read50 : Tryz.prog.readableRec 50 = true ∧ 50 < Tryz.prog.types.size := ⟨by kernel_rfl, of_decide_eq_true (by kernel_rfl)⟩
section
variable {H : Type} {enc : TypeId × Value → H}
set_option maxRecDepth 100000 in
theorem fields62 {w : World} {base : Nat} {sp : Nat → Bool} {held : Bool} {n : Nat} {cs : List Value} {x : DataW H × List MemPlace} (h : DataW.trod enc Tryz.prog w base sp held n 62 cs = some x) : ∃ p k t, cs = [.bool p, .int .i64 k, .int .i64 t] := by
  obtain ⟨y0, y1, y2, m, _, hl, h0, h1, h2⟩ := trod_struct3 Tryz.underlying62 h
  rw [cells62] at hl
  match cs, hl with
  | [a, b, c], _ =>
    simp only [cells4, cells3] at h0 h1 h2
    obtain ⟨p, e0, _⟩ := DataW.trod_bool Tryz.underlying4 h0
    obtain ⟨k, e1, _⟩ := DataW.trod_int Tryz.underlying3 h1
    obtain ⟨t, e2, _⟩ := DataW.trod_int Tryz.underlying3 h2
    simp at e0 e1 e2
    subst e0 e1 e2
    exact ⟨p, k, t, rfl⟩
/-- the argument's cells -/
theorem uses {W : World} {A : Option Addr} {len cap fuel : Nat} {x : DataW H × List MemPlace} (h : DataW.trod enc Tryz.prog W 0 (fun _ => true) true fuel 50 [.slice A len cap] = some x) : len ≤ 9223372036854775807 ∧ ∀ j, j < len → UseAt W A j := by
  rcases open_slice Tryz.underlying50 h with ⟨hcs, _⟩ | ⟨a, len', cap', m, n, D, Pl, hcs, _, hl, hm, hmm, _, hi⟩
  · simp at hcs
    obtain ⟨_, rfl, _⟩ := hcs
    exact ⟨by omega, fun j hj => absurd hj (Nat.not_lt_zero j)⟩
  · simp at hcs
    obtain ⟨rfl, rfl, rfl⟩ := hcs
    unfold maxLen at hm
    refine ⟨by omega, fun j hj => ?_⟩
    simp only [if_true] at hmm
    have at_ : ∀ j, j < len → ∃ p k t, W.cell? ((a.add (j * 3)).add 0) = some (.bool p) ∧ W.cell? ((a.add (j * 3)).add 1) = some (.int .i64 k) ∧ W.cell? ((a.add (j * 3)).add 2) = some (.int .i64 t) := by
      intro j hj
      obtain ⟨cs', hc, ht⟩ := hi j (by omega)
      obtain ⟨p, k, t, rfl⟩ := fields62 ht
      rw [cells62] at hc
      obtain ⟨_, _, hat⟩ := World.cells?_some hc
      exact ⟨p, k, t, hat 0 (by omega), hat 1 (by omega), hat 2 (by omega)⟩
    obtain ⟨g, o, s⟩ := a
    have hs : s = none := by
      obtain ⟨p, _, _, h0, _, _⟩ := at_ 0 (by omega)
      rw [add_add] at h0
      have e : (⟨g, o, s⟩ : Addr).add (0 * 3 + 0) = ⟨g, o, s⟩ := by unfold Addr.add; simp
      rw [e] at h0
      cases s with
      | none => rfl
      | some q =>
        unfold World.cell? at h0
        split at h0 <;> simp at h0
    subst hs
    obtain ⟨p, k, t, c0, c1, c2⟩ := at_ j hj
    simp only [add_plain, Nat.add_zero] at c0 c1 c2
    exact ⟨g, o, p, k, t, rfl, block_lt_of_cell c0, c0, c1, c2⟩
set_option maxRecDepth 100000 in
theorem lifted (os : Os) (started : os.Started) (H : Type) (enc : TypeId × Value → H) :
    ReturnsInHanded {} Tryz.checked os 6 .any (Rows.graphCachesSpec.pre6 enc Tryz.prog Tryz.f6 Rows.graphCachesRow.domain false) (Rows.graphCachesSpec.post enc Tryz.prog Tryz.f6 false true false false) := by
  refine returnsInHanded_of_change (C := Tryz.checked) own started (by kernel_rfl) Tryz.func6
    (ChangeSpec.witness6 (enc := enc) (C := Tryz.checked) false ⟨#[], #[.int .i64 0, .slice none 0 0, .int .i64 0], []⟩ 8 (by kernel_rfl) (by kernel_rfl) (by kernel_rfl) (by kernel_rfl)) ?_
  intro W base args ds gs before hval0 hW hcnd _
  have hval : ∀ (j : Nat) t v, Tryz.f6.params[j]? = some t → args[j]? = some v → Value.okWide Tryz.prog W .any base t v := hval0
  have hW' := hW
  obtain ⟨p, q, hA0, hV, rfl, hfz, hnd⟩ := hW
  have hA : DataW.TrodAll enc Tryz.prog W 0 (fun _ => true) true Tryz.f6.params.toList args.toList ds p := hA0
  rw [Tryz.params6] at hA hval
  obtain ⟨v0, vs0, d0, ds0, p0, q0, hargs, rfl, rfl, h0, r0⟩ := trodAll_cons hA
  obtain ⟨v1, vs1, d1, ds1, p1, q1, rfl, rfl, rfl, h1, r1⟩ := trodAll_cons r0
  obtain ⟨v2, vs2, d2, ds2, p2, q2, rfl, rfl, rfl, h2, r2⟩ := trodAll_cons r1
  obtain ⟨rfl, rfl, rfl⟩ := trodAll_nil r2
  obtain rfl : args = #[v0, v1, v2] := by cases args; simp_all
  obtain ⟨rfl, rfl⟩ := trodVars_none hV
  obtain ⟨a0, rfl, rfl, rfl, w0⟩ := open_int Tryz.underlying3 (hval 0 3 v0 rfl rfl) h0
  obtain ⟨A, len, cap, rfl⟩ := okWide_slice Tryz.underlying50 (hval 1 50 v1 rfl rfl)
  obtain ⟨a2, rfl, rfl, rfl, w2⟩ := open_int Tryz.underlying3 (hval 2 3 v2 rfl rfl) h2
  obtain ⟨fuel, h1⟩ := h1
  obtain ⟨hl, hu⟩ := uses h1
  clear hA0 hval0
  refine (walk6 a0 a2 A len cap W hl hu).mono fun e W' ⟨he, hg⟩ => ?_
  subst he
  refine ⟨_, rfl, law_post (tb := 4) laidOut (fun t ht => ?_) Tryz.underlying4 rfl hW' rfl hg rfl rfl rfl⟩
  rw [Tryz.params6] at ht
  simp at ht
  rcases ht with rfl | rfl | rfl
  · exact read3
  · exact read50
  · exact read3

theorem over : Rows.graphCachesRow.holds Tryz.pinned (OpenSpec.ofChange Rows.graphCachesSpec) :=
  OpenClaim.holds_of_wide 6 Tryz.f6 rfl rfl rfl rfl rfl rfl rfl ⟨rfl, rfl, rfl, rfl, rfl⟩ rfl rfl rfl rfl rfl (by kernel_rfl) Tryz.func6 (by kernel_rfl)
    (of_decide_eq_true (by kernel_rfl)) (by unfold Func.isWrapper; first | (rw [if_pos (by decide +kernel)]; kernel_rfl) | (rw [if_neg (by decide +kernel)]; exact ⟨rfl, rfl⟩))
    (fun os started H enc _ => lifted os started H enc)

/-- the statement -/
theorem proved : Rows.GraphCachesSaid :=
  over
#print axioms proved
end
end Go.Proofs.YtbpklgllihhgpaaGreat.graphCaches
