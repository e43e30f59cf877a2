/- A law's post where the call has made new blocks and nothing else: whatever the new blocks are. -/
import Derived.Below
import Derived.ChangeSame
import Derived.Test.YtbpklgllihhgpaaGreatDenZ
namespace Go.Proofs.YtbpklgllihhgpaaGreat
open Go.RowKit Go.WideShapes Go.ChangeShapes Go.Den
variable {H : Type} {enc : TypeId × Value → H} {P : Program}
theorem post_of_ext0 {f : Func} {s : ChangeSpec} {apart fresh handsOn again : Bool} {W W' : World} {args : Array Value} {v : Value} {ds gs : List (DataW H)} {before pa pv : List MemPlace}
    (hW : DataW.Whole enc P f.params.toList s.vars apart W args.toList ds gs before)
    (hres : ∀ (b : Nat) (sp : Nat → Bool) (hd : Bool), DataW.TrodAll enc P W' b sp hd f.resultTypes.toList (v.resultList f.resultTypes.size) (s.fn H (ds ++ gs)).results [])
    (hargs : ∀ sp : Nat → Bool, (∀ p ∈ before, sp p.block = true) → DataW.TrodAll enc P W' 0 sp true f.params.toList args.toList (s.fn H (ds ++ gs)).args pa)
    (hvars : ∀ sp : Nat → Bool, (∀ p ∈ before, sp p.block = true) → DataW.TrodVars enc P W' sp s.vars (s.fn H (ds ++ gs)).vars pv)
    (hsplit : before = pa ++ pv) (he : Ext0 W W')
    (hok : ∀ (j : Nat) (t : TypeId) (r : Value), f.resultTypes[j]? = some t → (v.resultList f.resultTypes.size)[j]? = some r → Value.okWide P W' .any 0 t r) :
    s.post enc P f apart fresh handsOn again W args v W' := by
  have hbelow : Below W.heap.size W W' := ⟨he.os, he.tape, he.output, he.size, he.old⟩
  have hin : ∀ p ∈ before, p.block < W.heap.size := fun p hp => hW.lt p hp
  have hold : ∀ p ∈ before, decide (p.block < W.heap.size) = true := fun p hp => decide_eq_true (hin p hp)
  have hfr : ∀ b off, MemPlace.cell b off ∈ pa ++ pv → W'.frozen? ⟨b, off, none⟩ = W.frozen? ⟨b, off, none⟩ := fun b off hp => hbelow.frozen (show b < W.heap.size from hin (MemPlace.cell b off) (hsplit ▸ hp))
  refine ⟨ds, gs, before, [], pa, pv, hW, hres _ _ _, hargs (fun b => decide (b < W.heap.size)) hold, hvars (fun b => decide (b < W.heap.size)) hold, ?_, fun _ => ?_⟩
  · refine World.keptBut_mono (fun p hp => ⟨hp, ?_⟩) (hbelow.frame (· ∈ before))
    rw [hsplit, List.mem_append] at hp
    exact .inr hp
  · obtain ⟨_, _, _, _, _, hz, hn⟩ := hW
    refine ⟨hok, _, _, ([] ++ pa) ++ pv, ⟨[] ++ pa, pv, trodAll_append (hargs _ (fun _ _ => rfl)) (hres _ _ _), hvars _ (fun _ _ => rfl), rfl, fun b off hp => ?_, fun ha => ?_⟩, fun p hp _ => ?_⟩
    · have hp' : MemPlace.cell b off ∈ pa ++ pv := by simpa using hp
      rw [hfr b off hp']
      exact hz b off (hsplit ▸ hp')
    · have h := hn ha
      rw [hsplit] at h
      simpa using h
    · rw [hsplit]
      simpa using hp
end Go.Proofs.YtbpklgllihhgpaaGreat
