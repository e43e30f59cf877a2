/- A law's arguments read as they did where the call has made new blocks and nothing else: whatever their types. -/
import Derived.Test.YtbpklgllihhgpaaGreatPost
import Derived.ChangeBook
import Derived.ChangeBears
import Derived.ChangeStays
import Derived.ChangeSame
import Derived.OpenShut
namespace Go.Proofs.YtbpklgllihhgpaaGreat
open Go.RowKit Go.WideShapes Go.ChangeShapes Go.Den
variable {H : Type} {enc : TypeId × Value → H} {P : Program}
theorem stays_all {W W' : World} (hl : laidOutB P = true) (he : Ext0 W W') {sp : Nat → Bool} : ∀ {ts : List TypeId} {vs : List Value} {ds : List (DataW H)} {p : List MemPlace}, (∀ t ∈ ts, P.readableRec t = true ∧ t < P.types.size) → DataW.TrodAll enc P W 0 (fun _ => true) true ts vs ds p →
    (∀ q ∈ p, q.block < W.heap.size) → (∀ q ∈ p, sp q.block = true) → DataW.TrodAll enc P W' 0 sp true ts vs ds p
  | [], vs, ds, p, _, h, _, _ => by
    obtain ⟨rfl, rfl, rfl⟩ := trodAll_nil h
    exact trodAll_mk0
  | t :: ts, vs, ds, p, hr, h, hlt, hsp => by
    obtain ⟨v, vs', d, ds', p1, q1, rfl, rfl, rfl, h0, r0⟩ := trodAll_cons h
    obtain ⟨fuel, h0⟩ := h0
    obtain ⟨hrt, hrow⟩ := hr t (by simp)
    refine trodAll_cons_mk ⟨fuel, DataW.trod_stays (kids_book hl hrt) (book_sized hrt) (fun h => by cases h) ⟨hrow, book_self t⟩ h0 (fun q hq => ?_) (fun q hq => hsp q (by simp at hq ⊢; exact .inl hq))⟩ (stays_all hl he (fun t ht => hr t (by simp [ht])) r0 (fun q hq => hlt q (by simp [hq])) fun q hq => hsp q (by simp [hq]))
    have hb := hlt q (by simp at hq ⊢; exact .inl hq)
    cases q with
    | cell b off => simp only [World.sameAt, World.cell?]; rw [he.old b hb]
    | map b => exact he.old b hb
/-- the post of a law without variables: it answers true, its arguments read as they did -/
theorem law_post {f : Func} {s : ChangeSpec} {apart fresh handsOn again : Bool} {W W' : World} {args : Array Value} {ds gs : List (DataW H)} {before : List MemPlace} (hl : laidOutB P = true) (hr : ∀ t ∈ f.params.toList, P.readableRec t = true ∧ t < P.types.size) {tb : TypeId} (hb : P.underlying tb = some .bool) (hres : f.resultTypes = #[tb])
    (hW : DataW.Whole enc P f.params.toList s.vars apart W args.toList ds gs before) (hv : s.vars = []) (he : Ext0 W W') (hf : (s.fn H (ds ++ gs)).results = [.lit (.bool true)]) (hfa : (s.fn H (ds ++ gs)).args = ds) (hfv : (s.fn H (ds ++ gs)).vars = []) :
    s.post enc P f apart fresh handsOn again W args (.bool true) W' := by
  have hW' := hW
  obtain ⟨p, q, hA, hV, rfl, hz, hn⟩ := hW
  have hq : gs = [] ∧ q = [] := by
    rw [hv] at hV
    exact trodVars_none hV
  obtain ⟨rfl, rfl⟩ := hq
  have hin : ∀ x ∈ p ++ [], x.block < W.heap.size := fun x hx => hW'.lt x hx
  refine post_of_ext0 (pa := p) (pv := []) hW' (fun _ _ _ => ?_) (fun sp hsp => ?_) (fun sp _ => ?_) rfl he ?_
  · rw [hf, hres]
    exact trodAll_cons_mk (shut_bool hb _) trodAll_mk0
  · rw [hfa]
    exact stays_all hl he hr hA (fun x hx => hin x (by simp [hx])) fun x hx => hsp x (by simp [hx])
  · rw [hv, hfv]; rfl
  · exact ok_one hres rfl (okWide_bool_mk hb _)
end Go.Proofs.YtbpklgllihhgpaaGreat
