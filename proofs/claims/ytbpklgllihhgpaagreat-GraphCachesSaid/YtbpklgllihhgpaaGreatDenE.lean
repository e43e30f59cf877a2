/- The instructions, second part: maps, slices, builtins, calls. -/
import Derived.Test.YtbpklgllihhgpaaGreatDenD
namespace Go.Den
noncomputable section
variable {P : Program} {α : AM}

theorem VR.scalar_eq {v v' : Value} (h : VR α v v') (hs : scalar v = true) : v' = v := by
  cases h <;> first | rfl | (simp [scalar] at hs)
theorem EntsR.nil : EntsR α #[] #[] := ⟨rfl, fun _ h => absurd h (Nat.not_lt_zero _)⟩
theorem EntsR.get? {x x' : Array MapEntry} (h : EntsR α x x') (i : Nat) : (x[i]? = none ∧ x'[i]? = none) ∨ ∃ v v', x[i]? = some v ∧ x'[i]? = some v' ∧ EntR α v v' := by
  by_cases e : i < x.size
  · have e' : i < x'.size := by rw [← h.1]; exact e
    exact .inr ⟨x[i], x'[i], Array.getElem?_eq_getElem e, Array.getElem?_eq_getElem e', h.2 i e e'⟩
  · exact .inl ⟨Array.getElem?_eq_none (by omega), Array.getElem?_eq_none (by rw [← h.1]; omega)⟩
theorem EntsR.push {x x' : Array MapEntry} (h : EntsR α x x') {v v' : MapEntry} (hv : EntR α v v') : EntsR α (x.push v) (x'.push v') := by
  refine ⟨by simp [h.1], fun i h1 h2 => ?_⟩
  by_cases e : i < x.size
  · rw [Array.getElem_push_lt e, Array.getElem_push_lt (by rw [← h.1]; exact e)]; exact h.2 i _ _
  · have : i = x.size := by simp at h1; omega
    subst this
    have e2 : x.size = x'.size := h.1
    simp only [Array.getElem_push_eq]
    have : (x'.push v')[x.size]'h2 = v' := by simp [e2]
    rw [this]; exact hv
theorem EntsR.modify {x x' : Array MapEntry} (h : EntsR α x x') (i : Nat) {f f' : MapEntry → MapEntry} (hf : ∀ a b, EntR α a b → EntR α (f a) (f' b)) : EntsR α (x.modify i f) (x'.modify i f') := by
  refine ⟨by simp [h.1], fun j h1 h2 => ?_⟩
  rw [Array.getElem_modify, Array.getElem_modify]
  split
  · exact hf _ _ (h.2 _ _ _)
  · exact h.2 _ _ _
theorem EntsR.isEmpty {x x' : Array MapEntry} (h : EntsR α x x') : x.isEmpty = x'.isEmpty := by simp [Array.isEmpty, h.1]

theorem sim_lookup (hz : ZeroOK P) {t : TypeId} (ht : t < P.types.size) {m m' k : Value} (h : VR α m m') (hk : scalar k = true) (ok : Bool) : Sim P VR α (Instr.lookup t m k ok) (Instr.lookup t m' k ok) := by
  unfold Instr.lookup
  refine sim_bind (sim_underlying t) ?_
  rintro β d d' hle ⟨rfl, hd⟩
  cases d with
  | map kt elem =>
    have key : ∀ {γ : AM} {es es' : Array MapEntry}, EntsR γ es es' → Sim P VR γ
        (do
          Instr.checkKey es.isEmpty 10000 kt k
          let (v, ok') ← match ← Instr.findKey kt k es.toList with
            | some (_, v) => pure (v, true)
            | none => pure (← zeroValue elem, false)
          pure (if ok then .tuple #[v, .bool ok'] else v))
        (do
          Instr.checkKey es'.isEmpty 10000 kt k
          let (v, ok') ← match ← Instr.findKey kt k es'.toList with
            | some (_, v) => pure (v, true)
            | none => pure (← zeroValue elem, false)
          pure (if ok then .tuple #[v, .bool ok'] else v)) := by
      intro γ es es' he
      refine sim_bind (sim_checkKey _ _ 9999 kt hk) ?_
      intro δ _ _ hle2 _
      refine sim_bind (sim_findKey kt hk (EntsR.f2 (he.mono hle2))) ?_
      intro ε a b hle3 hab
      rcases hab with ⟨rfl, rfl⟩ | ⟨i, v, v', rfl, rfl, hv⟩
      · dsimp only
        refine sim_bind (sim_zeroValue hz (hz.mp _ _ _ ht hd)) ?_
        rintro ζ z _ - ⟨rfl, hg⟩
        cases ok
        · exact sim_pure (VR.refl hg)
        · refine sim_pure (.tuple rfl ?_)
          intro i h1 h2
          match i, h1 with
          | 0, _ => exact VR.refl hg
          | 1, _ => exact .bool _
      · dsimp only
        cases ok
        · exact sim_pure hv
        · refine sim_pure (.tuple rfl ?_)
          intro i h1 h2
          match i, h1 with
          | 0, _ => exact hv
          | 1, _ => exact .bool _
    have hm := h.mono hle
    cases hm with
    | mapN => exact key .nil
    | map hb =>
      refine Sim.getObj hb fun _ _ he => ?_
      cases he with
      | map he cl => exact key he
      | siter x p => exact sim_stuck
    | _ => exact sim_stuck
  | _ => exact sim_stuck

theorem sim_keyThatStays (a b : Value) : Sim P (fun _ x y => x = y) α (Instr.keyThatStays a b) (Instr.keyThatStays a b) := by
  unfold Instr.keyThatStays
  split
  · exact sim_pure rfl
  · exact .dead fun _ => rfl
theorem sim_getObj {r : Nat} {L : Loc} (h : α r = some L) : Sim P ObjR α (getObj r) (getObj L.blk) :=
  Sim.getObj h fun _ _ he => .pure he
theorem sim_setObj {r : Nat} {L : Loc} (h : α r = some L) {es es' : Array MapEntry} (he : EntsR α es es') (cl : Nat) : Sim P (fun _ _ _ => True) α (setObj r (.map es cl)) (setObj L.blk (.map es' cl)) :=
  Sim.setObj h (.map he cl) (.pure trivial)

theorem sim_mapUpdate (t : TypeId) {m m' k v v' : Value} (h : VR α m m') (hk : scalar k = true) (hv : VR α v v') : Sim P (fun _ _ _ => True) α (Instr.mapUpdate t m k v) (Instr.mapUpdate t m' k v') := by
  unfold Instr.mapUpdate
  refine sim_bind (sim_underlying t) ?_
  rintro β d d' hle ⟨rfl, -⟩
  cases d with
  | map kt elem =>
    have hm := h.mono hle
    cases hm with
    | mapN => exact sim_runtimePanic
    | map hb =>
      refine sim_bind (sim_getObj hb) ?_
      intro β0 _ _ hle0 he
      cases he with
      | siter x p => exact sim_stuck
      | @map es es' he cl =>
      dsimp only
      refine sim_bind (sim_checkKey _ _ 9999 kt hk) ?_
      intro δ _ _ hle2 _
      refine sim_bind (sim_findKey kt hk (EntsR.f2 (he.mono hle2))) ?_
      intro ε a b hle3 hab
      have he2 := he.mono (hle2.trans hle3)
      have hb2 := hle3 _ _ (hle2 _ _ (hle0 _ _ hb))
      have hv2 := hv.mono (hle.trans (hle0.trans (hle2.trans hle3)))
      rcases hab with ⟨rfl, rfl⟩ | ⟨i, u, u', rfl, rfl, hu⟩
      · dsimp only
        exact sim_setObj hb2 (he2.push (v := { key := k, val := v, born := cl }) (v' := { key := k, val := v', born := cl }) ⟨rfl, rfl, hv2⟩) _
      · dsimp only
        have e : (((es'[i]?).map (·.key)).getD k) = (((es[i]?).map (·.key)).getD k) := by
          rcases he2.get? i with ⟨a, b⟩ | ⟨x, y, a, b, c⟩
          · rw [a, b]
          · rw [a, b]; simp [c.1]
        rw [e]
        refine sim_bind (sim_keyThatStays _ _) ?_
        rintro ζ q _ hle4 rfl
        exact sim_setObj (hle4 _ _ hb2) ((he2.mono hle4).modify i (f := fun e => { e with key := q, val := v }) (f' := fun e => { e with key := q, val := v' }) fun a b hab => ⟨rfl, hab.2.1, hv2.mono hle4⟩) _
    | _ => exact sim_stuck
  | _ => exact sim_stuck

theorem sim_mapEntry (hz : ZeroOK P) {t : TypeId} (ht : t < P.types.size) {m m' k : Value} (h : VR α m m') (hk : scalar k = true) : Sim P VR α (Instr.mapEntry t m k) (Instr.mapEntry t m' k) := by
  unfold Instr.mapEntry
  refine sim_bind (sim_underlying t) ?_
  rintro β d d' hle ⟨rfl, hd⟩
  cases d with
  | map kt elem =>
    have hm := h.mono hle
    cases hm with
    | mapN => exact sim_runtimePanic
    | map hb =>
      refine sim_bind (sim_getObj hb) ?_
      intro β0 _ _ hle0 he
      cases he with
      | siter x p => exact sim_stuck
      | @map es es' he cl =>
      dsimp only
      refine sim_bind (sim_checkKey _ _ 9999 kt hk) ?_
      intro δ _ _ hle2 _
      refine sim_bind (sim_findKey kt hk (EntsR.f2 (he.mono hle2))) ?_
      intro ε a b hle3 hab
      have he2 := he.mono (hle2.trans hle3)
      have hb2 := hle3 _ _ (hle2 _ _ (hle0 _ _ hb))
      rcases hab with ⟨rfl, rfl⟩ | ⟨i, u, u', rfl, rfl, hu⟩
      · dsimp only
        refine sim_bind (sim_zeroValue hz (hz.mp _ _ _ ht hd)) ?_
        rintro ζ z _ hle4 ⟨rfl, hg⟩
        refine sim_bind (sim_setObj (hle4 _ _ hb2) ((he2.mono hle4).push ⟨rfl, rfl, VR.refl hg⟩) _) ?_
        intro η _ _ _ _
        refine sim_pure (.tuple rfl ?_)
        intro i h1 h2
        match i, h1 with
        | 0, _ => exact VR.refl hg
        | 1, _ => exact .int _ _
      · dsimp only
        have e : (((es'[i]?).map (·.key)).getD k) = (((es[i]?).map (·.key)).getD k) ∧ (((es'[i]?).map fun x => (x.born : Int)).getD 0) = (((es[i]?).map fun x => (x.born : Int)).getD 0) := by
          rcases he2.get? i with ⟨a, b⟩ | ⟨x, y, a, b, c⟩
          · rw [a, b]; exact ⟨rfl, rfl⟩
          · rw [a, b]; simp [c.1, c.2.1]
        rw [e.1, e.2]
        refine sim_bind (sim_keyThatStays _ _) ?_
        rintro ζ q _ hle4 rfl
        refine sim_bind (sim_setObj (hle4 _ _ hb2) ((he2.mono hle4).modify i (f := fun e => { e with key := q }) (f' := fun e => { e with key := q }) fun a b hab => ⟨rfl, hab.2.1, hab.2.2⟩) _) ?_
        intro η _ _ hle5 _
        refine sim_pure (.tuple rfl ?_)
        intro i h1 h2
        match i, h1 with
        | 0, _ => exact hu.mono (hle4.trans hle5)
        | 1, _ => exact .int _ _
    | _ => exact sim_stuck
  | _ => exact sim_stuck

theorem findIdx_rel (p : MapEntry → Bool) (hp : ∀ a b : MapEntry, a.born = b.born → p a = p b) {x x' : Array MapEntry} (h : EntsR α x x') : x'.findIdx? p = x.findIdx? p := by
  have : ∀ (l l' : List MapEntry), F2 (EntR α) l l' → l'.findIdx? p = l.findIdx? p := by
    intro l l' k
    induction k with
    | nil => rfl
    | cons h _ ih => simp only [List.findIdx?_cons, hp _ _ h.2.1, ih]
  have := this _ _ h.f2
  obtain ⟨l⟩ := x
  obtain ⟨l'⟩ := x'
  simpa using this
theorem sim_entryStore (t : TypeId) {m m' s s' v v' : Value} (h : VR α m m') (hs : VR α s s') (hv : VR α v v') : Sim P (fun _ _ _ => True) α (Instr.entryStore t m s v) (Instr.entryStore t m' s' v') := by
  unfold Instr.entryStore
  cases h with
  | map hb =>
    refine sim_bind (sim_getObj hb) ?_
    intro β0 _ _ hle0 he
    cases he with
    | siter x p => exact sim_stuck
    | @map es es' he cl =>
    dsimp only
    refine sim_bind (sim_asInt (hs.mono hle0)) ?_
    rintro β n _ hle rfl
    have he2 := he.mono hle
    rw [findIdx_rel (fun e => (e.born : Int) == n) (fun a b e => by simp [e]) he2]
    cases es.findIdx? (fun e => (e.born : Int) == n) with
    | none => exact sim_unsupported
    | some i => exact sim_setObj (hle _ _ (hle0 _ _ hb)) (he2.modify i (f := fun e => { e with val := v }) (f' := fun e => { e with val := v' }) fun a b hab => ⟨hab.1, hab.2.1, hv.mono (hle0.trans hle)⟩) _
  | _ => exact sim_stuck

theorem EntsR.erase {x x' : Array MapEntry} (h : EntsR α x x') (i : Nat) : EntsR α (x.eraseIdxIfInBounds i) (x'.eraseIdxIfInBounds i) := by
  have e1 : ∀ y : Array MapEntry, (y.eraseIdxIfInBounds i).toList = y.toList.eraseIdx i := by
    intro y
    unfold Array.eraseIdxIfInBounds
    split
    · simp
    · rw [List.eraseIdx_of_length_le]; simpa using (by omega)
  have hl : (x.toList.eraseIdx i).length = (x'.toList.eraseIdx i).length := by simp [List.length_eraseIdx, h.1]
  have h1 : ∀ y : Array MapEntry, (y.eraseIdxIfInBounds i).size = (y.toList.eraseIdx i).length := fun y => by rw [← e1, Array.length_toList]
  refine ⟨by rw [h1, h1, hl], fun j a b => ?_⟩
  have g : ∀ (y : Array MapEntry) (hj : j < (y.eraseIdxIfInBounds i).size), (y.eraseIdxIfInBounds i)[j] = (y.toList.eraseIdx i)[j]'(by rw [← h1]; exact hj) := by
    intro y hj
    simp only [← Array.getElem_toList, e1]
  rw [g, g, List.getElem_eraseIdx, List.getElem_eraseIdx]
  split
  · simpa using h.2 j (by have := h1 x; rw [List.length_eraseIdx] at this; simp at this; split at this <;> omega) (by have := h1 x'; rw [List.length_eraseIdx] at this; simp at this; split at this <;> omega)
  · simpa using h.2 (j + 1) (by have := h1 x; rw [List.length_eraseIdx] at this; simp at this; split at this <;> omega) (by have := h1 x'; rw [List.length_eraseIdx] at this; simp at this; split at this <;> omega)
end
end Go.Den
