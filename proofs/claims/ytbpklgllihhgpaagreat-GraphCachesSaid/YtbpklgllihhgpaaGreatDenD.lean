/- The instructions, one by one. -/
import Derived.Test.YtbpklgllihhgpaaGreatDenC
namespace Go.Den
noncomputable section
variable {P : Program} {α : AM}

theorem sim_value {s : Sem Value} {s' : Sem Value} (h : Sim P VR α s s') : Sim P NR α (do pure (Next.value (← s))) (do pure (Next.value (← s'))) :=
  sim_bind h fun _ _ _ _ hv => sim_pure (.value hv)
theorem sim_unit {s : Sem Unit} {s' : Sem Unit} (h : Sim P (fun _ _ _ => True) α s s') : Sim P NR α (do s; pure Next.skip) (do s'; pure Next.skip) :=
  sim_bind h fun _ _ _ _ _ => sim_pure .skip

theorem sim_alloc (hz : ZeroOK P) {e : TypeId} (ht : e < P.types.size) : Sim P VR α (Instr.alloc e true (.tuple #[])) (Instr.alloc e true (.tuple #[])) := by
  unfold Instr.alloc
  refine sim_bind (sim_zeroValue hz ht) ?_
  rintro β v v' - ⟨rfl, hg⟩
  refine sim_bind (sim_newVar e e (VR.refl hg)) ?_
  rintro γ a a' - ha
  exact sim_pure ha.ar.ptr
theorem sim_box (e : TypeId) {v v' : Value} (h : VR α v v') : Sim P VR α (Instr.box e v) (Instr.box e v') := by
  unfold Instr.box
  refine sim_bind (sim_newVar e e h) ?_
  rintro γ a a' - ha
  exact sim_pure ha.ar.ptr

inductive F2 {A B : Type} (R : A → B → Prop) : List A → List B → Prop where
  | nil : F2 R [] []
  | cons {a : A} {b : B} {l : List A} {l' : List B} (h : R a b) (k : F2 R l l') : F2 R (a :: l) (b :: l')
/-- parts of a composite value -/
def PR (α : AM) (x y : List (Nat × Value)) : Prop := F2 (fun a b => a.1 = b.1 ∧ VR α a.2 b.2) x y
theorem fill_foldl {cs cs' : Array Value} (off : Nat) : ∀ (l l' : List (Value × Nat)) {x x' : Array Value}, VRs α x x' → F2 (fun a b => a.2 = b.2 ∧ VR α a.1 b.1) l l' →
    VRs α (l.foldl (fun cs (c, j) => cs.setIfInBounds (off + j) c) x) (l'.foldl (fun cs (c, j) => cs.setIfInBounds (off + j) c) x')
  | [], _, _, _, hx, h => by cases h; exact hx
  | (c, j) :: l, _, x, x', hx, h => by
    cases h with
    | cons h1 h2 =>
      rename_i b l2
      obtain ⟨c', j'⟩ := b
      obtain ⟨rfl, hv⟩ := h1
      exact fill_foldl (cs := cs) (cs' := cs') off l l2 (hx.set hv _) h2
theorem zip_rel {x x' : Array Value} (h : VRs α x x') : F2 (fun a b => a.2 = b.2 ∧ VR α a.1 b.1) x.zipIdx.toList x'.zipIdx.toList := by
  have : ∀ (l l' : List Value) (k : Nat), l.length = l'.length → (∀ (i : Nat) (h : i < l.length) (h' : i < l'.length), VR α l[i] l'[i]) →
      F2 (fun (a b : Value × Nat) => a.2 = b.2 ∧ VR α a.1 b.1) (l.zipIdx k) (l'.zipIdx k) := by
    intro l
    induction l with
    | nil => intro l' k hl _; cases l' with
      | nil => exact .nil
      | cons _ _ => simp at hl
    | cons a l ih =>
      intro l' k hl hv
      cases l' with
      | nil => simp at hl
      | cons b l' => exact .cons ⟨rfl, hv 0 (by simp) (by simp)⟩ (ih l' (k + 1) (by simpa using hl) fun i h1 h2 => hv (i + 1) (by simpa using h1) (by simpa using h2))
  have := this x.toList x'.toList 0 (by simpa using h.1) fun i h1 h2 => by simpa using h.2 i (by simpa using h1) (by simpa using h2)
  simpa [Array.toList_zipIdx] using this
theorem fill_rel (place : Nat → Option (Nat × Nat)) : ∀ (l l' : List (Nat × Value)) {x x' : Array Value}, VRs α x x' → PR α l l' →
    (Instr.fill place x l = none ∧ Instr.fill place x' l' = none) ∨ ∃ y y', Instr.fill place x l = some y ∧ Instr.fill place x' l' = some y' ∧ VRs α y y'
  | [], _, x, x', hx, h => by cases h; exact .inr ⟨x, x', rfl, rfl, hx⟩
  | (i, v) :: l, _, x, x', hx, h => by
    cases h with
    | cons h1 h2 =>
      rename_i b l2
      obtain ⟨i', v'⟩ := b
      obtain ⟨rfl, hv⟩ := h1
      simp only [Instr.fill]
      cases place i with
      | none => exact .inl ⟨rfl, rfl⟩
      | some p =>
        obtain ⟨off, size⟩ := p
        have hc := VR.cells hv
        have e1 : (v'.cells.size ≠ size || off + v'.cells.size > x'.size : Bool) = (v.cells.size ≠ size || off + v.cells.size > x.size : Bool) := by rw [← hc.1, ← hx.1]
        simp only []
        by_cases e : (v.cells.size ≠ size || off + v.cells.size > x.size : Bool) = true
        · rw [if_pos e, if_pos (by rw [e1]; exact e)]; exact .inl ⟨rfl, rfl⟩
        · rw [if_neg e, if_neg (by rw [e1]; exact e)]
          refine fill_rel place l l2 ?_ h2
          rw [← Array.foldl_toList, ← Array.foldl_toList]
          exact fill_foldl (cs := x) (cs' := x') off _ _ hx (zip_rel hc)

theorem sim_mapM {A B C : Type} {R : AM → B → C → Prop} (hm : ∀ {α β : AM} {b c}, Le α β → R α b c → R β b c) (f : A → Sem B) (f' : A → Sem C) :
    ∀ (l : List A) {α : AM}, (∀ a ∈ l, ∀ β, Le α β → Sim P R β (f a) (f' a)) → Sim P (fun γ x y => F2 (R γ) x y) α (l.mapM f) (l.mapM f')
  | [], _, _ => sim_pure .nil
  | a :: l, α, h => by
    rw [List.mapM_cons, List.mapM_cons]
    refine sim_bind (h a (by simp) α (.refl _)) ?_
    intro β b c hle hbc
    refine sim_bind (sim_mapM (R := R) hm f f' l fun x hx γ hγ => h x (by simp [hx]) γ (hle.trans hγ)) ?_
    intro γ y z hle' hyz
    exact sim_pure (.cons (hm hle' hbc) hyz)
theorem F2.eq {A : Type} : ∀ {x y : List A}, F2 (fun a b => a = b) x y → x = y
  | _, _, .nil => rfl
  | _, _, .cons h k => by rw [h, F2.eq k]
theorem sim_mapM_arr {A B : Type} (f : A → Sem B) (l : Array A) (h : ∀ a ∈ l.toList, ∀ β, Le α β → Sim P (fun _ x y => x = y) β (f a) (f a)) :
    Sim P (fun _ x y => x = y) α (l.mapM f) (l.mapM f) := by
  obtain ⟨l⟩ := l
  rw [List.mapM_toArray, map_eq_pure_bind]
  refine sim_bind (sim_mapM (R := fun _ x y => x = y) (fun _ h => h) f f l h) ?_
  intro β x y _ hxy
  exact sim_pure (by rw [hxy.eq])

theorem VRs.refl {v : Value} (h : ground v = true) : VRs α v.cells v.cells := (VR.refl h).cells

theorem sim_build (hz : ZeroOK P) {t : TypeId} (ht : t < P.types.size) {x y : Array (Nat × Value)} (h : PR α x.toList y.toList) : Sim P VR α (Instr.build t x) (Instr.build t y) := by
  unfold Instr.build
  refine sim_bind (sim_zeroValue hz ht) ?_
  rintro β z z' hle ⟨rfl, hg⟩
  have hm : ∀ {γ : AM} (_ : Le α γ) {l l' : List (Nat × Value)}, PR α l l' → PR γ l l' := by
    intro γ hγ l l' hl
    induction hl with
    | nil => exact .nil
    | cons h _ ih => exact .cons ⟨h.1, h.2.mono hγ⟩ ih
  refine sim_bind (sim_underlying t) ?_
  rintro γ d d' hle2 ⟨rfl, -⟩
  have hl := hle.trans hle2
  cases d with
  | struct fields =>
    refine sim_bind (sim_mapM_arr _ fields fun f _ β _ => ?_) ?_
    · refine sim_bind (sim_sizeOf f.type) ?_
      rintro _ n n' - ⟨rfl, -⟩
      exact sim_pure rfl
    · rintro δ p p' hle3 rfl
      rcases fill_rel (α := δ) (p[·]?) x.toList y.toList (VRs.refl hg) (hm (hl.trans hle3) h) with ⟨e, e'⟩ | ⟨u, u', e, e', hu⟩
      · rw [e, e']; exact sim_stuck
      · rw [e, e']; exact sim_pure (.agg hu.1 hu.2)
  | array len elem =>
    refine sim_bind (sim_sizeOf elem) ?_
    rintro δ n n' hle3 ⟨rfl, -⟩
    rcases fill_rel (α := δ) (fun i => some (i * n, n)) x.toList y.toList (VRs.refl hg) (hm (hl.trans hle3) h) with ⟨e, e'⟩ | ⟨u, u', e, e', hu⟩
    · rw [e, e']; exact sim_stuck
    · rw [e, e']; exact sim_pure (.agg hu.1 hu.2)
  | _ => exact sim_stuck

theorem ground_cells {v : Value} (h : ground v = true) (hn : ∀ cs, v ≠ .tuple cs) : v.cells.toList.all ground0 = true := by
  cases v <;> first | (simpa [ground, ground1, Value.cells] using h) | exact absurd rfl (hn _)

theorem sim_buildSlice (hz : ZeroOK P) {t : TypeId} (ht : t < P.types.size) (len : Nat) (hG : len < G) {x y : Array (Nat × Value)} (h : PR α x.toList y.toList) : Sim P VR α (Instr.buildSlice t len x) (Instr.buildSlice t len y) := by
  unfold Instr.buildSlice
  have hm : ∀ {γ : AM} (_ : Le α γ) {l l' : List (Nat × Value)}, PR α l l' → PR γ l l' := by
    intro γ hγ l l' hl
    induction hl with
    | nil => exact .nil
    | cons h _ ih => exact .cons ⟨h.1, h.2.mono hγ⟩ ih
  refine sim_bind (sim_underlying t) ?_
  rintro β d d' hle ⟨rfl, hd⟩
  cases d with
  | slice elem =>
    refine sim_bind (sim_sizeOf elem) ?_
    rintro γ n n' hle2 ⟨rfl, -⟩
    by_cases hb : len * n > 2 ^ 24
    · simp only [hb, if_true]; exact sim_unsupported_bind
    simp only [hb, if_false]
    have key : ∀ {δ : AM} (z : Array Value), Le γ δ → VRs δ z z → Sim P VR δ
        (do
          let some cells := Instr.fill (fun i => some (i * n, n)) ((Array.range (len * n)).map (z[· % z.size]!)) x.toList | stuck "buildSlice: a part of the wrong size"
          pure (.slice (some (← newRow elem cells)) len len))
        (do
          let some cells := Instr.fill (fun i => some (i * n, n)) ((Array.range (len * n)).map (z[· % z.size]!)) y.toList | stuck "buildSlice: a part of the wrong size"
          pure (.slice (some (← newRow elem cells)) len len)) := by
      intro δ z hle3 hz'
      have hr : VRs δ ((Array.range (len * n)).map (fun i => z[i % z.size]!)) ((Array.range (len * n)).map (fun i => z[i % z.size]!)) := by
        refine ⟨rfl, fun i h1 h2 => ?_⟩
        simp only [Array.getElem_map, Array.getElem_range]
        by_cases e : i % z.size < z.size
        · rw [getElem!_pos z _ e]; exact hz'.2 _ e e
        · rw [getElem!_neg z _ e]; exact .bool false
      rcases fill_rel (α := δ) (fun i => some (i * n, n)) x.toList y.toList hr (hm ((hle.trans hle2).trans hle3) h) with ⟨e, e'⟩ | ⟨u, u', e, e', hu⟩
      · rw [e, e']; exact sim_stuck
      · rw [e, e']
        refine sim_bind (sim_newRow elem elem hu) ?_
        rintro ε a a' _ ⟨b, L, rfl, h2, h3, _, rfl⟩
        have hv := VR.sliceX (α := ε) (off := 0) (len := len) (cap := len) h2 hG
        rw [h3] at hv
        exact sim_pure hv
    split
    · exact key #[] (.refl _) .nil
    · refine sim_bind (sim_zeroValue hz (hz.sl _ _ ht hd)) ?_
      rintro β' a b hle3 ⟨rfl, hg⟩
      exact key a.cells hle3 (VRs.refl hg)
  | _ => exact sim_stuck

theorem wrap64_lt (n : Int) : (IntKind.i64.wrap n).toNat < G := by
  unfold IntKind.wrap G
  simp only [IntKind.bits, IntKind.signed, Bool.true_and]
  split <;> rename_i h <;> simp at h <;> omega
theorem sim_makeSlice (hz : ZeroOK P) {t : TypeId} (ht : t < P.types.size) {v v' u u' : Value} (hv : VR α v v') (hu : VR α u u') : Sim P VR α (Instr.makeSlice t v u) (Instr.makeSlice t v' u') := by
  unfold Instr.makeSlice
  refine sim_bind (sim_underlying t) ?_
  rintro β d d' hle ⟨rfl, hd⟩
  cases d with
  | slice elem =>
    refine sim_bind (sim_asInt (hv.mono hle)) ?_
    rintro γ len len' hle1 rfl
    refine sim_bind (sim_asInt (hu.mono (hle.trans hle1))) ?_
    rintro δ cap cap' hle2 rfl
    refine sim_bind (sim_typeInfo elem) ?_
    rintro ε i i' hle3 ⟨rfl, -⟩
    have key : ∀ {δ : AM} (n : Nat) (z : Array Value), Le ε δ → VRs δ z z → Sim P VR δ
        (do let a ← newRow elem ((Array.range n).map (z[· % z.size]!)); pure (.slice (some a) (IntKind.i64.wrap len).toNat (IntKind.i64.wrap cap).toNat))
        (do let a ← newRow elem ((Array.range n).map (z[· % z.size]!)); pure (.slice (some a) (IntKind.i64.wrap len).toNat (IntKind.i64.wrap cap).toNat)) := by
      intro δ n z hle3 hz'
      have hr : VRs δ ((Array.range n).map (fun i => z[i % z.size]!)) ((Array.range n).map (fun i => z[i % z.size]!)) := by
        refine ⟨rfl, fun i h1 h2 => ?_⟩
        simp only [Array.getElem_map, Array.getElem_range]
        by_cases e : i % z.size < z.size
        · rw [getElem!_pos z _ e]; exact hz'.2 _ e e
        · rw [getElem!_neg z _ e]; exact .bool false
      refine sim_bind (sim_newRow elem elem hr) ?_
      rintro ε a a' _ ⟨b, L, rfl, h2, h3, _, rfl⟩
      have hv := VR.sliceX (α := ε) (off := 0) (len := (IntKind.i64.wrap len).toNat) (cap := (IntKind.i64.wrap cap).toNat) h2 (wrap64_lt cap)
      rw [h3] at hv
      exact sim_pure hv
    have fin : Sim P VR ε
        (do
          askRoom ((IntKind.i64.wrap cap).toNat * i.bytes)
          let n := (IntKind.i64.wrap cap).toNat * (← sizeOf elem)
          let zero ← if n = 0 then pure #[] else do pure (← zeroValue elem).cells
          let a ← newRow elem ((Array.range n).map (zero[· % zero.size]!))
          pure (.slice (some a) (IntKind.i64.wrap len).toNat (IntKind.i64.wrap cap).toNat))
        (do
          askRoom ((IntKind.i64.wrap cap).toNat * i.bytes)
          let n := (IntKind.i64.wrap cap).toNat * (← sizeOf elem)
          let zero ← if n = 0 then pure #[] else do pure (← zeroValue elem).cells
          let a ← newRow elem ((Array.range n).map (zero[· % zero.size]!))
          pure (.slice (some a) (IntKind.i64.wrap len).toNat (IntKind.i64.wrap cap).toNat)) := by
      have hroom : Sim P (fun _ _ _ => True) ε (askRoom ((IntKind.i64.wrap cap).toNat * i.bytes)) (askRoom ((IntKind.i64.wrap cap).toNat * i.bytes)) := by
        unfold askRoom
        split
        · exact .mark (.pure trivial)
        · exact sim_pure trivial
      refine sim_bind hroom ?_
      rintro ζ - - hle4 -
      refine sim_bind (sim_sizeOf elem) ?_
      rintro η n n' hle5 ⟨rfl, -⟩
      dsimp only
      split
      · exact key _ #[] (hle4.trans hle5) .nil
      · refine sim_bind (sim_zeroValue hz (hz.sl _ _ ht hd)) ?_
        rintro θ a b hle6 ⟨rfl, hg⟩
        exact key _ a.cells ((hle4.trans hle5).trans hle6) (VRs.refl hg)
    simp only
    split
    · refine .dead fun m => ?_
      split
      · exact dead_bindl _ _ (fun m => runtimePanic_dead _ m) m
      · split
        · exact dead_bindl _ _ (fun m => runtimePanic_dead _ m) m
        · rfl
    · exact fin
  | _ => exact sim_stuck

theorem sim_fieldAt (s : TypeId) {v v' : Value} (h : VR α v v') (f : Nat) : Sim P VR α (Instr.fieldAt s v f) (Instr.fieldAt s v' f) := by
  unfold Instr.fieldAt
  refine sim_bind (sim_underlying s) ?_
  rintro β d d' hle ⟨rfl, -⟩
  cases d with
  | struct fields =>
    cases hf : fields[f]? with
    | none => simp only [hf]; exact sim_stuck
    | some fl =>
      simp only [hf]
      refine sim_bind (sim_sureAddr (h.mono hle)) ?_
      intro γ a a' _ ha
      unfold fieldPlace
      refine sim_bind (R := AR) ?_ fun _ _ _ _ hb => sim_pure hb.ptr
      refine sim_bind (sim_sizeOf fl.type) ?_
      rintro δ n n' hle3 ⟨rfl, -⟩
      by_cases hn : n = 0
      · simp only [hn, if_true]
        obtain ⟨b, off, L, rfl, h2, rfl⟩ := ha
        exact .dead fun m => rfl
      · simp only [hn, if_false]
        exact sim_pure ((ha.mono hle3).add _)
  | _ => exact sim_stuck

theorem sim_tiny {A B : Type} {R : AM → A → B → Prop} {c : Prop} [Decidable c] {u : Unsupported} {k : IntKind} {x y : Int} {z : BoundsCode} {s : Sem B} : Sim P R α (if c then (unsupported u : Sem A) else boundsPanic k x y z) s := by
  split
  · exact sim_unsupported
  · exact sim_boundsPanic
theorem sim_indexAt (t : TypeId) {v v' i i' : Value} (h : VR α v v') (hi : VR α i i') : Sim P VR α (Instr.indexAt t v i) (Instr.indexAt t v' i') := by
  unfold Instr.indexAt
  refine sim_bind (sim_asIntOf hi) ?_
  rintro β ⟨k, n⟩ _ hle rfl
  dsimp only
  refine sim_bind (sim_underlying t) ?_
  rintro γ d d' hle2 ⟨rfl, -⟩
  have h2 := h.mono (hle.trans hle2)
  cases d with
  | array len elem =>
    dsimp only
    refine sim_bind (sim_sureAddr h2) ?_
    intro δ a a' hle3 ha
    simp only [pure_bind]
    refine sim_bind (sim_underlying t) ?_
    rintro ε d2 d2' hle4 ⟨rfl, -⟩
    by_cases hc : 0 ≤ n ∧ n < (len : Int)
    · simp only [hc, and_self, if_true]
      refine sim_bind (sim_sizeOf elem) ?_
      rintro ζ s s' hle5 ⟨rfl, -⟩
      exact sim_pure ((ha.mono (hle4.trans hle5)).add _).ptr
    · simp only [hc, if_false]
      exact sim_tiny
  | slice elem =>
    cases h2 with
    | sliceN l c =>
      simp only [pure_bind]
      refine sim_bind (sim_underlying t) ?_
      rintro ε d2 d2' hle4 ⟨rfl, -⟩
      exact sim_boundsPanic
    | @sliceX b off len cap L hb hc0 =>
      have ha : AR γ ⟨b, off, none⟩ ⟨L.blk, L.sh + off, none⟩ := ⟨_, _, _, rfl, hb, rfl⟩
      simp only [pure_bind]
      refine sim_bind (sim_underlying t) ?_
      rintro ε d2 d2' hle4 ⟨rfl, -⟩
      by_cases hc : 0 ≤ n ∧ n < (len : Int)
      · simp only [hc, and_self, if_true]
        refine sim_bind (sim_sizeOf elem) ?_
        rintro ζ s s' hle5 ⟨rfl, -⟩
        exact sim_pure ((ha.mono (hle4.trans hle5)).add _).ptr
      · simp only [hc, if_false]
        exact sim_tiny
    | @sliceG b off len cap es L hb hl ht =>
      have ha : AR γ ⟨b, off, none⟩ ⟨L.blk, L.sh + off, none⟩ := ⟨_, _, _, rfl, hb, rfl⟩
      simp only [pure_bind]
      refine sim_bind (sim_underlying t) ?_
      rintro ε d2 d2' hle4 ⟨rfl, -⟩
      by_cases hc : 0 ≤ n ∧ n < (len : Int)
      · simp only [hc, and_self, if_true]
        refine sim_bind (sim_sizeOf elem) ?_
        rintro ζ s s' hle5 ⟨rfl, -⟩
        exact sim_pure ((ha.mono (hle4.trans hle5)).add _).ptr
      · simp only [hc, if_false]
        exact sim_tiny
    | sliceE h =>
      simp only [pure_bind]
      refine sim_bind (sim_underlying t) ?_
      rintro ε d2 d2' hle4 ⟨rfl, -⟩
      have hc : ¬(0 ≤ n ∧ n < ((0 : Nat) : Int)) := by omega
      simp only [hc, if_false]
      exact sim_tiny
    | _ => exact sim_stuck
  | _ => exact sim_stuck

theorem sim_field (t : TypeId) {v v' : Value} (h : VR α v v') (f : Nat) : Sim P VR α (Instr.field t v f) (Instr.field t v' f) := by
  unfold Instr.field
  refine sim_bind (sim_underlying t) ?_
  rintro β d d' hle ⟨rfl, -⟩
  cases d with
  | struct fields =>
    cases hf : fields[f]? with
    | none => simp only [hf]; exact sim_stuck
    | some fl =>
      simp only [hf]
      refine sim_bind (R := VRs) ?_ fun γ a a' _ ha => sim_part _ ha _
      cases h with
      | agg hx hr => exact sim_pure (VRs.mono hle ⟨hx, hr⟩)
      | _ => exact sim_stuck
  | _ => exact sim_stuck

theorem sim_index (t : TypeId) {v v' i i' : Value} (h : VR α v v') (hi : VR α i i') : Sim P VR α (Instr.index t v i) (Instr.index t v' i') := by
  unfold Instr.index
  refine sim_bind (sim_asIntOf hi) ?_
  rintro β ⟨k, n⟩ _ hle rfl
  dsimp only
  refine sim_bind (sim_underlying t) ?_
  rintro γ d d' hle2 ⟨rfl, -⟩
  have h2 := h.mono (hle.trans hle2)
  cases d with
  | array len elem =>
    cases h2 with
    | agg hx hr =>
      by_cases hc : 0 ≤ n ∧ n < (len : Int)
      · simp only [hc, and_self, if_true]
        refine sim_bind (sim_sizeOf elem) ?_
        rintro ζ s s' hle5 ⟨rfl, -⟩
        exact sim_part _ (VRs.mono hle5 ⟨hx, hr⟩) _
      · simp only [hc, if_false]; exact sim_boundsPanic
    | _ => exact sim_stuck
  | string =>
    cases h2 with
    | string s =>
      dsimp only
      split
      · exact sim_pure (.int _ _)
      · exact sim_boundsPanic
    | _ => exact sim_stuck
  | _ => exact sim_stuck

theorem sim_makeMap (t : TypeId) : Sim P VR α (Instr.makeMap t none) (Instr.makeMap t none) := by
  unfold Instr.makeMap
  exact Sim.newObj (.map ⟨rfl, fun i h => absurd h (Nat.not_lt_zero _)⟩ 0) fun β b L _ h _ => .pure (.map h)

theorem sim_makeInterface (t : TypeId) {v v' : Value} (h : VR α v v') : Sim P VR α (Instr.makeInterface t v) (Instr.makeInterface t v') := by
  unfold Instr.makeInterface
  refine sim_bind (sim_underlying t) ?_
  rintro γ d d' hle ⟨rfl, -⟩
  cases d with
  | interface _ => exact sim_stuck
  | _ => exact sim_pure (.iface t (h.mono hle))

theorem sim_extract {v v' : Value} (h : VR α v v') (i : Nat) : Sim P VR α (Instr.extract v i) (Instr.extract v' i) := by
  unfold Instr.extract
  cases h with
  | tuple hx hr =>
    dsimp only
    rcases VRs.get? (α := α) ⟨hx, hr⟩ i with ⟨e, e'⟩ | ⟨u, u', e, e', hu⟩
    · rw [e, e']; exact sim_stuck
    · rw [e, e']; exact sim_pure hu
  | _ => exact sim_stuck

/-! ### maps -/
def scalar : Value → Bool
  | .bool _ | .int _ _ | .string _ => true
  | _ => false
theorem sim_checkKey (e e' : Bool) (n : Nat) (t : TypeId) {v : Value} (h : scalar v = true) : Sim P (fun _ _ _ => True) α (Instr.checkKey e (n + 1) t v) (Instr.checkKey e' (n + 1) t v) := by
  unfold Instr.checkKey
  refine sim_bind (sim_underlying t) ?_
  rintro γ d d' hle ⟨rfl, -⟩
  cases v <;> first | (simp [scalar] at h; done) | (cases d <;> first | exact sim_stuck | exact sim_pure trivial)
theorem sim_equal_scalar (t : TypeId) {k : Value} (key : Value) (h : scalar k = true) : Sim P (fun _ a b => a = b) α (Op.equal t k key) (Op.equal t k key) := by
  unfold Op.equal Op.maxDepth
  show Sim P _ α (Op.equalIn (9999 + 1) t k key) (Op.equalIn (9999 + 1) t k key)
  unfold Op.equalIn
  refine sim_bind (sim_underlying t) ?_
  rintro γ d d' hle ⟨rfl, -⟩
  cases k with
  | bool x => cases key <;> cases d <;> first | exact sim_pure rfl | exact sim_stuck | exact sim_unsupported
  | string x => cases key <;> cases d <;> first | exact sim_pure rfl | exact sim_stuck | exact sim_unsupported
  | int kd x =>
    cases key with
    | int k' y =>
      cases d with
      | int _ =>
        by_cases e : kd = k'
        · simp only [e, if_true]; exact sim_pure rfl
        · simp only [e, if_false]; exact sim_stuck
      | _ => exact sim_stuck
    | pointer p =>
      cases d with
      | int _ =>
        split <;> first | exact sim_pure rfl | exact sim_unsupported | exact sim_stuck | contradiction | simp_all
      | _ => first | exact sim_stuck | exact sim_unsupported
    | _ => cases d <;> first | exact sim_stuck | exact sim_unsupported
  | _ => simp [scalar] at h

/-- what a search in a map gives -/
def FR (α : AM) (a b : Option (Nat × Value)) : Prop := (a = none ∧ b = none) ∨ ∃ i v v', a = some (i, v) ∧ b = some (i, v') ∧ VR α v v'
theorem FR.mono {β : AM} (h : Le α β) {a b : Option (Nat × Value)} (k : FR α a b) : FR β a b := by
  rcases k with k | ⟨i, v, v', h1, h2, h3⟩
  · exact .inl k
  · exact .inr ⟨i, v, v', h1, h2, h3.mono h⟩
theorem findNow_rel (kd : TypeDesc) (k : Value) : ∀ (l l' : List MapEntry) (i : Nat), F2 (EntR α) l l' → (Instr.findNow kd k l i = none ∧ Instr.findNow kd k l' i = none) ∨
    ∃ a b, Instr.findNow kd k l i = some a ∧ Instr.findNow kd k l' i = some b ∧ FR α a b
  | _, _, _, .nil => .inr ⟨none, none, rfl, rfl, .inl ⟨rfl, rfl⟩⟩
  | _, _, i, @F2.cons _ _ _ e e' l l' h k' => by
    simp only [Instr.findNow, ← h.1]
    cases Instr.sameNow kd k e.key with
    | none => exact .inl ⟨rfl, rfl⟩
    | some b => cases b with
      | true => exact .inr ⟨_, _, rfl, rfl, .inr ⟨i, _, _, rfl, rfl, h.2.2⟩⟩
      | false => exact findNow_rel kd k l l' (i + 1) k'
theorem F2.mono' {A B : Type} {R S : A → B → Prop} (h : ∀ a b, R a b → S a b) : ∀ {l l'}, F2 R l l' → F2 S l l'
  | _, _, .nil => .nil
  | _, _, .cons a b => .cons (h _ _ a) (F2.mono' h b)
theorem EntR.mono {β : AM} (h : Le α β) {a b : MapEntry} (k : EntR α a b) : EntR β a b := ⟨k.1, k.2.1, k.2.2.mono h⟩
theorem sim_findAsking (t : TypeId) {k : Value} (hk : scalar k = true) : ∀ (l l' : List MapEntry) (i : Nat) {α : AM}, F2 (EntR α) l l' → Sim P FR α (Instr.findAsking t k l i) (Instr.findAsking t k l' i)
  | _, _, _, _, .nil => sim_pure (.inl ⟨rfl, rfl⟩)
  | _, _, i, α, @F2.cons _ _ _ e e' l l' h k' => by
    unfold Instr.findAsking
    rw [← h.1]
    refine sim_bind (sim_equal_scalar t e.key hk) ?_
    rintro β b _ hle rfl
    cases b
    · exact sim_findAsking t hk l l' (i + 1) (k'.mono' fun _ _ => EntR.mono hle)
    · exact sim_pure (.inr ⟨i, _, _, rfl, rfl, h.2.2.mono hle⟩)
theorem EntsR.f2 {x x' : Array MapEntry} (h : EntsR α x x') : F2 (EntR α) x.toList x'.toList := by
  have : ∀ (l l' : List MapEntry), l.length = l'.length → (∀ (i : Nat) (h : i < l.length) (h' : i < l'.length), EntR α l[i] l'[i]) → F2 (EntR α) l l' := by
    intro l
    induction l with
    | nil => intro l' hl _; cases l' with
      | nil => exact .nil
      | cons _ _ => simp at hl
    | cons a l ih =>
      intro l' hl hv
      cases l' with
      | nil => simp at hl
      | cons b l' => exact .cons (hv 0 (by simp) (by simp)) (ih l' (by simpa using hl) fun i h1 h2 => hv (i + 1) (by simpa using h1) (by simpa using h2))
  exact this _ _ (by simpa using h.1) fun i h1 h2 => by simpa using h.2 i (by simpa using h1) (by simpa using h2)
theorem sim_findKey (t : TypeId) {k : Value} (hk : scalar k = true) {l l' : List MapEntry} (h : F2 (EntR α) l l') : Sim P FR α (Instr.findKey t k l) (Instr.findKey t k l') := by
  unfold Instr.findKey
  refine sim_bind (sim_underlying t) ?_
  rintro β d d' hle ⟨rfl, -⟩
  rcases findNow_rel d k l l' 0 (h.mono' fun _ _ => EntR.mono hle) with ⟨e, e'⟩ | ⟨a, b, e, e', hab⟩
  · rw [e, e']; exact sim_findAsking t hk _ _ 0 (h.mono' fun _ _ => EntR.mono hle)
  · rw [e, e']; exact sim_pure hab
end
end Go.Den
