/- Builtins, slices, calls. -/
import Derived.Test.YtbpklgllihhgpaaGreatDenE
namespace Go.Den
noncomputable section
variable {P : Program} {α : AM}

theorem sim_delete (ts : Array TypeId) (t : TypeId) {m m' k : Value} (h : VR α m m') (hk : scalar k = true) : Sim P VR α (Builtin.delete_ ts t #[m, k]) (Builtin.delete_ ts t #[m', k]) := by
  unfold Builtin.delete_
  simp only [List.getElem?_toArray, List.getElem?_cons_zero, List.getElem?_cons_succ]
  cases ts[0]? with
  | none => exact sim_stuck
  | some mt =>
    dsimp only
    refine sim_bind (sim_underlying mt) ?_
    rintro β d d' hle ⟨rfl, -⟩
    cases d with
    | map kt elem =>
      have hm := h.mono hle
      cases hm with
      | mapN =>
        refine sim_bind (sim_checkKey _ _ 9999 kt hk) ?_
        intro _ _ _ _ _
        exact sim_pure (.tuple rfl fun i h => absurd h (Nat.not_lt_zero _))
      | map hb =>
        dsimp only
        refine sim_bind (sim_getObj hb) ?_
        intro β0 _ _ hle0 he
        cases he with
        | siter x p => exact sim_stuck
        | @map es es' he cl =>
        dsimp only
        refine sim_bind (sim_checkKey _ _ 9999 kt hk) ?_
        intro δ _ _ hle2 _
        refine sim_bind (sim_findKey kt hk (EntsR.f2 (he.mono hle2))) ?_
        intro ε a b hle3 hab
        have he2 := he.mono (hle2.trans hle3)
        have hb2 := hle3 _ _ (hle2 _ _ (hle0 _ _ hb))
        rcases hab with ⟨rfl, rfl⟩ | ⟨i, u, u', rfl, rfl, hu⟩
        · dsimp only
          refine sim_bind (sim_setObj hb2 he2 _) ?_
          intro _ _ _ _ _
          exact sim_pure (.tuple rfl fun i h => absurd h (Nat.not_lt_zero _))
        · dsimp only
          refine sim_bind (sim_setObj hb2 (he2.erase i) _) ?_
          intro _ _ _ _ _
          exact sim_pure (.tuple rfl fun i h => absurd h (Nat.not_lt_zero _))
      | _ => exact sim_stuck
    | _ => exact sim_stuck

theorem sim_len (ts : Array TypeId) (t : TypeId) {m m' : Value} (h : VR α m m') : Sim P VR α (Builtin.len_ ts t #[m]) (Builtin.len_ ts t #[m']) := by
  unfold Builtin.len_
  simp only [List.getElem?_toArray, List.getElem?_cons_zero]
  cases ts[0]? with
  | none => exact sim_stuck
  | some mt =>
    dsimp only
    refine sim_bind (sim_underlying mt) ?_
    rintro β d d' hle ⟨rfl, -⟩
    have hm := h.mono hle
    cases d with
    | array n _ => cases hm <;> exact sim_pure (.int _ _)
    | pointer arr =>
      cases hm <;> (
        dsimp only
        refine sim_bind (sim_underlying arr) ?_
        rintro γ d d' hle ⟨rfl, -⟩
        cases d <;> first | exact sim_stuck | exact sim_pure (.int _ _))
    | string => cases hm <;> first | exact sim_pure (.int _ _) | exact sim_stuck
    | slice _ => cases hm <;> first | exact sim_pure (.int _ _) | exact sim_stuck
    | map _ _ =>
      cases hm with
      | mapN => exact sim_pure (.int _ _)
      | map hb =>
        dsimp only
        refine sim_bind (sim_getObj hb) ?_
        intro β0 _ _ hle0 he
        cases he with
        | siter x p => exact sim_stuck
        | @map es es' he cl =>
        dsimp only
        rw [he.1]
        exact sim_pure (.int _ _)
      | _ => exact sim_stuck
    | _ => cases hm <;> exact sim_stuck

theorem sim_clearMap (ts : Array TypeId) (t : TypeId) {r : Nat} {L : Loc} (h : α r = some L) : Sim P VR α (Builtin.clear_ ts t #[.map (some r)]) (Builtin.clear_ ts t #[.map (some L.blk)]) := by
  unfold Builtin.clear_
  simp only [List.getElem?_toArray, List.getElem?_cons_zero]
  cases ts[0]? with
  | none => exact sim_stuck
  | some mt =>
    dsimp only
    refine sim_bind (sim_underlying mt) ?_
    rintro β d d' hle ⟨rfl, -⟩
    have hb := hle _ _ h
    have key : Sim P VR β
        (do
          let .map _ clock ← getObj r | stuck "clear: map expected"
          setObj r (.map #[] clock)
          pure (.tuple #[]))
        (do
          let .map _ clock ← getObj L.blk | stuck "clear: map expected"
          setObj L.blk (.map #[] clock)
          pure (.tuple #[])) := by
      refine sim_bind (sim_getObj hb) ?_
      intro β0 _ _ hle0 he
      cases he with
      | siter x p => exact sim_stuck
      | @map es es' he cl =>
      dsimp only
      refine sim_bind (sim_setObj (hle0 _ _ hb) .nil cl) ?_
      intro _ _ _ _ _
      exact sim_pure (.tuple rfl fun i h => absurd h (Nat.not_lt_zero _))
    cases d <;> exact key

/-! ### a range over a string -/
theorem sim_newIter (x : ByteArray) (p : Nat) : Sim P VR α (do pure (Value.pointer (some ⟨← newObj (.stringIter x p), 0, none⟩))) (do pure (Value.pointer (some ⟨← newObj (.stringIter x p), 0, none⟩))) :=
  Sim.newObj (.siter x p) fun β b L _ h hs => .pure (by
    have := VR.ptr (α := β) (off := 0) h
    rw [hs] at this
    exact this)
theorem sim_range (t : TypeId) {v v' : Value} (h : VR α v v') : Sim P VR α (Instr.range t v) (Instr.range t v') := by
  unfold Instr.range
  refine sim_bind (sim_underlying t) ?_
  rintro β d d' hle ⟨rfl, -⟩
  have h2 := h.mono hle
  cases d with
  | string =>
    cases h2 with
    | string s => exact sim_newIter s 0
    | _ => exact sim_stuck
  | map _ _ =>
    cases h2 with
    | mapN => exact .dead fun m => rfl
    | map hb =>
      refine Sim.getObj hb fun _ _ he => ?_
      cases he with
      | map he cl => exact .dead fun m => rfl
      | siter x p => exact sim_stuck
    | _ => exact sim_stuck
  | _ => cases h2 <;> exact sim_stuck
theorem sim_next (t : TypeId) {v v' : Value} (h : VR α v v') : Sim P VR α (Instr.next v true t) (Instr.next v' true t) := by
  unfold Instr.next
  have over : ∀ {β : AM}, Sim P VR β (pure (Value.tuple #[.bool false])) (pure (Value.tuple #[.bool false])) := fun {β} => sim_pure (VR.refl rfl)
  cases h with
  | @ptr b off L hb =>
    cases off with
    | succ n => exact sim_stuck
    | zero =>
      by_cases hs : L.sh = 0
      · rw [hs]
        refine sim_bind (sim_getObj hb) fun β _ _ hle he => ?_
        have hb := hle _ _ hb
        cases he with
        | map he cl => exact sim_stuck
        | siter x p =>
          dsimp only
          by_cases hp : p < x.size
          · simp only [hp, if_true]
            refine Sim.setObj hb (.siter _ _) ?_
            exact sim_pure (VR.refl rfl)
          · simp only [hp, if_false]
            exact over
      · exact Sim.getBad hb hs
  | _ => exact sim_stuck

/-! ### slices -/
theorem sim_sliceBound {v v' : Value} (h : VR α v v') (n : Nat) (c : BoundsCode) : Sim P (fun _ a b => a = b ∧ a ≤ n) α (Instr.sliceBound v n c) (Instr.sliceBound v' n c) := by
  unfold Instr.sliceBound
  refine sim_bind (sim_asIntOf h) ?_
  rintro β ⟨k, i⟩ _ hle rfl
  dsimp only
  split
  · exact sim_pure ⟨rfl, by omega⟩
  · exact sim_boundsPanic
/-- optional operands -/
def OR (α : AM) (a b : Option Value) : Prop := (a = none ∧ b = none) ∨ ∃ v v', a = some v ∧ b = some v' ∧ VR α v v'
theorem OR.mono {β : AM} (h : Le α β) {a b : Option Value} (k : OR α a b) : OR β a b := by
  rcases k with k | ⟨v, v', h1, h2, h3⟩
  · exact .inl k
  · exact .inr ⟨v, v', h1, h2, h3.mono h⟩
theorem sim_sliceBounds (isS : Bool) (len cap : Nat) {lo lo' hi hi' mx mx' : Option Value} (hl : OR α lo lo') (hh : OR α hi hi') (hm : OR α mx mx') :
    Sim P (fun _ a b => a = b ∧ a.2.2 ≤ cap) α (Instr.sliceBounds isS len cap lo hi mx) (Instr.sliceBounds isS len cap lo' hi' mx') := by
  unfold Instr.sliceBounds
  have e : mx'.isSome = mx.isSome := by rcases hm with ⟨rfl, rfl⟩ | ⟨_, _, rfl, rfl, _⟩ <;> rfl
  rw [e]
  have fin : ∀ {β : AM} (m h : Nat), m ≤ cap → Le α β → Sim P (fun _ a b => a = b ∧ a.2.2 ≤ cap) β
      (do
        let l ← match lo with
          | some v => Instr.sliceBound v h (if mx.isSome then .slice3C else .sliceB)
          | none => pure 0
        pure (l, h, m))
      (do
        let l ← match lo' with
          | some v => Instr.sliceBound v h (if mx.isSome then .slice3C else .sliceB)
          | none => pure 0
        pure (l, h, m)) := by
    intro β m h hc hle
    rcases hl.mono hle with ⟨rfl, rfl⟩ | ⟨v, v', rfl, rfl, hv⟩
    · exact sim_pure ⟨rfl, hc⟩
    · dsimp only
      refine sim_bind (sim_sliceBound hv _ _) ?_
      rintro γ a _ - ⟨rfl, -⟩
      exact sim_pure ⟨rfl, hc⟩
  rcases hm with ⟨rfl, rfl⟩ | ⟨m, m', rfl, rfl, hm⟩
  · simp only [pure_bind]
    rcases hh with ⟨rfl, rfl⟩ | ⟨h, h', rfl, rfl, hh⟩
    · exact fin _ _ (Nat.le_refl _) (.refl _)
    · dsimp only
      refine sim_bind (sim_sliceBound hh _ _) ?_
      rintro γ a _ hle ⟨rfl, -⟩
      exact fin _ _ (Nat.le_refl _) hle
  · dsimp only
    refine sim_bind (sim_sliceBound hm _ _) ?_
    rintro γ a _ hle ⟨rfl, hc⟩
    rcases hh with ⟨rfl, rfl⟩ | ⟨h, h', rfl, rfl, hh⟩
    · exact sim_stuck
    · dsimp only
      refine sim_bind (sim_sliceBound (hh.mono hle) _ _) ?_
      rintro δ b _ hle2 ⟨rfl, -⟩
      exact fin _ _ hc (hle.trans hle2)

/-- a slice whose capacity is known, an array's address, or no slice at all -/
def notG : Value → Bool
  | .slice (some _) _ cap => Nat.blt cap G
  | _ => true
theorem AR.slice {a a' : Addr} (h : AR α a a') (l : Nat) {c : Nat} (hc : c < G) : VR α (.slice (some a) l c) (.slice (some a') l c) := by
  obtain ⟨b, off, L, rfl, h2, rfl⟩ := h; exact .sliceX h2 hc
theorem sim_slicePart {a a' : Addr} (ha : AR α a a') (elem : TypeId) (l h m : Nat) (hm : m < G) : Sim P VR α
    (do let size ← sizeOf elem
        pure (.slice (some (if m = l then a else a.add (l * size))) (h - l) (m - l)))
    (do let size ← sizeOf elem
        pure (.slice (some (if m = l then a' else a'.add (l * size))) (h - l) (m - l))) := by
  refine sim_bind (sim_sizeOf elem) ?_
  rintro δ s _ hle2 ⟨rfl, -⟩
  have ha2 := ha.mono hle2
  split
  · exact sim_pure (ha2.slice _ (by omega))
  · exact sim_pure ((ha2.add _).slice _ (by omega))
theorem sim_slice (hz : ZeroOK P) {t : TypeId} (ht : t < P.types.size) {v v' : Value} (h : VR α v v') (hn : notG v = true) {lo lo' hi hi' mx mx' : Option Value} (hl : OR α lo lo') (hh : OR α hi hi') (hm : OR α mx mx') :
    Sim P VR α (Instr.slice t v lo hi mx) (Instr.slice t v' lo' hi' mx') := by
  unfold Instr.slice
  refine sim_bind (sim_underlying t) ?_
  rintro β d d' hle ⟨rfl, hd⟩
  have h2 := h.mono hle
  have hl2 := hl.mono hle
  have hh2 := hh.mono hle
  have hm2 := hm.mono hle
  cases d with
  | string =>
    cases h2 with
    | string s =>
      dsimp only
      have e : mx'.isSome = mx.isSome := by rcases hm with ⟨rfl, rfl⟩ | ⟨_, _, rfl, rfl, _⟩ <;> rfl
      rw [e]
      split
      · exact sim_stuck_bind
      · refine sim_bind (sim_sliceBounds false _ _ hl2 hh2 (.inl ⟨rfl, rfl⟩)) ?_
        rintro γ ⟨l, h, m⟩ _ - ⟨rfl, -⟩
        exact sim_pure (.string _)
    | _ => exact sim_stuck
  | slice elem =>
    cases h2 with
    | sliceN l c =>
      dsimp only
      refine sim_bind (sim_sliceBounds true _ _ hl2 hh2 hm2) ?_
      rintro γ ⟨l, h, m⟩ _ - ⟨rfl, -⟩
      dsimp only
      refine sim_bind (sim_sizeOf elem) ?_
      rintro δ s _ - ⟨rfl, -⟩
      split <;> exact sim_pure (.sliceN _ _)
    | @sliceX b off len cap L hb hc =>
      have ha : AR β ⟨b, off, none⟩ ⟨L.blk, L.sh + off, none⟩ := ⟨_, _, _, rfl, hb, rfl⟩
      dsimp only
      refine sim_bind (sim_sliceBounds true _ _ hl2 hh2 hm2) ?_
      rintro γ ⟨l, h, m⟩ _ hle2 ⟨rfl, hmc⟩
      have hmc' : m ≤ cap := hmc
      have := sim_slicePart (P := P) (ha.mono hle2) elem l h m (by omega)
      dsimp only
      refine sim_bind (sim_sizeOf elem) ?_
      rintro δ s _ hle3 ⟨rfl, -⟩
      have ha2 := (ha.mono hle2).mono hle3
      split
      · exact sim_pure (ha2.slice _ (by omega))
      · exact sim_pure ((ha2.add _).slice _ (by omega))
    | sliceG h hl ht =>
      have := blt_iff.1 hn
      omega
    | sliceE h =>
      have := blt_iff.1 hn
      omega
    | _ => exact sim_stuck
  | pointer arr =>
    have fin : ∀ {a a' : Addr}, AR β a a' → Sim P VR β
        (do
          let .array n elem ← underlying arr | stuck "Slice: array type expected"
          let (l, h, m) ← Instr.sliceBounds false n n lo hi mx
          let size ← sizeOf elem
          pure (.slice (some (if m = l then a else a.add (l * size))) (h - l) (m - l)))
        (do
          let .array n elem ← underlying arr | stuck "Slice: array type expected"
          let (l, h, m) ← Instr.sliceBounds false n n lo' hi' mx'
          let size ← sizeOf elem
          pure (.slice (some (if m = l then a' else a'.add (l * size))) (h - l) (m - l))) := by
      intro a a' ha
      refine sim_bind (sim_underlying arr) ?_
      rintro γ e _ hle2 ⟨rfl, he⟩
      cases e with
      | array n elem =>
        dsimp only
        refine sim_bind (sim_sliceBounds false _ _ (hl2.mono hle2) (hh2.mono hle2) (hm2.mono hle2)) ?_
        rintro δ ⟨l, h, m⟩ _ hle3 ⟨rfl, hmc⟩
        have hmc' : m ≤ n := hmc
        exact sim_slicePart ((ha.mono hle2).mono hle3) elem l h m (Nat.lt_of_le_of_lt hmc' (hz.arr _ _ _ (hz.pt _ _ ht hd) he))
      | _ => exact sim_stuck
    cases h2 with
    | ptrN =>
      dsimp only
      exact .dead fun m => dead_bindl (asAddr (.pointer none)) _ (fun m => by unfold asAddr; exact runtimePanic_dead _ m) m
    | ptr hb => exact fin ⟨_, _, _, rfl, hb, rfl⟩
    | _ => exact sim_stuck_bind
  | _ => cases h2 <;> exact sim_stuck
theorem sim_sliceAt (hz : ZeroOK P) {t : TypeId} (ht : t < P.types.size) {v v' : Value} (h : VR α v v') (hn : notG v = true) {lo lo' hi hi' mx mx' : Option Value} (hl : OR α lo lo') (hh : OR α hi hi') (hm : OR α mx mx') :
    Sim P VR α (Instr.sliceAt t v lo hi mx) (Instr.sliceAt t v' lo' hi' mx') := by
  unfold Instr.sliceAt
  refine sim_bind (sim_underlying t) ?_
  rintro β d d' hle ⟨rfl, hd⟩
  have h2 := h.mono hle
  cases d with
  | array n elem =>
    dsimp only
    refine sim_bind (sim_sureAddr h2) ?_
    intro γ a a' hle2 ha
    refine sim_bind (sim_sliceBounds false _ _ ((hl.mono hle).mono hle2) ((hh.mono hle).mono hle2) ((hm.mono hle).mono hle2)) ?_
    rintro δ ⟨l, h, m⟩ _ hle3 ⟨rfl, hmc⟩
    have hmc' : m ≤ n := hmc
    exact sim_slicePart (ha.mono hle3) elem l h m (Nat.lt_of_le_of_lt hmc' (hz.arr _ _ _ ht hd))
  | _ => exact sim_slice hz ht h2 hn (hl.mono hle) (hh.mono hle) (hm.mono hle)
end
end Go.Den
