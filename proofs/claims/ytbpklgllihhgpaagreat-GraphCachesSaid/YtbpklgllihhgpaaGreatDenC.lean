/- The model's operations do the same on related values. -/
import Derived.Test.YtbpklgllihhgpaaGreatDenB
namespace Go.Den
variable {P : Program}

/-- Of the types in the table: a zero value holds no address, an array is shorter than 2^63, and what a type is made of is in the table. -/
structure ZeroOK (P : Program) : Prop where
  zero : ∀ t i v, t < P.types.size → P.info? t = some i → i.zero = some v → ground v = true
  arr : ∀ t n e, t < P.types.size → P.underlying t = some (.array n e) → n < G
  sl : ∀ t e, t < P.types.size → P.underlying t = some (.slice e) → e < P.types.size
  mp : ∀ t k e, t < P.types.size → P.underlying t = some (.map k e) → e < P.types.size
  pt : ∀ t e, t < P.types.size → P.underlying t = some (.pointer e) → e < P.types.size

inductive NR (α : AM) : Next → Next → Prop where
  | value {v v' : Value} (h : VR α v v') : NR α (.value v) (.value v')
  | skip : NR α .skip .skip
  | enter {f : FuncId} {x x' : Array Value} (h : VRs α x x') : NR α (.enter f x) (.enter f x')

def AR (α : AM) (a a' : Addr) : Prop := ∃ b off L, a = ⟨b, off, none⟩ ∧ α b = some L ∧ a' = ⟨L.blk, L.sh + off, none⟩
theorem AR.mono {α β : AM} (hle : Le α β) {a a' : Addr} (h : AR α a a') : AR β a a' := let ⟨b, off, L, h1, h2, h3⟩ := h; ⟨b, off, L, h1, hle _ _ h2, h3⟩
theorem AR.add {α : AM} {a a' : Addr} (h : AR α a a') (n : Nat) : AR α (a.add n) (a'.add n) := by
  obtain ⟨b, off, L, rfl, h2, rfl⟩ := h
  unfold Addr.add
  by_cases hn : n = 0
  · simp only [hn, if_true]; exact ⟨b, off, L, rfl, h2, rfl⟩
  · simp only [hn, if_false]; exact ⟨b, off + n, L, rfl, h2, by simp [Nat.add_assoc]⟩
theorem AR.ptr {α : AM} {a a' : Addr} (h : AR α a a') : VR α (.pointer (some a)) (.pointer (some a')) := by
  obtain ⟨b, off, L, rfl, h2, rfl⟩ := h; exact .ptr h2

section
variable {α : AM}

theorem sim_pure {A B : Type} {R : AM → A → B → Prop} {a : A} {b : B} (h : R α a b) : Sim P R α (pure a) (pure b) := Sim.pure h
theorem sim_bind {A B C D : Type} {R : AM → A → B → Prop} {S : AM → C → D → Prop} {s : Sem A} {s' : Sem B} {f : A → Sem C} {f' : B → Sem D} (h : Sim P R α s s')
    (k : ∀ β a b, Le α β → R β a b → Sim P S β (f a) (f' b)) : Sim P S α (s >>= f) (s' >>= f') := Sim.bind h k
theorem sim_stuck {A B : Type} {R : AM → A → B → Prop} {s : Sem B} {w : String} : Sim P R α (stuck w : Sem A) s := .dead fun _ => rfl
theorem sim_unsupported {A B : Type} {R : AM → A → B → Prop} {s : Sem B} {w : Unsupported} : Sim P R α (unsupported w : Sem A) s := .dead fun _ => rfl
theorem sim_panic {A B : Type} {R : AM → A → B → Prop} {s : Sem B} {v : Value} : Sim P R α (goPanic v : Sem A) s := .dead fun _ => rfl
theorem sim_choose {A B : Type} {R : AM → A → B → Prop} {s : Sem B} {q : Question} {k : Nat → Sem A} : Sim P R α (.choose q k) s := .dead fun _ => rfl
theorem sim_choose_bind {A B C : Type} {R : AM → A → B → Prop} {s : Sem B} {q : Question} {k : Nat → Sem C} {f : C → Sem A} : Sim P R α ((Sem.choose q k) >>= f) s := .dead fun _ => rfl
theorem sim_stuck_bind {A B C : Type} {R : AM → A → B → Prop} {s : Sem B} {w : String} {f : C → Sem A} : Sim P R α ((stuck w : Sem C) >>= f) s := .dead fun _ => rfl
theorem sim_unsupported_bind {A B C : Type} {R : AM → A → B → Prop} {s : Sem B} {w : Unsupported} {f : C → Sem A} : Sim P R α ((unsupported w : Sem C) >>= f) s := .dead fun _ => rfl
theorem dead_bindr {A C : Type} (s : Sem A) (f : A → Sem C) (h : ∀ a m, arun P (f a) m = none) (m : Mem) : arun P (s >>= f) m = none := by
  show arun P (s.bind f) m = none
  rw [arun_bind]
  cases arun P s m with
  | none => rfl
  | some x => exact h _ _
theorem dead_bindl {A C : Type} (s : Sem A) (f : A → Sem C) (h : ∀ m, arun P s m = none) (m : Mem) : arun P (s >>= f) m = none := by
  show arun P (s.bind f) m = none
  rw [arun_bind, h]; rfl
theorem runtimePanic_dead {A : Type} (e : RuntimeError) (m : Mem) : arun P (runtimePanic e : Sem A) m = none := by
  unfold runtimePanic
  refine dead_bindr _ _ (fun p m => ?_) m
  cases e with
  | typeAssertion i c a x => exact dead_bindr _ _ (fun _ m => dead_bindr _ _ (fun _ _ => rfl) m) m
  | panicNil => exact dead_bindr _ _ (fun _ m => dead_bindr _ _ (fun _ _ => rfl) m) m
  | _ => rfl
theorem boundsPanic_dead {A : Type} (k : IntKind) (x y : Int) (c : BoundsCode) (m : Mem) : arun P (boundsPanic k x y c : Sem A) m = none := by
  unfold boundsPanic
  simp only []
  split
  · exact dead_bindr _ _ (fun _ m => runtimePanic_dead _ m) m
  · exact dead_bindr _ _ (fun _ m => runtimePanic_dead _ m) m
theorem sim_runtimePanic {A B : Type} {R : AM → A → B → Prop} {s : Sem B} {e : RuntimeError} : Sim P R α (runtimePanic e : Sem A) s := .dead (runtimePanic_dead e)
theorem sim_boundsPanic {A B : Type} {R : AM → A → B → Prop} {s : Sem B} {k : IntKind} {x y : Int} {c : BoundsCode} : Sim P R α (boundsPanic k x y c : Sem A) s := .dead (boundsPanic_dead k x y c)

theorem sim_program {A B : Type} {R : AM → A → B → Prop} {f : Program → Sem A} {f' : Program → Sem B} (h : Sim P R α (f P) (f' P)) : Sim P R α (program >>= f) (program >>= f') := Sim.program h
theorem sim_programL {A B : Type} {R : AM → A → B → Prop} {f : Program → Sem A} {f' : Program → Sem B} (h : Sim P R α (f P) (f' P)) : Sim P R α (.program f) (.program f') := Sim.program h

theorem sim_typeInfo (t : TypeId) : Sim P (fun _ a b => a = b ∧ P.info? t = some a) α (typeInfo t) (typeInfo t) := by
  unfold typeInfo
  refine sim_program ?_
  cases h : P.info? t with
  | none => exact sim_stuck
  | some i => exact sim_pure ⟨rfl, rfl⟩
theorem sim_underlying (t : TypeId) : Sim P (fun _ a b => a = b ∧ P.underlying t = some a) α (underlying t) (underlying t) := by
  unfold underlying
  refine sim_program ?_
  cases h : P.underlying t with
  | none => exact sim_stuck
  | some i => exact sim_pure ⟨rfl, rfl⟩
theorem sim_sizeOf (t : TypeId) : Sim P (fun _ a b => a = b ∧ P.cellsOf t = a) α (sizeOf t) (sizeOf t) := by
  unfold sizeOf
  refine sim_bind (sim_typeInfo t) ?_
  rintro β a b - ⟨rfl, h⟩
  exact sim_pure ⟨rfl, by simp [Program.cellsOf, h]⟩
theorem sim_isAgg (t : TypeId) : Sim P (fun _ a b => a = b) α (isAgg t) (isAgg t) := by
  unfold isAgg
  refine sim_bind (sim_underlying t) ?_
  rintro β a b - ⟨rfl, h⟩
  cases a <;> exact sim_pure rfl
theorem sim_zeroValue (hz : ZeroOK P) {t : TypeId} (ht : t < P.types.size) : Sim P (fun _ a b => a = b ∧ ground a = true) α (zeroValue t) (zeroValue t) := by
  unfold zeroValue
  refine sim_bind (sim_typeInfo t) ?_
  rintro β a b - ⟨rfl, h⟩
  cases hv : a.zero with
  | none => exact sim_unsupported
  | some v => exact sim_pure ⟨rfl, hz.zero _ _ _ ht h hv⟩
theorem sim_asIntOf {v v' : Value} (h : VR α v v') : Sim P (fun _ a b => a = b) α (asIntOf v) (asIntOf v') := by
  cases h <;> first | exact sim_pure rfl | exact sim_stuck | exact sim_unsupported
theorem sim_asInt {v v' : Value} (h : VR α v v') : Sim P (fun _ a b => a = b) α (asInt v) (asInt v') := by
  unfold asInt
  refine sim_bind (sim_asIntOf h) ?_
  rintro β a b - rfl
  exact sim_pure rfl
theorem sim_sureAddr {v v' : Value} (h : VR α v v') : Sim P AR α (Instr.sureAddr v) (Instr.sureAddr v') := by
  cases h with
  | ptr h => exact sim_pure ⟨_, _, _, rfl, h, rfl⟩
  | _ => exact sim_stuck
theorem sim_load {a a' : Addr} (h : AR α a a') (m m' : Mode) : Sim P VR α (load a m) (load a' m') := by
  obtain ⟨b, off, L, rfl, h2, rfl⟩ := h
  exact .load h2 fun v v' hv => .pure hv
theorem sim_store {a a' : Addr} (h : AR α a a') {v v' : Value} (hv : VR α v v') (m m' : Mode) : Sim P (fun _ _ _ => True) α (store a v m) (store a' v' m') := by
  obtain ⟨b, off, L, rfl, h2, rfl⟩ := h
  exact .store h2 hv (.pure trivial)

theorem VRs.push {x x' : Array Value} (h : VRs α x x') {v v' : Value} (hv : VR α v v') : VRs α (x.push v) (x'.push v') := by
  refine ⟨by simp [h.1], fun i h1 h2 => ?_⟩
  by_cases e : i < x.size
  · rw [Array.getElem_push_lt e, Array.getElem_push_lt (by rw [← h.1]; exact e)]; exact h.2 i _ _
  · have : i = x.size := by simp at h1; omega
    subst this
    have e2 : x.size = x'.size := h.1
    simp only [Array.getElem_push_eq]
    have : (x'.push v')[x.size]'h2 = v' := by simp [e2]
    rw [this]; exact hv
theorem VRs.append {x x' y y' : Array Value} (h : VRs α x x') (k : VRs α y y') : VRs α (x ++ y) (x' ++ y') := by
  refine ⟨by simp [h.1, k.1], fun i h1 h2 => ?_⟩
  by_cases e : i < x.size
  · rw [Array.getElem_append_left e, Array.getElem_append_left (by rw [← h.1]; exact e)]; exact h.2 i _ _
  · rw [Array.getElem_append_right (by omega), Array.getElem_append_right (by rw [← h.1]; omega)]
    have e2 := h.1
    simp only [← e2]
    exact k.2 _ _ _
theorem VRs.extract {x x' : Array Value} (h : VRs α x x') (i j : Nat) : VRs α (x.extract i j) (x'.extract i j) := by
  refine ⟨by simp [h.1], fun k h1 h2 => ?_⟩
  simp only [Array.getElem_extract]; exact h.2 _ _ _
theorem VRs.set {x x' : Array Value} (h : VRs α x x') {v v' : Value} (hv : VR α v v') (i : Nat) : VRs α (x.setIfInBounds i v) (x'.setIfInBounds i v') := by
  refine ⟨by simp [h.1], fun k h1 h2 => ?_⟩
  rw [Array.getElem_setIfInBounds (by simpa using h1), Array.getElem_setIfInBounds (by simpa using h2)]
  split
  · exact hv
  · exact h.2 _ _ _
theorem VRs.get? {x x' : Array Value} (h : VRs α x x') (i : Nat) : (x[i]? = none ∧ x'[i]? = none) ∨ ∃ v v', x[i]? = some v ∧ x'[i]? = some v' ∧ VR α v v' := by
  by_cases e : i < x.size
  · have e' : i < x'.size := by rw [← h.1]; exact e
    exact .inr ⟨x[i], x'[i], Array.getElem?_eq_getElem e, Array.getElem?_eq_getElem e', h.2 i e e'⟩
  · exact .inl ⟨Array.getElem?_eq_none (by omega), Array.getElem?_eq_none (by rw [← h.1]; omega)⟩
theorem VRs.nil : VRs α #[] #[] := ⟨rfl, fun _ h => absurd h (Nat.not_lt_zero _)⟩
theorem VRs.one {v v' : Value} (h : VR α v v') : VRs α #[v] #[v'] := ⟨rfl, fun i h1 _ => by
  have : i = 0 := by simp at h1; omega
  subst this; exact h⟩
theorem VR.cells {v v' : Value} (h : VR α v v') : VRs α v.cells v'.cells := by
  cases h with
  | agg hx h => exact ⟨hx, h⟩
  | bool b => exact .one (.bool b)
  | int k n => exact .one (.int k n)
  | string s => exact .one (.string s)
  | ptrN => exact .one .ptrN
  | ptr h => exact .one (.ptr h)
  | sliceN l c => exact .one (.sliceN l c)
  | sliceX h hc => exact .one (.sliceX h hc)
  | sliceG h hl ht => exact .one (.sliceG h hl ht)
  | sliceE h => exact .one (.sliceE h)
  | mapN => exact .one .mapN
  | map h => exact .one (.map h)
  | func hx hy h k => exact .one (.func hx hy h k)
  | nilFunc => exact .one .nilFunc
  | nilIface => exact .one .nilIface
  | iface t h => exact .one (.iface t h)
  | tuple hx h => exact .one (.tuple hx h)

theorem sim_loadCellsFrom {a a' : Addr} : ∀ (n i : Nat) {α : AM} (_ : AR α a a') {acc acc' : Array Value} (_ : VRs α acc acc'), Sim P VRs α (loadCellsFrom a i n acc) (loadCellsFrom a' i n acc')
  | 0, _, _, _, _, _, hacc => sim_pure hacc
  | n + 1, i, α, h, acc, acc', hacc => by
    unfold loadCellsFrom
    refine sim_bind (sim_load (h.add i) _ _) ?_
    intro β v v' hle hv
    exact sim_loadCellsFrom n (i + 1) (h.mono hle) ((hacc.mono hle).push hv)
theorem sim_loadCells {a a' : Addr} (h : AR α a a') (n : Nat) : Sim P VRs α (loadCells a n) (loadCells a' n) := sim_loadCellsFrom n 0 h .nil
theorem sim_storeCells {a a' : Addr} : ∀ (l l' : List Value) (i : Nat) {α : AM} (_ : AR α a a') (_ : l.length = l'.length) (_ : ∀ (j : Nat) (h : j < l.length) (h' : j < l'.length), VR α l[j] l'[j]),
    Sim P (fun _ _ _ => True) α (storeCells a l i) (storeCells a' l' i)
  | [], [], _, _, _, _, _ => sim_pure trivial
  | [], _ :: _, _, _, _, hl, _ => by simp at hl
  | _ :: _, [], _, _, _, hl, _ => by simp at hl
  | v :: l, v' :: l', i, α, h, hl, hv => by
    unfold storeCells
    refine sim_bind (sim_store (h.add i) (hv 0 (by simp) (by simp)) _ _) ?_
    intro β _ _ hle _
    exact sim_storeCells l l' (i + 1) (h.mono hle) (by simpa using hl) fun j h1 h2 => (hv (j + 1) (by simpa using h1) (by simpa using h2)).mono hle
theorem sim_storeCells_arr {a a' : Addr} (h : AR α a a') {x x' : Array Value} (hx : VRs α x x') (i : Nat) : Sim P (fun _ _ _ => True) α (storeCells a x.toList i) (storeCells a' x'.toList i) :=
  sim_storeCells _ _ i h (by simpa using hx.1) fun j h1 h2 => by simpa using hx.2 j (by simpa using h1) (by simpa using h2)
theorem sim_loadVar (t : TypeId) {a a' : Addr} (h : AR α a a') : Sim P VR α (loadVar t a) (loadVar t a') := by
  unfold loadVar
  refine sim_bind (sim_isAgg t) ?_
  rintro β x y hle rfl
  cases x
  · exact sim_load (h.mono hle) _ _
  · refine sim_bind (sim_sizeOf t) ?_
    rintro γ n n' hle' ⟨rfl, -⟩
    refine sim_bind (sim_loadCells ((h.mono hle).mono hle') n) ?_
    intro δ c c' _ hc
    exact sim_pure (.agg hc.1 hc.2)
theorem sim_storeVar (t : TypeId) {a a' : Addr} (h : AR α a a') {v v' : Value} (hv : VR α v v') : Sim P (fun _ _ _ => True) α (storeVar t a v) (storeVar t a' v') := by
  unfold storeVar
  refine sim_bind (sim_sizeOf t) ?_
  rintro β n n' hle ⟨rfl, -⟩
  have hc := (hv.mono hle).cells
  by_cases e : v.cells.size ≠ n
  · simp only [e, ne_eq, not_false_eq_true, if_true]; exact sim_stuck_bind
  · have e' : ¬ v'.cells.size ≠ n := by rw [← hc.1]; exact e
    simp only [e, e', if_false]
    exact sim_storeCells_arr (h.mono hle) hc 0
/-- a new row's address -/
def NewAR (n : Nat) (α : AM) (a a' : Addr) : Prop := ∃ b L, a = ⟨b, 0, none⟩ ∧ α b = some L ∧ L.sh = 0 ∧ L.tot = n ∧ a' = ⟨L.blk, 0, none⟩
theorem NewAR.ar {n : Nat} {a a' : Addr} (h : NewAR n α a a') : AR α a a' := let ⟨b, L, h1, h2, h3, _, h5⟩ := h; ⟨b, 0, L, h1, h2, by rw [h3]; exact h5⟩
theorem sim_newRow (e e' : TypeId) {x x' : Array Value} (h : VRs α x x') : Sim P (NewAR x.size) α (newRow e x) (newRow e' x') :=
  Sim.newCells h fun _ b L _ h2 h3 h4 => .pure ⟨b, L, rfl, h2, h3, h4, rfl⟩
theorem sim_newVar (e e' : TypeId) {v v' : Value} (h : VR α v v') : Sim P (NewAR v.cells.size) α (newVar e v) (newVar e' v') := sim_newRow e e' h.cells
theorem sim_part (t : TypeId) {x x' : Array Value} (h : VRs α x x') (off : Nat) : Sim P VR α (part t x off) (part t x' off) := by
  unfold part
  refine sim_bind (sim_isAgg t) ?_
  rintro β a b hle rfl
  cases a
  · rcases (h.mono hle).get? off with ⟨e, e'⟩ | ⟨v, v', e, e', hv⟩
    · rw [e, e']; exact sim_stuck
    · rw [e, e']; exact sim_pure hv
  · refine sim_bind (sim_sizeOf t) ?_
    rintro γ n n' hle' ⟨rfl, -⟩
    have hx := ((h.mono hle).mono hle').extract off (off + n)
    exact sim_pure (.agg hx.1 hx.2)

end
end Go.Den
