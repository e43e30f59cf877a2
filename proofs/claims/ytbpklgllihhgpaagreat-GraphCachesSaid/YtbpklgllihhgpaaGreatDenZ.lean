/- For functions done by hand: what a walk adds of its own to what the evaluator gives. -/
import Derived.Test.YtbpklgllihhgpaaGreatDenV
namespace Go.Den
variable {P : Program} {α β : AM}

/-- w' is w with new blocks -/
structure Ext0 (w w' : World) : Prop where
  size : w.heap.size ≤ w'.heap.size
  old : ∀ cb, cb < w.heap.size → w'.heap[cb]? = w.heap[cb]?
  os : w'.os = w.os
  tape : w'.tape = w.tape
  output : w'.output = w.output
theorem Ext0.refl (w : World) : Ext0 w w := ⟨Nat.le_refl _, fun _ _ => rfl, rfl, rfl, rfl⟩
theorem Ext0.alloc {w w' : World} (h : Ext0 w w') (o : Obj) : Ext0 w (w'.alloc o) where
  size := by
    show w.heap.size ≤ (w'.heap.push o).size
    have := h.size
    rw [Array.size_push]; omega
  old cb hb := by
    rw [← h.old cb hb]
    have : cb < w'.heap.size := Nat.lt_of_lt_of_le hb h.size
    show (w'.heap.push o)[cb]? = _
    rw [Array.getElem?_push_lt this, Array.getElem?_eq_getElem this]
  os := h.os
  tape := h.tape
  output := h.output
theorem Rel.ext0 {m : Mem} {w w' : World} (h : Rel P α m w) (e : Ext0 w w') : Rel P α m w' :=
  ⟨fun b L hb => ⟨(h.dom b L hb).1, Nat.lt_of_lt_of_le (h.dom b L hb).2 e.size⟩, fun b o L g hb => (h.obj b o L g hb).heap (e.old _ (h.dom b L hb).2), h.inj, h.top⟩
theorem Stp.pre {m m1 : Mem} {w w' w1 : World} (h : Stp P α m w' β m1 w1) (e : Ext0 w w') : Stp P α m w β m1 w1 where
  le := h.le
  old := h.old
  next := h.next
  rel := h.rel
  os := h.os.trans e.os
  tape := h.tape.trans e.tape
  output := h.output.trans e.output
  size := Nat.le_trans e.size h.size
  frame cb hb hn := (h.frame cb (Nat.lt_of_lt_of_le hb e.size) hn).trans (e.old cb hb)
  rng cb hi := (h.rng cb hi).imp id fun h => Nat.le_trans e.size h
  ghost := h.ghost
/-- the world goes on, but nothing that is named turns -/
theorem Stp.post {m m1 : Mem} {w w1 w2 : World} (h : Stp P α m w β m1 w1) (hs : w1.heap.size ≤ w2.heap.size) (ho : ∀ cb, cb < w1.heap.size → w2.heap[cb]? = w1.heap[cb]? ∨ (w.heap.size ≤ cb ∧ ¬ InR β m1 cb))
    (os : w2.os = w1.os) (tape : w2.tape = w1.tape) (output : w2.output = w1.output) : Stp P α m w β m1 w2 where
  le := h.le
  old := h.old
  next := h.next
  rel := by
    refine ⟨fun b L hb => ⟨(h.rel.dom b L hb).1, Nat.lt_of_lt_of_le (h.rel.dom b L hb).2 hs⟩, fun b o L g hb => ?_, h.rel.inj, h.rel.top⟩
    by_cases hl : Live o
    · rcases ho L.blk (h.rel.dom b L hb).2 with h1 | ⟨_, h1⟩
      · exact (h.rel.obj b o L g hb).heap h1
      · exact absurd ⟨b, o, L, g, hl, hb, rfl⟩ h1
    · cases o with
      | dead => trivial
      | _ => exact absurd trivial hl
  os := os.trans h.os
  tape := tape.trans h.tape
  output := output.trans h.output
  size := Nat.le_trans h.size hs
  frame cb hb hn := by
    rcases ho cb (Nat.lt_of_lt_of_le hb h.size) with h1 | ⟨h1, _⟩
    · exact h1.trans (h.frame cb hb hn)
    · omega
  rng := h.rng
  ghost := h.ghost

/-- a function of plain data alone, run once and for all -/
theorem memo_ok {X : Ext} {lf n : Nat} (hP : ProgOK P) (hX : ExtOK P X) {f : FuncId} {args : Array Value} {v : Value} {m1 : Mem} (hg : args.toList.all ground = true) (hv : ground v = true)
    (h : evCall P X lf n f args ⟨.e, 0⟩ = some (v, m1)) {α : AM} {m : Mem} {w : World} {args' : Array Value} (hr : Rel P α m w) (ha : VRs α args args') :
    Calls P f args' w fun e w1 => ∃ β v', e = .returned v' ∧ VR β v v' ∧ Stp P α m w β m w1 := by
  have e : args' = args := Array.ext ha.1.symm fun i h1 h2 => VR.eq (List.all_eq_true.1 hg _ (by simp)) (ha.2 i h2 h1)
  subst e
  have h0 : Rel P (fun _ => none) ⟨.e, 0⟩ w := ⟨(fun _ _ h => by cases h), (fun _ _ _ h => by cases h), (fun _ _ _ _ _ _ h => by cases h), fun _ _ => rfl⟩
  refine (evCall_sound hP hX n f args' ⟨.e, 0⟩ v m1 h (fun _ => none) w args' h0 ⟨rfl, fun i h1 h2 => VR.refl (List.all_eq_true.1 hg _ (by simp))⟩).mono ?_
  rintro e w1 ⟨β, v', rfl, hvr, hst⟩
  obtain rfl : v' = v := VR.eq hv hvr
  refine ⟨α, v', rfl, VR.refl hv, (Stp.refl hr).post hst.size (fun cb hb => .inl (hst.frame cb hb ?_)) hst.os hst.tape hst.output⟩
  rintro ⟨b, o, L, h1, _⟩
  cases h1

/-! ## what is fixed of a program, by three checks -/
def descChk (n : Nat) : TypeDesc → Bool
  | .array k _ => Nat.blt k G
  | .slice e => Nat.blt e n
  | .map _ e => Nat.blt e n
  | .pointer e => Nat.blt e n
  | .named _ u => Nat.blt u n
  | _ => true
def typeChk (n : Nat) (i : TypeInfo) : Bool := (match i.zero with | some v => ground v | none => true) && descChk n i.desc
def funChk (P : Program) (fn : Func) : Bool := !(fn.name == "runtime.NumGoroutine") && fnOK P fn
theorem progOK_of {P : Program} (n : Nat) (hn : P.types.size = n) (ht : P.types.toList.all (typeChk n) = true) (hf : P.funcs.toList.all (funChk P) = true) (hm : P.follows .mixedOrders = true) : ProgOK P where
  zero := by
    have at_ : ∀ t i, t < P.types.size → P.info? t = some i → P.types[t]? = some i := by
      intro t i hlt h
      have h : (if t < P.types.size then P.types[t]? else Made.infoAt P.toTables Made.depth t) = some i := h
      rwa [if_pos hlt] at h
    have ty : ∀ t i, t < P.types.size → P.info? t = some i → (match i.zero with | some v => ground v | none => true) = true ∧ descChk P.types.size i.desc = true := fun t i hlt h => by
      have h2 := at_ t i hlt h
      rw [← Array.getElem?_toList] at h2
      have := List.all_eq_true.1 ht i (List.mem_of_getElem? h2)
      unfold typeChk at this
      rw [Bool.and_eq_true, ← hn] at this
      exact this
    have un : ∀ t d, t < P.types.size → P.underlying t = some d → descChk P.types.size d = true := by
      intro t d hlt h
      unfold Program.underlying at h
      cases hi : P.info? t with
      | none => rw [hi] at h; cases h
      | some i =>
        rw [hi] at h
        have hd := (ty t i hlt hi).2
        obtain ⟨desc, _⟩ := i
        cases desc with
        | named nm u =>
          have hu := blt_iff.1 hd
          simp only at h
          cases hj : P.info? u with
          | none => rw [hj] at h; cases h
          | some j =>
            rw [hj] at h
            cases h
            exact (ty u j hu hj).2
        | _ => cases h; exact hd
    refine ⟨fun t i v hlt h hz => ?_, fun t n e hlt h => blt_iff.1 (un t _ hlt h), fun t e hlt h => blt_iff.1 (un t _ hlt h), fun t k e hlt h => blt_iff.1 (un t _ hlt h), fun t e hlt h => blt_iff.1 (un t _ hlt h)⟩
    have := (ty t i hlt h).1
    rw [hz] at this
    exact this
  call f fn h := by
    rw [← Array.getElem?_toList] at h
    have := List.all_eq_true.1 hf fn (List.mem_of_getElem? h)
    unfold funChk at this
    rw [Bool.and_eq_true, Bool.not_eq_true'] at this
    exact this.1
  mixed := hm
  code f fn h := by
    rw [← Array.getElem?_toList] at h
    have := List.all_eq_true.1 hf fn (List.mem_of_getElem? h)
    unfold funChk at this
    rw [Bool.and_eq_true] at this
    exact this.2
end Go.Den
