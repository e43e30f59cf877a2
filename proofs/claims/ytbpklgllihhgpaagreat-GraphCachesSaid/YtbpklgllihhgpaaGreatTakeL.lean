/- Parts for ref18's take: a load out of the midst of a block, a slice of one tile, lists. -/
import Derived.Test.YtbpklgllihhgpaaGreatApp
import Derived.Great.BuildSlice
namespace Go.Proofs.YtbpklgllihhgpaaGreat
open Go.RowKit Go.Den

theorem load_mid {w : World} {g off : Nat} {arr : Array Value} {T : List Value} {t : TypeId} {fr : Nat × Nat} (hg : w.heap[g]? = some (.cells arr t fr)) (hT : T.length = 256) (ha : ∀ j u, T[j]? = some u → arr[off + j]? = some u) :
    (loadVar 66 ⟨g, off, none⟩).run Tryz.prog w = .ok (.agg ⟨T⟩) w := by
  have hagg : (isAgg 66).run Tryz.prog w = .ok true w := by simp [isAgg, run_underlying Tryz.underlying66, Result.andThen]
  have hl := run_loadCells_list (P := Tryz.prog) w ⟨g, off, none⟩ T (fun j v hv => by
    have hadd : (⟨g, off, none⟩ : Addr).add j = ⟨g, off + j, none⟩ := by unfold Addr.add; split <;> simp_all
    rw [hadd, cell_of_row _ _ _ _ t fr hg]
    exact ha j v hv)
  rw [hT] at hl
  unfold loadVar
  rw [Sem.run_bind, hagg]
  simp only [Result.andThen, if_true, Sem.run_bind, run_sizeOf info66, hl]
  simp
theorem wpList_load_at {P : Program} {ops : Array Oper} {rest : List Oper} {o : Oper} {a : Act} {w : World} {Q : Exit → Act → World → Prop} (hg : o.guard = none) (t : TypeId) (x : Operand) (ho : o.op = .load t x) {p : Addr} {v : Value}
    (hx : a.eval x = .pointer (some p)) (hr : (loadVar t p).run P w = .ok v w) (h : wpList P ops Q rest (a.put o.dst v) w) : wpList P ops Q (o :: rest) a w := by
  refine wpList_plain hg fun K hK => ?_
  unfold Oper.wp
  have e : (Instr.loadAt t (.pointer (some p))).run P w = .ok v w := hr
  simp only [execOp, ho, hx, Sem.run_bind, e, Result.andThen]
  exact hK _ _ h
theorem fill_one (n : Nat) (Z : Array Value) (T : List Value) (hZ : Z.size = n) (hT : T.length = n) : Instr.fill (fun i => some (i * n, n)) Z [(0, .agg ⟨T⟩)] = some ⟨T⟩ := by
  have e0 : (Value.agg ⟨T⟩).cells = ⟨T⟩ := rfl
  simp only [Instr.fill, e0, Nat.zero_mul]
  rw [if_neg (by simp [hT, hZ])]
  congr 1
  refine Array.ext_getElem? fun i => ?_
  rw [← Array.foldl_toList, Array.toList_zipIdx, Go.Den.foldl_set, hT, hZ]
  by_cases h : i < n
  · rw [if_pos (by omega)]; simp
  · rw [if_neg (by omega), Array.getElem?_eq_none (by omega)]
    simp; omega
theorem slice66 (T : List Value) (hT : T.length = 256) (w : World) : (Instr.buildSlice 56 1 #[(0, .agg ⟨T⟩)]).run Tryz.prog w = .ok (.slice (some ⟨w.heap.size, 0, none⟩) 1 1) (w.alloc (.cells ⟨T⟩ 66)) := by
  obtain ⟨i, hi, hz, hs, _⟩ : ∃ i, Tryz.prog.info? 66 = some i ∧ i.zero = some (.agg Z66) ∧ i.size = 256 ∧ True := by
    have h := info66z
    cases hq : Tryz.prog.info? 66 with
    | none => rw [hq] at h; cases h
    | some i =>
      rw [hq] at h
      simp only [Option.map_some, Option.some.injEq, Prod.mk.injEq] at h
      exact ⟨i, rfl, h.1, h.2, trivial⟩
  refine run_buildSlice w 56 66 1 _ ⟨T⟩ i _ Tryz.underlying56 hi hz (by rw [hs]; decide) (by rw [hs]; decide) ?_
  rw [hs]
  exact fill_one 256 _ T (by simp) hT
theorem news_alloc (w : World) (cs : List Value) (e : TypeId) : ∀ j u, cs[j]? = some u → (w.alloc (.cells ⟨cs⟩ e)).cell? ((⟨w.heap.size, 0, none⟩ : Addr).add j) = some u := by
  intro j u hu
  rw [Addr.add_lit, cell_of_row _ _ _ ⟨cs⟩ e (0, 0) (heap_alloc_new w _)]
  simpa using hu
/-- what lies above may turn -/
theorem Turn.above {bs : List Nat} {w0 w w' : World} (h : Turn [] w0 w) (k : Turn bs w w') (hb : ∀ g ∈ bs, w0.heap.size ≤ g) : Turn [] w0 w' :=
  ⟨Nat.le_trans h.size k.size, fun j hj _ => (k.old j (Nat.lt_of_lt_of_le hj h.size) fun hm => by have := hb j hm; omega).trans (h.old j hj (by simp)), k.os.trans h.os, k.tape.trans h.tape, k.output.trans h.output⟩
theorem SRow.mono {w : World} {base base' : Nat} {e : TypeId} {size n : Nat} {v : Value} {xs : List Value} (h : SRow w base e size v n xs) (hb : base' ≤ base) : SRow w base' e size v n xs := by
  refine ⟨h.1, ?_⟩
  rcases h.2 with h2 | ⟨g, off, cap, arr, rfl, h1, h3⟩
  · exact .inl h2
  · exact .inr ⟨g, off, cap, arr, rfl, Nat.le_trans hb h1, h3⟩
theorem SRow.kept {w w' : World} {base : Nat} {e : TypeId} {size n : Nat} {v : Value} {xs : List Value} (h : SRow w base e size v n xs) (hk : Turn [] w w') : SRow w' base e size v n xs :=
  h.keep fun g hg => hk.old g (h.lt g hg).2.1 (by simp)
theorem SRow.form {w : World} {base : Nat} {e : TypeId} {size n : Nat} {v : Value} {xs : List Value} (h : SRow w base e size v n xs) : ∃ A cap, v = .slice A n cap := by
  rcases h.2 with ⟨e, e0⟩ | ⟨g, off, cap, arr, e, _⟩
  · exact ⟨none, 0, by rw [e, e0]⟩
  · exact ⟨_, cap, e⟩

/-- those before j, without the one at i -/
def D {α : Type} (R : List α) (i j : Nat) : List α := (R.take j).eraseIdx i
theorem D_zero {α : Type} (R : List α) (i : Nat) : D R i 0 = [] := by simp [D]
theorem D_at {α : Type} {R : List α} {i : Nat} {x : α} (h : R[i]? = some x) : D R i (i + 1) = D R i i := by
  obtain ⟨hl, hx⟩ := List.getElem?_eq_some_iff.1 h
  unfold D
  have hlen : (R.take i).length = i := by rw [List.length_take]; omega
  rw [List.take_succ_eq_append_getElem hl, List.eraseIdx_append_of_length_le (by omega), hlen, Nat.sub_self, List.eraseIdx_of_length_le (l := R.take i) (by omega)]
  simp
theorem D_succ {α : Type} {R : List α} {i j : Nat} {x : α} (h : R[j]? = some x) (hne : j ≠ i) : D R i (j + 1) = D R i j ++ [x] := by
  obtain ⟨hl, hx⟩ := List.getElem?_eq_some_iff.1 h
  unfold D
  rw [List.take_succ_eq_append_getElem hl, hx]
  by_cases hlt : i < j
  · rw [List.eraseIdx_append_of_lt_length (by simp; omega)]
  · rw [List.eraseIdx_append_of_length_le (by simp; omega), List.eraseIdx_of_length_le (l := [x]) (by simp; omega), List.eraseIdx_of_length_le (by simp; omega)]
theorem D_all {α : Type} (A B : List α) (x : α) : D (A ++ x :: B) A.length (A ++ x :: B).length = A ++ B := by
  unfold D
  rw [List.take_length, List.eraseIdx_append_of_length_le (Nat.le_refl _)]
  simp
theorem D_len {α : Type} (R : List α) (i j : Nat) : (D R i j).length ≤ R.length := by
  unfold D
  have := List.length_eraseIdx_le (R.take j) i
  simp at this
  omega
end Go.Proofs.YtbpklgllihhgpaaGreat
