/- ref18's take: a key that is there goes, its tile comes back: the walk. -/
import Derived.Test.YtbpklgllihhgpaaGreatTakeH
namespace Go.Proofs.YtbpklgllihhgpaaGreat
open Go.RowKit Go.Den

/-- what stands behind the second loop -/
structure AtEnd (b S : Nat) (T : List Value) (A8 A9 : Option Addr) (n8 c8 n9 c9 : Nat) (wr : World) : Prop where
  f1 : wr.frozen? ⟨b, 1, none⟩ = false
  f2 : (wr.setCell ⟨b, 1, none⟩ (.slice A8 n8 c8)).frozen? ⟨b, 2, none⟩ = false
  ld : (loadVar 66 ⟨S + 1, 0, none⟩).run Tryz.prog ((wr.setCell ⟨b, 1, none⟩ (.slice A8 n8 c8)).setCell ⟨b, 2, none⟩ (.slice A9 n9 c9)) = .ok (.agg ⟨T⟩) ((wr.setCell ⟨b, 1, none⟩ (.slice A8 n8 c8)).setCell ⟨b, 2, none⟩ (.slice A9 n9 c9))
  st : (Instr.storeAt 66 (.pointer (some ⟨S, 0, none⟩)) (.agg ⟨T⟩)).run Tryz.prog ((wr.setCell ⟨b, 1, none⟩ (.slice A8 n8 c8)).setCell ⟨b, 2, none⟩ (.slice A9 n9 c9)) = .ok () (((wr.setCell ⟨b, 1, none⟩ (.slice A8 n8 c8)).setCell ⟨b, 2, none⟩ (.slice A9 n9 c9)).setRow S ⟨T⟩)
  ld2 : (loadVar 66 ⟨S, 0, none⟩).run Tryz.prog (((wr.setCell ⟨b, 1, none⟩ (.slice A8 n8 c8)).setCell ⟨b, 2, none⟩ (.slice A9 n9 c9)).setRow S ⟨T⟩) = .ok (.agg ⟨T⟩) (((wr.setCell ⟨b, 1, none⟩ (.slice A8 n8 c8)).setCell ⟨b, 2, none⟩ (.slice A9 n9 c9)).setRow S ⟨T⟩)
theorem at_end {base b : Nat} {bud h m ev : Int} {vk vt : Value} {A B : List (ByteArray × List Value)} {k : ByteArray} {T : List Value} {w wr : World} {A8 A9 : Option Addr} {n8 c8 n9 c9 : Nat}
    (q1 : w.heap[b]? = some (.cells (cellsR bud vk vt h m ev) 58 (0, 0))) (hT : T.length = 256) (ho : T.all (·.oneCell') = true) (hb : base ≤ w.heap.size) (hrow : ∀ x ∈ A ++ B, x.2.length = 256 ∧ x.2.all (·.oneCell') = true)
    (hk : Kept ((w.alloc (.cells Z66 66)).alloc (.cells ⟨T⟩ 66)) (A ++ (k, T) :: B) A.length (A ++ (k, T) :: B).length (.slice A8 n8 c8) (.slice A9 n9 c9) wr) :
    AtEnd b w.heap.size T A8 A9 n8 c8 n9 c9 wr ∧ RefIs base b bud h m ev (A ++ B) (((wr.setCell ⟨b, 1, none⟩ (.slice A8 n8 c8)).setCell ⟨b, 2, none⟩ (.slice A9 n9 c9)).setRow w.heap.size ⟨T⟩) ∧
      Turn [b] w (((wr.setCell ⟨b, 1, none⟩ (.slice A8 n8 c8)).setCell ⟨b, 2, none⟩ (.slice A9 n9 c9)).setRow w.heap.size ⟨T⟩) := by
  have hlt : b < w.heap.size := (Array.getElem?_eq_some_iff.1 q1).1
  obtain ⟨kk, kt, kw⟩ := hk
  rw [D_all] at kk kt
  have s1 : (w.alloc (.cells Z66 66)).heap.size = w.heap.size + 1 := by show (w.heap.push _).size = _; simp
  have s2 : ((w.alloc (.cells Z66 66)).alloc (.cells ⟨T⟩ 66)).heap.size = w.heap.size + 2 := by show ((w.heap.push _).push _).size = _; simp
  have t0 : Turn [] w ((w.alloc (.cells Z66 66)).alloc (.cells ⟨T⟩ 66)) := ((Turn.refl [] w).alloc _).alloc _
  have wb : wr.heap[b]? = some (.cells (cellsR bud vk vt h m ev) 58 (0, 0)) := turn_cells q1 (t0.trans kw)
  have wS : wr.heap[w.heap.size]? = some (.cells Z66 66 (0, 0)) := turn_cells (by rw [(MapKept.heap_alloc _ _).2 _ (by omega)]; exact (MapKept.heap_alloc w _).1) kw
  have wS1 : wr.heap[w.heap.size + 1]? = some (.cells ⟨T⟩ 66 (0, 0)) := turn_cells (by rw [← s1]; exact (MapKept.heap_alloc _ _).1) kw
  have wsz := kw.size
  obtain ⟨X, hX⟩ : ∃ X, X = wr.setCell ⟨b, 1, none⟩ (.slice A8 n8 c8) := ⟨_, rfl⟩
  have Xb : X.heap[b]? = some (.cells (cellsR bud (.slice A8 n8 c8) vt h m ev) 58 (0, 0)) := by rw [hX]; simp only [World.setCell, Array.getElem?_modify, if_true, wb]; rfl
  have Xo : ∀ g, g ≠ b → X.heap[g]? = wr.heap[g]? := fun g hg => by rw [hX, heap_setCell_other _ _ _ _ hg]
  obtain ⟨Y, hY⟩ : ∃ Y, Y = X.setCell ⟨b, 2, none⟩ (.slice A9 n9 c9) := ⟨_, rfl⟩
  have Yb : Y.heap[b]? = some (.cells (cellsR bud (.slice A8 n8 c8) (.slice A9 n9 c9) h m ev) 58 (0, 0)) := by rw [hY]; simp only [World.setCell, Array.getElem?_modify, if_true, Xb]; rfl
  have Yo : ∀ g, g ≠ b → Y.heap[g]? = wr.heap[g]? := fun g hg => by rw [hY, heap_setCell_other _ _ _ _ hg, Xo g hg]
  have YS := (Yo w.heap.size (by omega)).trans wS
  have YS1 := (Yo (w.heap.size + 1) (by omega)).trans wS1
  have iT : (Tryz.prog.info? 66).map (·.size) = some (⟨T⟩ : Array Value).size := info66.trans (congrArg some hT.symm)
  have ZS : (Y.setRow w.heap.size ⟨T⟩).heap[w.heap.size]? = some (.cells ⟨T⟩ 66 (0, 0)) := by simp only [World.setRow, Array.getElem?_modify, if_true, YS]; rfl
  have Zo : ∀ g, g ≠ w.heap.size → (Y.setRow w.heap.size ⟨T⟩).heap[g]? = Y.heap[g]? := fun g hg => by simp only [World.setRow, Array.getElem?_modify, Ne.symm hg, if_false]
  have low : ∀ g, w.heap.size + 2 ≤ g → (Y.setRow w.heap.size ⟨T⟩).heap[g]? = wr.heap[g]? := fun g hg => by rw [Zo g (by omega), Yo g (by omega)]
  rw [← hX, ← hY]
  refine ⟨⟨by simp [World.frozen?, wb], by rw [← hX]; simp [World.frozen?, Xb], ?_, ?_, ?_⟩, ⟨⟨.slice A8 n8 c8, .slice A9 n9 c9, ?_, ?_, ?_⟩, hrow⟩, ?_⟩
  · rw [← hX, ← hY]; exact run_loadVar_row Y _ 66 66 ⟨T⟩ (0, 0) _ YS1 Tryz.underlying66 rfl iT
  · rw [← hX, ← hY]; exact store_row YS iT (by rw [sizeZ66]; exact hT.symm) (by simpa using ho)
  · rw [← hX, ← hY]; exact run_loadVar_row _ _ 66 66 ⟨T⟩ (0, 0) _ ZS Tryz.underlying66 rfl iT
  · rw [Zo b (by omega)]; exact Yb
  · exact (kk.mono (by omega)).keep fun g hg => low g (by have := (kk.lt g hg).1; omega)
  · exact (kt.mono (by omega)).keep fun g hg => low g (by have := (kt.lt g hg).1; omega)
  · rw [hY, hX]
    exact ((((t0.trans kw).mono (by simp)).setCell _ (.inl (by simp))).setCell _ (.inl (by simp))).setRow _ (.inr (Nat.le_refl _))
end Go.Proofs.YtbpklgllihhgpaaGreat
