/- Cache.Get of the program, at a cache that is there. -/
import Derived.Test.YtbpklgllihhgpaaGreatNilParts
import Derived.Test.YtbpklgllihhgpaaGreatUse
namespace Go.Proofs.YtbpklgllihhgpaaGreat
open Go.RowKit Go.Den
open Go.ChangeMaps (setBlock)

/-- w' is w with new blocks, and among the old ones those in bs alone may have turned -/
structure Turn (bs : List Nat) (w w' : World) : Prop where
  size : w.heap.size ≤ w'.heap.size
  old : ∀ j, j < w.heap.size → j ∉ bs → w'.heap[j]? = w.heap[j]?
  os : w'.os = w.os
  tape : w'.tape = w.tape
  output : w'.output = w.output
namespace Turn
variable {bs : List Nat} {w u v : World}
theorem refl (bs : List Nat) (w : World) : Turn bs w w := ⟨Nat.le_refl _, fun _ _ _ => rfl, rfl, rfl, rfl⟩
theorem trans (h : Turn bs w u) (k : Turn bs u v) : Turn bs w v :=
  ⟨Nat.le_trans h.size k.size, fun j hj hn => (k.old j (Nat.lt_of_lt_of_le hj h.size) hn).trans (h.old j hj hn), k.os.trans h.os, k.tape.trans h.tape, k.output.trans h.output⟩
theorem ext (h : Turn bs w u) (k : Ext0 u v) : Turn bs w v := h.trans ⟨k.size, fun j hj _ => k.old j hj, k.os, k.tape, k.output⟩
theorem mono {cs : List Nat} (h : Turn bs w u) (hs : ∀ b ∈ bs, b ∈ cs) : Turn cs w u := ⟨h.size, fun j hj hn => h.old j hj fun hb => hn (hs j hb), h.os, h.tape, h.output⟩
theorem alloc (h : Turn bs w u) (o : Obj) : Turn bs w (u.alloc o) := h.ext ((Ext0.refl u).alloc o)
theorem drawn (h : Turn bs w u) (n : Nat) : Turn bs w (u.drewN n) := ⟨h.size, h.old, h.os, h.tape, h.output⟩
theorem setCell (h : Turn bs w u) {a : Addr} (x : Value) (ha : a.block ∈ bs ∨ w.heap.size ≤ a.block) : Turn bs w (u.setCell a x) := by
  refine ⟨by simpa [World.setCell] using h.size, fun j hj hn => ?_, h.os, h.tape, h.output⟩
  rw [Go.Den.heap_setCell _ _ _ _ (by rintro rfl; rcases ha with ha | ha; exact hn ha; omega)]
  exact h.old j hj hn
theorem setRow (h : Turn bs w u) {g : Nat} (cs : Array Value) (hg : g ∈ bs ∨ w.heap.size ≤ g) : Turn bs w (u.setRow g cs) := by
  refine ⟨by simpa [World.setRow] using h.size, fun j hj hn => ?_, h.os, h.tape, h.output⟩
  have hjg : g ≠ j := by rintro rfl; rcases hg with hg | hg; exact hn hg; omega
  simp only [World.setRow, Array.getElem?_modify, hjg, if_false]
  exact h.old j hj hn
theorem setBlock (h : Turn bs w u) {g : Nat} (o : Obj) (hg : g ∈ bs ∨ w.heap.size ≤ g) : Turn bs w (Go.ChangeMaps.setBlock u g o) := by
  refine ⟨by simpa [Go.ChangeMaps.setBlock] using h.size, fun j hj hn => ?_, h.os, h.tape, h.output⟩
  have hjg : g ≠ j := by rintro rfl; rcases hg with hg | hg; exact hn hg; omega
  simp only [Go.ChangeMaps.setBlock, Array.getElem?_setIfInBounds, hjg, if_false]
  exact h.old j hj hn
end Turn
theorem store_row {t ty : TypeId} {g : Nat} {old cells : Array Value} {w : World} (hg : w.heap[g]? = some (.cells old t (0, 0))) (hi : (Tryz.prog.info? ty).map (·.size) = some cells.size) (ho : old.size = cells.size) (h1 : cells.all (·.oneCell') = true) :
    (Instr.storeAt ty (.pointer (some ⟨g, 0, none⟩)) (.agg cells)).run Tryz.prog w = .ok () (w.setRow g cells) := by
  simp only [Instr.storeAt, Instr.sureAddr, Sem.run_bind, Sem.run_pure, Result.andThen]
  exact run_storeVar_row w g t ty old cells hg hi ho h1
theorem z66 : Z66 = Tryz.zeroCells66 := by kernel_rfl
theorem z129 : Z129 = Tryz.zeroCells129 := by kernel_rfl
set_option maxRecDepth 100000 in
theorem alloc129 (w : World) : (Instr.alloc 129 true (.tuple #[])).run Tryz.prog w = .ok (.pointer (some ⟨w.heap.size, 0, none⟩)) (w.alloc (.cells Z129 129)) := by
  unfold Instr.alloc
  rw [Sem.run_bind, (zero_of_info info129).1]; rfl
theorem look_hit {w : World} {r : Nat} {es : Array MapEntry} {cl : Nat} (hm : w.heap[r]? = some (.map es cl)) {k : ByteArray} {j : Nat} {v : Value} (hf : Instr.findNow .string (.string k) es.toList 0 = some (some (j, v))) :
    (Instr.lookup 124 (.map (some r)) (.string k) true).run Tryz.prog w = .ok (.tuple #[v, .bool true]) w := by
  simp [Instr.lookup, run_underlying Tryz.underlying124, MapKept.run_getObj_map hm, MapKept.run_checkKey Tryz.underlying59 (isKey k), MapKept.run_findKey Tryz.underlying59 hf, Result.andThen]
theorem look_miss {w : World} {r : Nat} {es : Array MapEntry} {cl : Nat} (hm : w.heap[r]? = some (.map es cl)) {k : ByteArray} (hf : Instr.findNow .string (.string k) es.toList 0 = some none) :
    (Instr.lookup 124 (.map (some r)) (.string k) true).run Tryz.prog w = .ok (.tuple #[.agg Z129, .bool false]) w := by
  simp [Instr.lookup, run_underlying Tryz.underlying124, MapKept.run_getObj_map hm, MapKept.run_checkKey Tryz.underlying59 (isKey k), MapKept.run_findKey Tryz.underlying59 hf, Result.andThen, (zero_of_info info129).1]

set_option maxRecDepth 100000 in
set_option maxHeartbeats 1000000 in
theorem get_miss (b r : Nat) (k : ByteArray) (bud time h m ev : Int) (w : World) (es : Array MapEntry) (cl : Nat) (ty : TypeId)
    (hb : w.heap[b]? = some (.cells (cellsC bud r time h m ev) ty (0, 0))) (hm : w.heap[r]? = some (.map es cl)) (h0 : 0 ≤ m) (h1 : m ≤ 1000000000000)
    (hf : Instr.findNow .string (.string k) es.toList 0 = some none) :
    Calls Tryz.prog 28 #[.pointer (some ⟨b, 0, none⟩), .string k] w fun e w' => e = .returned (.tuple #[.agg Z66, .bool false]) ∧
      w'.heap[b]? = some (.cells (cellsC bud r time h (m + 1) ev) ty (0, 0)) ∧ Turn [b] w w' := by
  have hlt : b < w.heap.size := (Array.getElem?_eq_some_iff.1 hb).1
  have hlr : r < w.heap.size := (Array.getElem?_eq_some_iff.1 hm).1
  obtain ⟨W, hW⟩ : ∃ W, W = w.alloc (.cells Z66 66) := ⟨_, rfl⟩
  have hWs : W.heap.size = w.heap.size + 1 := by rw [hW]; show (w.heap.push _).size = _; simp
  have hWb : W.heap[b]? = some (.cells (cellsC bud r time h m ev) ty (0, 0)) := by rw [hW, (MapKept.heap_alloc w _).2 b hlt]; exact hb
  have hWr : W.heap[r]? = some (.map es cl) := by rw [hW, (MapKept.heap_alloc w _).2 r hlr]; exact hm
  have c1 : W.cell? ⟨b, 1, none⟩ = some (.map (some r)) := by simp [World.cell?, hWb, cellsC]
  have hlk := look_miss hWr hf
  obtain ⟨V, hV⟩ : ∃ V, V = W.alloc (.cells Z129 129) := ⟨_, rfl⟩
  have hVb : V.heap[b]? = some (.cells (cellsC bud r time h m ev) ty (0, 0)) := by rw [hV, (MapKept.heap_alloc W _).2 b (by omega)]; exact hWb
  have hVt : V.heap[w.heap.size]? = some (.cells Z66 66 (0, 0)) := by rw [hV, (MapKept.heap_alloc W _).2 _ (by omega), hW]; exact (MapKept.heap_alloc w _).1
  have d4 : V.cell? ⟨b, 4, none⟩ = some (.int .i64 m) := by simp [World.cell?, hVb, cellsC]
  have f4 : V.frozen? ⟨b, 4, none⟩ = false := by simp [World.frozen?, hVb]
  obtain ⟨Y, hY⟩ : ∃ Y, Y = V.setCell ⟨b, 4, none⟩ (.int .i64 (m + 1)) := ⟨_, rfl⟩
  have hYb : Y.heap[b]? = some (.cells (cellsC bud r time h (m + 1) ev) ty (0, 0)) := by rw [hY]; simp only [World.setCell, Array.getElem?_modify, if_true, hVb]; rfl
  have hYt : Y.heap[w.heap.size]? = some (.cells Z66 66 (0, 0)) := by rw [hY, heap_setCell_other _ _ _ _ (by show w.heap.size ≠ b; omega)]; exact hVt
  have hst := store_row (ty := 66) hYt (by rw [sizeZ66]; exact info66) rfl oneZ66
  have hT : Turn [b] w (Y.setRow w.heap.size Z66) := by
    rw [hY, hV, hW]
    exact ((((Turn.refl [b] w).alloc _).alloc _).setCell _ (.inl (by simp))).setRow _ (.inr (Nat.le_refl _))
  have hZb : (Y.setRow w.heap.size Z66).heap[b]? = some (.cells (cellsC bud r time h (m + 1) ev) ty (0, 0)) := by
    have : w.heap.size ≠ b := by omega
    simp only [World.setRow, Array.getElem?_modify, this, if_false]; exact hYb
  have hZt : (Y.setRow w.heap.size Z66).heap[w.heap.size]? = some (.cells Z66 66 (0, 0)) := by
    simp only [World.setRow, Array.getElem?_modify, if_true, hYt]; rfl
  have hrd := run_loadVar_row (P := Tryz.prog) (Y.setRow w.heap.size Z66) w.heap.size 66 66 Z66 (0, 0) _ hZt Tryz.underlying66 rfl (by rw [sizeZ66]; exact info66)
  have hT' := hT
  have hZ' := hZb
  have hs129 : ∀ (u : World) (q : Nat), q = u.heap.size → (Instr.storeAt 129 (.pointer (some ⟨q, 0, none⟩)) (.agg Z129)).run Tryz.prog (u.alloc (.cells Z129 129)) = .ok () (u.alloc (.cells Z129 129)) := by
    rintro u q rfl
    exact run_storeAt_new u 129 Z129 Z129 (by rw [sizeZ]; exact (zero_of_info info129).2) rfl (by kernel_rfl)
  clear hT hZb hZt hYt hYb hVt hVb hWr hWb hWs hb hm hf hlr hlt
  subst hY hV hW
  have ha1 := alloc66 w
  have ha2 := alloc129 (w.alloc (.cells Z66 66))
  have hbl := build66
  rw [z66] at *
  rw [z129] at *
  have HT := Lib.hid hT'
  have HZ := Lib.hid hZ'
  clear hT' hZ'
  go_enter Tryz.func28, Tryz.ntmps28
  go_wp2_with (first
    | (refine wpList_store_run rfl 129 (.tmp 6) (.tmp 18) rfl rfl rfl (hs129 _ _ (by simp)) ?_)
    | (refine wpList_store_run rfl 66 (.tmp 4) (.tmp 29) rfl rfl rfl hst ?_))
  refine bodyPost_ret (v := .tuple #[.agg Tryz.zeroCells66, .bool false]) ?_ rfl ⟨rfl, HZ.out, HT.out⟩
  simp [results, Tryz.results28, asAddr, hrd, Result.andThen]
end Go.Proofs.YtbpklgllihhgpaaGreat
