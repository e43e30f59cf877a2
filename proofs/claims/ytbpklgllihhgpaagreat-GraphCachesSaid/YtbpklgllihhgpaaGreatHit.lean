/- Cache.Get of the program: a hit. -/
import Derived.Test.YtbpklgllihhgpaaGreatGet
namespace Go.Proofs.YtbpklgllihhgpaaGreat
open Go.RowKit Go.Den
open Go.ChangeMaps (setBlock)

theorem load_prefix {w : World} {g : Nat} {T : List Value} {x : Value} {t : TypeId} {fr : Nat × Nat} (hg : w.heap[g]? = some (.cells ⟨T ++ [x]⟩ t fr)) (hT : T.length = 256) :
    (loadVar 66 ⟨g, 0, none⟩).run Tryz.prog w = .ok (.agg ⟨T⟩) w := by
  have hagg : (isAgg 66).run Tryz.prog w = .ok true w := by simp [isAgg, run_underlying Tryz.underlying66, Result.andThen]
  have hl := run_loadCells_list (P := Tryz.prog) w ⟨g, 0, none⟩ T (fun j v hv => by
    have hadd : (⟨g, 0, none⟩ : Addr).add j = ⟨g, j, none⟩ := by unfold Addr.add; split <;> simp_all
    rw [hadd, cell_of_row _ _ j _ t fr hg]
    have hj : j < T.length := (List.getElem?_eq_some_iff.1 hv).1
    have e : (⟨T ++ [x]⟩ : Array Value)[j]? = (T ++ [x])[j]? := by simp
    rw [e, List.getElem?_append_left hj]; exact hv)
  rw [hT] at hl
  unfold loadVar
  rw [Sem.run_bind, hagg]
  simp only [Result.andThen, if_true, Sem.run_bind, run_sizeOf info66, hl]
  simp
theorem wpList_load_run {P : Program} {ops : Array Oper} {rest : List Oper} {o : Oper} {a : Act} {w : World} {Q : Exit → Act → World → Prop} (hg : o.guard = none) (t : TypeId) (x : Operand) (ho : o.op = .load t x) {g : Nat} {v : Value}
    (hx : a.eval x = .pointer (some ⟨g, 0, none⟩)) (hr : (loadVar t ⟨g, 0, none⟩).run P w = .ok v w) (h : wpList P ops Q rest (a.put o.dst v) w) : wpList P ops Q (o :: rest) a w := by
  refine wpList_plain hg fun K hK => ?_
  unfold Oper.wp
  have e : (Instr.loadAt t (.pointer (some ⟨g, 0, none⟩))).run P w = .ok v w := hr
  simp only [execOp, ho, hx, Sem.run_bind, e, Result.andThen]
  exact hK _ _ h
/-- what a hit finds and leaves -/
def HitPost (b r : Nat) (bud time h m ev : Int) (ty : TypeId) (es' : Array MapEntry) (cl' : Nat) (w w' : World) : Prop :=
  w'.heap[b]? = some (.cells (cellsC bud r (time + 1) (h + 1) m ev) ty (0, 0)) ∧ w'.heap[r]? = some (.map es' cl') ∧ Turn [b, r] w w'

set_option maxRecDepth 100000 in
set_option maxHeartbeats 1000000 in
theorem get_hit (b r : Nat) (k : ByteArray) (T : List Value) (u : Int) (hT : T.length = 256) (hone : T.all (·.oneCell') = true) (bud time h m ev : Int) (w : World) (es : Array MapEntry) (cl : Nat) (ty : TypeId)
    (hb : w.heap[b]? = some (.cells (cellsC bud r time h m ev) ty (0, 0))) (hm : w.heap[r]? = some (.map es cl)) (h0 : 0 ≤ h) (h1 : h ≤ 1000000000000) (ht0 : 0 ≤ time) (ht1 : time ≤ 1000000000000)
    (j : Nat) (hf : Instr.findNow .string (.string k) es.toList 0 = some (some (j, .agg ⟨T ++ [.int .i64 u]⟩)))
    (es' : Array MapEntry) (cl' : Nat) (hup : ∀ w', w'.heap[r]? = some (.map es cl) → (Instr.mapUpdate 124 (.map (some r)) (.string k) (.agg ⟨T ++ [.int .i64 (time + 1)]⟩)).run Tryz.prog w' = .ok () (setBlock w' r (.map es' cl'))) :
    Calls Tryz.prog 28 #[.pointer (some ⟨b, 0, none⟩), .string k] w fun e w' => e = .returned (.tuple #[.agg ⟨T⟩, .bool true]) ∧ HitPost b r bud time h m ev ty es' cl' w w' := by
  have hlt : b < w.heap.size := (Array.getElem?_eq_some_iff.1 hb).1
  have hlr : r < w.heap.size := (Array.getElem?_eq_some_iff.1 hm).1
  have hbr : b ≠ r := by rintro rfl; rw [hb] at hm; cases hm
  obtain ⟨W, hW⟩ : ∃ W, W = w.alloc (.cells Tryz.zeroCells66 66) := ⟨_, rfl⟩
  have hWs : W.heap.size = w.heap.size + 1 := by rw [hW]; show (w.heap.push _).size = _; simp
  have hWb : W.heap[b]? = some (.cells (cellsC bud r time h m ev) ty (0, 0)) := by rw [hW, (MapKept.heap_alloc w _).2 b hlt]; exact hb
  have hWr : W.heap[r]? = some (.map es cl) := by rw [hW, (MapKept.heap_alloc w _).2 r hlr]; exact hm
  have c1 : W.cell? ⟨b, 1, none⟩ = some (.map (some r)) := by simp [World.cell?, hWb, cellsC]
  have hlk := look_hit hWr hf
  obtain ⟨V, hV⟩ : ∃ V, V = W.alloc (.cells ⟨T ++ [.int .i64 u]⟩ 129) := ⟨_, rfl⟩
  have hVs : V.heap.size = w.heap.size + 2 := by rw [hV]; show (W.heap.push _).size = _; simp [hWs]
  have hVb : V.heap[b]? = some (.cells (cellsC bud r time h m ev) ty (0, 0)) := by rw [hV, (MapKept.heap_alloc W _).2 b (by omega)]; exact hWb
  have hVr : V.heap[r]? = some (.map es cl) := by rw [hV, (MapKept.heap_alloc W _).2 r (by omega)]; exact hWr
  have hVt : V.heap[w.heap.size]? = some (.cells Tryz.zeroCells66 66 (0, 0)) := by rw [hV, (MapKept.heap_alloc W _).2 _ (by omega), hW]; exact (MapKept.heap_alloc w _).1
  have hVx : V.heap[w.heap.size + 1]? = some (.cells ⟨T ++ [.int .i64 u]⟩ 129 (0, 0)) := by rw [hV, ← hWs]; exact (MapKept.heap_alloc W _).1
  have d3 : V.cell? ⟨b, 3, none⟩ = some (.int .i64 h) := by simp [World.cell?, hVb, cellsC]
  have f3 : V.frozen? ⟨b, 3, none⟩ = false := by simp [World.frozen?, hVb]
  obtain ⟨Y, hY⟩ : ∃ Y, Y = V.setCell ⟨b, 3, none⟩ (.int .i64 (h + 1)) := ⟨_, rfl⟩
  have hYb : Y.heap[b]? = some (.cells (cellsC bud r time (h + 1) m ev) ty (0, 0)) := by rw [hY]; simp only [World.setCell, Array.getElem?_modify, if_true, hVb]; rfl
  have hYo : ∀ g, g ≠ b → Y.heap[g]? = V.heap[g]? := fun g hg => by rw [hY, heap_setCell_other _ _ _ _ hg]
  have hYs : Y.heap.size = w.heap.size + 2 := by rw [hY]; simp [World.setCell, hVs]
  have hYr := (hYo r (Ne.symm hbr)).trans hVr
  have hYx := (hYo _ (by omega)).trans hVx
  have hYt := (hYo _ (by omega)).trans hVt
  have hld := load_prefix hYx hT
  have TY : Turn [b, r] w Y := by
    rw [hY, hV, hW]
    exact (((Turn.refl [b, r] w).alloc _).alloc _).setCell _ (.inl (by simp))
  have huse := use_any b r k T hT bud time (h + 1) m ev Y es cl ty hYb hYr ht0 ht1 es' cl' hup
  -- the world behind 'use'
  have hafter : ∀ n, ∃ Z, Z = setBlock (((Y.alloc (.cells ⟨T⟩ 66)).setCell ⟨b, 2, none⟩ (.int .i64 (time + 1))).drewN n) r (.map es' cl') ∧ Z.heap[b]? = some (.cells (cellsC bud r (time + 1) (h + 1) m ev) ty (0, 0)) ∧ Z.heap[r]? = some (.map es' cl') ∧
      Z.heap[w.heap.size + 1]? = some (.cells ⟨T ++ [.int .i64 u]⟩ 129 (0, 0)) ∧ Z.heap[w.heap.size]? = some (.cells Tryz.zeroCells66 66 (0, 0)) ∧ Turn [b, r] w Z := by
    intro n
    have o1 : ∀ g, g < Y.heap.size → g ≠ b → g ≠ r → (setBlock (((Y.alloc (.cells ⟨T⟩ 66)).setCell ⟨b, 2, none⟩ (.int .i64 (time + 1))).drewN n) r (.map es' cl')).heap[g]? = Y.heap[g]? := by
      intro g hg h2 h3
      simp only [setBlock, World.heap_drewN]
      rw [Array.getElem?_setIfInBounds, if_neg (Ne.symm h3), heap_setCell_other _ _ _ _ h2, (MapKept.heap_alloc Y _).2 g hg]
    refine ⟨_, rfl, ?_, ?_, ?_, ?_, ?_⟩
    · simp only [setBlock, World.heap_drewN]
      rw [Array.getElem?_setIfInBounds, if_neg (Ne.symm hbr)]
      simp only [World.setCell, Array.getElem?_modify, if_true, (MapKept.heap_alloc Y _).2 b (by omega), hYb]; rfl
    · simp only [setBlock, World.heap_drewN]
      rw [Array.getElem?_setIfInBounds, if_pos rfl, if_pos]
      show r < (World.setCell _ _ _).heap.size
      simp [World.setCell]; omega
    · rw [o1 _ (by omega) (by omega) (by omega)]; exact hYx
    · rw [o1 _ (by omega) (by omega) (by omega)]; exact hYt
    · exact (((TY.alloc _).setCell _ (.inl (by simp))).drawn n).setBlock _ (.inl (by simp))
  have fin : ∀ Z : World, Z.heap[b]? = some (.cells (cellsC bud r (time + 1) (h + 1) m ev) ty (0, 0)) → Z.heap[r]? = some (.map es' cl') → Z.heap[w.heap.size]? = some (.cells Tryz.zeroCells66 66 (0, 0)) → Turn [b, r] w Z →
      (Instr.storeAt 66 (.pointer (some ⟨w.heap.size, 0, none⟩)) (.agg ⟨T⟩)).run Tryz.prog Z = .ok () (Z.setRow w.heap.size ⟨T⟩) ∧ (loadVar 66 ⟨w.heap.size, 0, none⟩).run Tryz.prog (Z.setRow w.heap.size ⟨T⟩) = .ok (.agg ⟨T⟩) (Z.setRow w.heap.size ⟨T⟩) ∧
      HitPost b r bud time h m ev ty es' cl' w (Z.setRow w.heap.size ⟨T⟩) := by
    intro Z z1 z2 z4 z5
    have hz66 : Tryz.zeroCells66.size = 256 := by rw [← z66]; exact sizeZ66
    have q : ∀ g, g ≠ w.heap.size → (Z.setRow w.heap.size ⟨T⟩).heap[g]? = Z.heap[g]? := by
      intro g hg
      simp only [World.setRow, Array.getElem?_modify, Ne.symm hg, if_false]
    have q2 : (Z.setRow w.heap.size ⟨T⟩).heap[w.heap.size]? = some (.cells ⟨T⟩ 66 (0, 0)) := by
      simp only [World.setRow, Array.getElem?_modify, if_true, z4]; rfl
    refine ⟨store_row z4 (by rw [info66]; show some 256 = some T.length; rw [hT]) (by rw [hz66]; exact hT.symm) ?_, run_loadVar_row _ w.heap.size 66 66 ⟨T⟩ (0, 0) _ q2 Tryz.underlying66 rfl (by rw [info66]; show some 256 = some T.length; rw [hT]), ?_, ?_, z5.setRow _ (.inr (Nat.le_refl _))⟩
    · simpa using hone
    · rw [q b (by omega)]; exact z1
    · rw [q r (by omega)]; exact z2
  have hs129 : ∀ (x : World) (q : Nat), q = x.heap.size → (Instr.storeAt 129 (.pointer (some ⟨q, 0, none⟩)) (.agg ⟨T ++ [.int .i64 u]⟩)).run Tryz.prog (x.alloc (.cells Tryz.zeroCells129 129)) = .ok () (x.alloc (.cells ⟨T ++ [.int .i64 u]⟩ 129)) := by
    rintro x q rfl
    refine run_storeAt_new x 129 Tryz.zeroCells129 ⟨T ++ [.int .i64 u]⟩ ?_ ?_ ?_
    · rw [(zero_of_info info129).2]; show some 257 = some (T ++ [_]).length; simp [hT]
    · rw [← z129, sizeZ]; show 257 = (T ++ [_]).length; simp [hT]
    · have : (T ++ [Value.int .i64 u]).all (·.oneCell') = true := by rw [List.all_append, hone]; rfl
      simpa using this
  have HF := Lib.hid fin
  have HA := Lib.hid hafter
  have HU := Lib.hid huse
  have HT := Lib.hid hT
  clear fin hafter huse TY hYt hYx hYr hYs hYo hYb hVx hVt hVr hVb hVs hWr hWb hWs hup hb hm hf hlr hlt hbr hone hT
  have HY := Lib.hid hY
  clear hY
  subst hV hW
  have ha1 := alloc66 w
  have ha2 := alloc129 (w.alloc (.cells Tryz.zeroCells66 66))
  rw [z66] at ha1
  rw [z129] at ha2
  rw [HY.out] at hld
  go_enter Tryz.func28, Tryz.ntmps28
  go_wp2_with (first
    | (refine wpList_store_run rfl 129 (.tmp 6) (.tmp 18) rfl rfl rfl (hs129 _ _ (by simp)) ?_)
    | (refine wpList_load_run rfl 66 (.tmp 39) rfl rfl hld ?_))
  rw [← HY.out]
  refine HU.out.mono ?_
  rintro e w5 ⟨rfl, n, hw5⟩
  obtain ⟨Z, hZ, z1, z2, z3, z4, z5⟩ := HA.out n
  rw [← hZ] at hw5
  subst hw5
  clear hZ
  obtain ⟨g1, g2, g3⟩ := HF.out w5 z1 z2 z4 z5
  have hl2 := load_prefix z3 HT.out
  have G3 := Lib.hid g3
  clear g3 z1 z2 z3 z4 z5 hld hlk c1 d3 f3 ha1 ha2 hs129 HF HA HU HT HY
  go_wp2_with (first
    | (refine wpList_load_run rfl 66 (.tmp 42) rfl rfl hl2 ?_)
    | (refine wpList_store_run rfl 66 (.tmp 4) (.tmp 43) rfl rfl rfl g1 ?_))
  refine bodyPost_ret (v := .tuple #[.agg ⟨T⟩, .bool true]) ?_ rfl ⟨rfl, G3.out⟩
  simp [results, Tryz.results28, asAddr, g2, Result.andThen]
end Go.Proofs.YtbpklgllihhgpaaGreat
