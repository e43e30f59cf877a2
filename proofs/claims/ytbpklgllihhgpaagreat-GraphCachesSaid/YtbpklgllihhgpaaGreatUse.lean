import Derived.Test.YtbpklgllihhgpaaGreatPut
import Derived.StillTailTactics
import Derived.Test.YtbpklgllihhgpaaGreatDenY
namespace Go.Proofs.YtbpklgllihhgpaaGreat
open Go.RowKit
open Go.ChangeMaps (setBlock)

/-- a used tile: its key, its cells, the time of its last use -/
abbrev Ent := ByteArray × List Value × Int
def encE (x : Ent) : Value × Value := (.string x.1, .agg ⟨x.2.1 ++ [.int .i64 x.2.2]⟩)
structure MapIs (r : Nat) (R : List Ent) (es : Array MapEntry) (cl : Nat) (w : World) : Prop where
  at_ : w.heap[r]? = some (.map es cl)
  perm : (es.toList.map fun e => (e.key, e.val)).Perm (R.map encE)
  born : ∀ e ∈ es.toList, e.born < cl
  nd : (es.toList.map (·.born)).Nodup
  keys : (R.map (·.1)).Nodup
def cellsC (bud : Int) (r : Nat) (time h m ev : Int) : Array Value := #[.int .i64 bud, .map (some r), .int .i64 time, .int .i64 h, .int .i64 m, .int .i64 ev]

theorem sameStr (a : ByteArray) : Instr.sameBits 10000 (.string a) (.string a) = true := by
  show (a == a) = true
  show ByteArray.beq a a = true
  unfold ByteArray.beq
  simp
theorem isKey (s : ByteArray) : MapKept.IsKey .string (.string s) := by simp [MapKept.IsKey]
theorem upd_old {w : World} {r : Nat} {es : Array MapEntry} {cl : Nat} (hm : w.heap[r]? = some (.map es cl)) {k : ByteArray} {v : Value} {j : Nat} {e : MapEntry} (hf : Instr.findNow .string (.string k) es.toList 0 = some (some (j, e.val))) (hj : es[j]? = some e) (hk : e.key = .string k) :
    (Instr.mapUpdate 124 (.map (some r)) (.string k) v).run Tryz.prog w = .ok () (setBlock w r (.map (es.modify j fun e => { e with key := .string k, val := v }) cl)) := by
  have hs := sameStr k
  simp [Instr.mapUpdate, run_underlying Tryz.underlying124, MapKept.run_getObj_map hm, MapKept.run_checkKey Tryz.underlying59 (isKey k), MapKept.run_findKey Tryz.underlying59 hf, Instr.keyThatStays, hj, hk, hs, MapKept.run_setObj_map _ hm, Result.andThen, setBlock]
theorem upd_new {w : World} {r : Nat} {es : Array MapEntry} {cl : Nat} (hm : w.heap[r]? = some (.map es cl)) {k : ByteArray} {v : Value} (hf : Instr.findNow .string (.string k) es.toList 0 = some none) :
    (Instr.mapUpdate 124 (.map (some r)) (.string k) v).run Tryz.prog w = .ok () (setBlock w r (.map (es.push { key := .string k, val := v, born := cl }) (cl + 1))) := by
  simp [Instr.mapUpdate, run_underlying Tryz.underlying124, MapKept.run_getObj_map hm, MapKept.run_checkKey Tryz.underlying59 (isKey k), MapKept.run_findKey Tryz.underlying59 hf, MapKept.run_setObj_map _ hm, Result.andThen, setBlock]
end Go.Proofs.YtbpklgllihhgpaaGreat
namespace Go.Proofs.YtbpklgllihhgpaaGreat
open Go.RowKit
open Go.ChangeMaps (setBlock)
theorem still_tail_drew {P : Program} {id : Nat} {Q : Exit → Act → World → Prop} {a : Act} {w : World} {l : List Oper} (n : Nat) (hm : P.follows .mixedOrders = true) (hB : Region.lexTailB .any l.toArray n = true)
    (h : wpStill P l.toArray w.drew (fun a' => wpList P l.toArray Q (l.drop n) a' w.drew) (l.take n) a) : (Code.region id l.toArray true).wp P Q a w := wp_region_still_tail n hm hB h
theorem wpStill_run {P : Program} {ops : Array Oper} {w : World} {Q : Act → Prop} {a : Act} {o : Oper} {rest : List Oper} {v : Value} (hg : o.guard = none) (hr : (execOp a.eval o).run P w = .ok (.value v) w)
    (h : wpStill P ops w Q rest (a.put o.dst v)) : wpStill P ops w Q (o :: rest) a := by
  unfold wpStill
  have hw : Region.wanted o (yielded ops a.tmps) = true := by unfold Region.wanted; rw [hg]
  rw [hw, if_pos rfl]
  unfold Oper.still
  rw [hr]
  exact ⟨rfl, h⟩
theorem wpStill_build {P : Program} {ops : Array Oper} {w : World} {Q : Act → Prop} {a : Act} {o : Oper} {rest : List Oper} {v : Value} {t : TypeId} {parts : Array (Nat × Operand)} {vs : Array (Nat × Value)} (hg : o.guard = none)
    (ho : o.op = .build t parts) (hp : (parts.map fun (i, x) => (i, a.eval x)) = vs) (hr : (Instr.build t vs).run P w = .ok v w) (h : wpStill P ops w Q rest (a.put o.dst v)) : wpStill P ops w Q (o :: rest) a := by
  obtain ⟨d, op, ty, pos, af, g⟩ := o
  simp only at ho
  subst ho
  refine wpStill_run hg ?_ h
  show (Sem.bind (Instr.build t (parts.map fun (i, x) => (i, a.eval x))) _).run P w = _
  rw [hp, Sem.run_bind', hr]
  rfl
theorem places129 (w : World) : ∃ fs, Tryz.prog.underlying 129 = some (.struct fs) ∧ (fs.mapM fun f => do pure (f.offset, ← sizeOf f.type) : Sem (Array (Nat × Nat))).run Tryz.prog w = .ok #[(0, 256), (256, 1)] w := ⟨_, Tryz.underlying129, by kernel_rfl⟩
theorem info3 : (Tryz.prog.info? 3).map (·.size) = some 1 := by kernel_rfl
theorem run_sizeOf {P : Program} {t : TypeId} {n : Nat} (h : (P.info? t).map (·.size) = some n) (w : World) : (sizeOf t).run P w = .ok n w := by
  cases hi : P.info? t with
  | none => rw [hi] at h; cases h
  | some i =>
    rw [hi] at h
    cases h
    simp [sizeOf, typeInfo, hi]
set_option maxRecDepth 100000 in
theorem fill129 (T : List Value) (hT : T.length = 256) (t : Value) (ht : t.cells = #[t]) : Instr.fill (#[(0, 256), (256, 1)][·]?) Z129 [(0, .agg ⟨T⟩), (1, t)] = some ⟨T ++ [t]⟩ := by
  have hZ := sizeZ
  have e0 : (Value.agg ⟨T⟩).cells = ⟨T⟩ := rfl
  simp only [Instr.fill, e0, ht]
  have s1 : (#[(0, 256), (256, 1)] : Array (Nat × Nat))[0]? = some (0, 256) := rfl
  have s2 : (#[(0, 256), (256, 1)] : Array (Nat × Nat))[1]? = some (256, 1) := rfl
  rw [s1, s2]
  simp only
  obtain ⟨A, hA⟩ : ∃ A : Array Value, A = (⟨T⟩ : Array Value).zipIdx.foldl (fun (cs : Array Value) (x : Value × Nat) => cs.setIfInBounds (0 + x.2) x.1) Z129 := ⟨_, rfl⟩
  have hAi : ∀ i : Nat, A[i]? = if i < 256 then T[i]? else Z129[i]? := by
    intro i
    rw [hA, ← Array.foldl_toList, Array.toList_zipIdx, Go.Den.foldl_set, hT, hZ]
    by_cases h : i < 256
    · rw [if_pos (by omega), if_pos h]; simp
    · rw [if_neg (by omega), if_neg h]
  have hAs : A.size = 257 := by
    have h1 : A[256]? ≠ none := by rw [hAi, if_neg (by omega)]; rw [Array.getElem?_eq_getElem (by omega)]; exact fun h => by cases h
    have h2 : A[257]? = none := by rw [hAi, if_neg (by omega)]; exact Array.getElem?_eq_none (by omega)
    have h3 := Array.getElem?_eq_none_iff.1 h2
    have h4 : ¬ A.size ≤ 256 := fun hc => h1 (Array.getElem?_eq_none hc)
    omega
  rw [if_neg (by simp [hT, hZ]), ← hA, if_neg (by simp [hAs])]
  congr 1
  refine Array.ext_getElem? fun i => ?_
  rw [← Array.foldl_toList, Array.toList_zipIdx, Go.Den.foldl_set, hAs, hAi]
  rw [show (⟨T ++ [t]⟩ : Array Value)[i]? = (T ++ [t])[i]? by simp]
  by_cases h1 : i < 256
  · rw [if_neg (by simp <;> omega), if_pos h1, List.getElem?_append_left (by omega)]
  · by_cases h2 : i = 256
    · subst h2
      rw [if_pos (by simp), List.getElem?_append_right (by omega), hT]
    · rw [if_neg (by simp <;> omega), if_neg h1, Array.getElem?_eq_none (by omega), List.getElem?_eq_none (by simp <;> omega)]
theorem build129 (T : List Value) (hT : T.length = 256) (t : Int) (w : World) : (Instr.build 129 #[(0, .agg ⟨T⟩), (1, .int .i64 t)]).run Tryz.prog w = .ok (.agg ⟨T ++ [.int .i64 t]⟩) w := by
  obtain ⟨fs, hu, hp⟩ := places129 w
  unfold Instr.build
  rw [Sem.run_bind, (zero_of_info info129).1]
  simp only [Result.andThen, Sem.run_bind, run_underlying hu]
  rw [hp]
  have hf := fill129 T hT (.int .i64 t) rfl
  simp only [Value.cells] at hf ⊢
  rw [hf]
  rfl
set_option maxRecDepth 100000 in
set_option maxHeartbeats 1000000 in
theorem use_any (b r : Nat) (k : ByteArray) (T : List Value) (hT : T.length = 256) (bud time h m ev : Int) (w : World) (es : Array MapEntry) (cl : Nat) (ty : TypeId)
    (hb : w.heap[b]? = some (.cells (cellsC bud r time h m ev) ty (0, 0))) (hm : w.heap[r]? = some (.map es cl)) (ht0 : 0 ≤ time) (ht1 : time ≤ 1000000000000)
    (es' : Array MapEntry) (cl' : Nat) (hup : ∀ w', w'.heap[r]? = some (.map es cl) → (Instr.mapUpdate 124 (.map (some r)) (.string k) (.agg ⟨T ++ [.int .i64 (time + 1)]⟩)).run Tryz.prog w' = .ok () (setBlock w' r (.map es' cl'))) :
    Calls Tryz.prog 55 #[.pointer (some ⟨b, 0, none⟩), .string k, .agg ⟨T⟩] w fun e w' => e = .returned (.tuple #[]) ∧
      ∃ n, w' = setBlock ((((w.alloc (.cells ⟨T⟩ 66)).setCell ⟨b, 2, none⟩ (.int .i64 (time + 1)))).drewN n) r (.map es' cl') := by
  have hlt : b < w.heap.size := (Array.getElem?_eq_some_iff.1 hb).1
  have hlr : r < w.heap.size := (Array.getElem?_eq_some_iff.1 hm).1
  have hbr : b ≠ r := by rintro rfl; rw [hb] at hm; cases hm
  obtain ⟨W, hW⟩ : ∃ W, W = w.alloc (.cells ⟨T⟩ 66) := ⟨_, rfl⟩
  have hWb : W.heap[b]? = some (.cells (cellsC bud r time h m ev) ty (0, 0)) := by rw [hW, (MapKept.heap_alloc w _).2 b hlt]; exact hb
  have hWr : W.heap[r]? = some (.map es cl) := by rw [hW, (MapKept.heap_alloc w _).2 r hlr]; exact hm
  have hWt : W.heap[w.heap.size]? = some (.cells ⟨T⟩ 66 (0, 0)) := by rw [hW]; exact (MapKept.heap_alloc w _).1
  have c2 : W.cell? ⟨b, 2, none⟩ = some (.int .i64 time) := by simp [World.cell?, hWb, cellsC]
  have f2 : W.frozen? ⟨b, 2, none⟩ = false := by simp [World.frozen?, hWb]
  obtain ⟨V, hV⟩ : ∃ V, V = W.setCell ⟨b, 2, none⟩ (.int .i64 (time + 1)) := ⟨_, rfl⟩
  have hVb : V.heap[b]? = some (.cells (cellsC bud r (time + 1) h m ev) ty (0, 0)) := by rw [hV]; simp only [World.setCell, Array.getElem?_modify, if_true, hWb]; rfl
  have hVr : V.heap[r]? = some (.map es cl) := by rw [hV, heap_setCell_other _ _ _ _ (Ne.symm hbr)]; exact hWr
  have hVt : V.heap[w.heap.size]? = some (.cells ⟨T⟩ 66 (0, 0)) := by rw [hV, heap_setCell_other _ _ _ _ (by show w.heap.size ≠ b; omega)]; exact hWt
  have d1 : V.cell? ⟨b, 1, none⟩ = some (.map (some r)) := by simp [World.cell?, hVb, cellsC]
  have d2 : V.cell? ⟨b, 2, none⟩ = some (.int .i64 (time + 1)) := by simp [World.cell?, hVb, cellsC]
  have hld : (loadVar 66 ⟨w.heap.size, 0, none⟩).run Tryz.prog V.drew = .ok (.agg ⟨T⟩) V.drew :=
    run_loadVar_row V.drew w.heap.size 66 66 ⟨T⟩ (0, 0) _ hVt Tryz.underlying66 rfl (by rw [info66]; show some 256 = some T.length; rw [hT])
  have hup' := hup V.drew hVr
  clear hWb hWr hWt hVb hVr hVt hup hb hm
  subst hV hW
  have hbd := fun w => build129 T hT (time + 1) w
  have qT : ∀ (w : World) (r : Option Nat), (binOp .eql 124 (.map r) (.map none)).run Tryz.prog w = .ok (.bool r.isNone) w := fun w r => run_eql_map_nil w _ _ _ r Tryz.underlying124
  clear hT hbr hlr hlt
  go_enter Tryz.func55, Tryz.ntmps55
  go_wp2_with fail
  refine still_tail_drew 11 (by kernel_rfl) (by kernel_rfl) ?_
  simp only [List.take_succ_cons, List.take_zero, List.drop_succ_cons, List.drop_zero]
  iterate 5 still_step
  refine wpStill_run (v := .agg ⟨T⟩) rfl (by
    have : (Instr.loadAt 66 (.pointer (some ⟨w.heap.size, 0, none⟩))).run Tryz.prog (((w.alloc (.cells ⟨T⟩ 66)).setCell ⟨b, 2, none⟩ (.int .i64 (time + 1))).drew) = .ok (.agg ⟨T⟩) _ := hld
    show (Sem.bind (Instr.loadAt 66 (.pointer (some ⟨w.heap.size, 0, none⟩))) _).run Tryz.prog _ = _
    rw [Sem.run_bind', this]; rfl) ?_
  go_frame
  iterate 4 still_step
  refine wpStill_build (v := .agg ⟨T ++ [.int .i64 (time + 1)]⟩) (vs := #[(0, .agg ⟨T⟩), (1, .int .i64 (time + 1))]) rfl rfl (by simp [go_sem, Act.eval]) (hbd _) ?_
  refine wpStill_nil ?_
  go_frame
  go_wp2_with fail
  go_end0
  exact ⟨rfl, 1, rfl⟩
end Go.Proofs.YtbpklgllihhgpaaGreat
