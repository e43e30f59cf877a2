/- The reference's Get. -/
import Derived.Test.YtbpklgllihhgpaaGreatRPut
namespace Go.Proofs.YtbpklgllihhgpaaGreat
open Go.RowKit Go.Den

def GMissPost (base b : Nat) (bud h m ev : Int) (R : List REnt) (w : World) (e : Ending) (w' : World) : Prop :=
  e = .returned (.tuple #[.agg Z66, .bool false]) ∧ RefIs base b bud h (m + 1) ev R w' ∧ TurnA w.heap.size [b] w w'
set_option maxHeartbeats 4000000 in
set_option maxRecDepth 100000 in
theorem rget_miss {base b : Nat} {k : ByteArray} {bud h m ev : Int} {R : List REnt} {w : World} (hr : RefIs base b bud h m ev R w) (hk : k ∉ R.map (·.1)) (hn : R.length ≤ 900) (hb : b < base) (hb0 : base ≤ w.heap.size)
    (he0 : 0 ≤ m) (he1 : m ≤ 1000000000000) :
    Calls Tryz.prog 29 #[.pointer (some ⟨b, 0, none⟩), .string k] w (GMissPost base b bud h m ev R w) := by
  have hW : RefIs base b bud h m ev R (w.alloc (.cells Z66 66)) := hr.kept ((Turn.refl _ _).alloc _)
  have hsW : (w.alloc (.cells Z66 66)).heap.size = w.heap.size + 1 := by show (w.heap.push _).size = _; simp
  have hbW : (w.alloc (.cells Z66 66)).heap[w.heap.size]? = some (.cells Z66 66 (0, 0)) := heap_alloc_new w _
  have h56 := take_miss (k := k) hW hk (by omega)
  have ha : ∀ u : World, (Instr.alloc 66 true (.tuple #[])).run Tryz.prog u = .ok (.pointer (some ⟨u.heap.size, 0, none⟩)) (u.alloc (.cells Z66 66)) := alloc66
  have hbl := build66
  have hfin : ∀ w1, Turn [] (w.alloc (.cells Z66 66)) w1 → (w1.alloc (.cells Z66 66)).cell? ⟨b, 4, none⟩ = some (.int .i64 m) ∧ (w1.alloc (.cells Z66 66)).frozen? ⟨b, 4, none⟩ = false ∧
      (Instr.storeAt 66 (.pointer (some ⟨w.heap.size, 0, none⟩)) (.agg Z66)).run Tryz.prog ((w1.alloc (.cells Z66 66)).setCell ⟨b, 4, none⟩ (.int .i64 (m + 1))) = .ok () (((w1.alloc (.cells Z66 66)).setCell ⟨b, 4, none⟩ (.int .i64 (m + 1))).setRow w.heap.size Z66) ∧
      (loadVar 66 ⟨w.heap.size, 0, none⟩).run Tryz.prog (((w1.alloc (.cells Z66 66)).setCell ⟨b, 4, none⟩ (.int .i64 (m + 1))).setRow w.heap.size Z66) = .ok (.agg Z66) (((w1.alloc (.cells Z66 66)).setCell ⟨b, 4, none⟩ (.int .i64 (m + 1))).setRow w.heap.size Z66) ∧
      RefIs base b bud h (m + 1) ev R (((w1.alloc (.cells Z66 66)).setCell ⟨b, 4, none⟩ (.int .i64 (m + 1))).setRow w.heap.size Z66) ∧ TurnA w.heap.size [b] w (((w1.alloc (.cells Z66 66)).setCell ⟨b, 4, none⟩ (.int .i64 (m + 1))).setRow w.heap.size Z66) := by
    intro w1 t1
    have t2 := t1.alloc (.cells Z66 66)
    have t3 : Turn [] w (w1.alloc (.cells Z66 66)) := ((Turn.refl [] w).alloc _).trans t2
    have US := turn_cells hbW t2
    obtain ⟨A, c, A', c', q1, q2, q3, q4⟩ := after_take (hW.kept t2)
    have l2 := fun g hg => (q2.lt g hg).1
    generalize w1.alloc (.cells Z66 66) = U at *
    have Xb := setCell_block (i := 4) (v := .int .i64 (m + 1)) q1
    have XS : (U.setCell ⟨b, 4, none⟩ (.int .i64 (m + 1))).heap[w.heap.size]? = some (.cells Z66 66 (0, 0)) := by
      rw [heap_setCell_other _ _ _ _ (by show w.heap.size ≠ b; omega)]; exact US
    have tt : Turn [b] w (U.setCell ⟨b, 4, none⟩ (.int .i64 (m + 1))) := (t3.mono (by simp)).setCell _ (.inl (by simp))
    refine ⟨cR q1 4, fR q1 4, ?_, ?_, ?_, ?_⟩
    · exact store_row (ty := 66) XS (by rw [sizeZ66]; exact info66) rfl oneZ66
    · refine run_loadVar_row (P := Tryz.prog) _ w.heap.size 66 66 Z66 (0, 0) _ ?_ Tryz.underlying66 rfl (by rw [sizeZ66]; exact info66)
      simp only [World.setRow, Array.getElem?_modify, if_true, XS]; rfl
    · obtain ⟨⟨vk, vt, p1, p2, p3⟩, p4⟩ := hr
      have old : ∀ g, g < w.heap.size → g ≠ b → ((U.setCell ⟨b, 4, none⟩ (.int .i64 (m + 1))).setRow w.heap.size Z66).heap[g]? = w.heap[g]? := fun g hg hne => by
        have : w.heap.size ≠ g := by omega
        simp only [World.setRow, Array.getElem?_modify, this, if_false]
        exact tt.old g hg (by simp [hne])
      refine ⟨⟨.slice A R.length c, .slice A' R.length c', ?_, ?_, ?_⟩, p4⟩
      · have : w.heap.size ≠ b := by omega
        simp only [World.setRow, Array.getElem?_modify, this, if_false]
        exact Xb
      · have e : vk = .slice A R.length c := by
          have e1 := turn_cells p1 t3
          rw [q1] at e1
          injection e1 with e1
          injection e1 with e1
          have := congrArg (fun a => a[1]?) e1
          simp [cellsR] at this
          exact this.symm
        rw [← e]
        exact p2.keep fun g hg => old g (p2.lt g hg).2.1 (by have := (p2.lt g hg).1; omega)
      · have e : vt = .slice A' R.length c' := by
          have e1 := turn_cells p1 t3
          rw [q1] at e1
          injection e1 with e1
          injection e1 with e1
          have := congrArg (fun a => a[2]?) e1
          simp [cellsR] at this
          exact this.symm
        rw [← e]
        exact p3.keep fun g hg => old g (p3.lt g hg).2.1 (by have := (p3.lt g hg).1; omega)
    · exact (TurnA.of tt (by simp)).setRow _ (Nat.le_refl _)
  have hs66 : ∀ (x : World) (q : Nat), q = x.heap.size → (Instr.storeAt 66 (.pointer (some ⟨q, 0, none⟩)) (.agg Z66)).run Tryz.prog (x.alloc (.cells Z66 66)) = .ok () (x.alloc (.cells Z66 66)) := by
    rintro x q rfl
    exact store66 x
  have H56 := Lib.hid h56
  have HF := Lib.hid hfin
  clear hr hW hsW hbW hk hn h56 hfin hb hb0
  unfold GMissPost
  rw [z66] at *
  go_enter Tryz.func29, Tryz.ntmps29
  go_wp2_with (first
    | (go_at_call 56; refine H56.out.mono ?_; rintro e w1 ⟨rfl, ht1⟩; obtain ⟨g1, g2, g3, g4, g5, g6⟩ := HF.out w1 ht1; have G5 := Lib.hid g5; have G6 := Lib.hid g6; clear g5 g6 ht1)
    | (refine wpList_store_run rfl 66 (.tmp 6) (.tmp 12) rfl rfl rfl (hs66 _ _ (by simp)) ?_)
    | (refine wpList_store_run rfl 66 (.tmp 4) (.tmp 24) rfl rfl rfl g3 ?_))
  refine bodyPost_ret (v := .tuple #[.agg Tryz.zeroCells66, .bool false]) ?_ rfl ⟨rfl, G5.out, G6.out⟩
  simp [results, Tryz.results29, asAddr, g4, Result.andThen]
end Go.Proofs.YtbpklgllihhgpaaGreat
