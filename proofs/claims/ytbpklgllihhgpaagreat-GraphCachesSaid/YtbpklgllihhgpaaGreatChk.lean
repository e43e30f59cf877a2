import Derived.Test.YtbpklgllihhgpaaGreatChecked
import Derived.WalkKit
import Derived.Defers
import Derived.Recover
import Derived.Laws.Pointers
import Derived.Deep.WholeRow
import Derived.Lib.Hide
namespace Go.Proofs.YtbpklgllihhgpaaGreat
open Go.RowKit

set_option maxRecDepth 100000 in
theorem catch_idle (p q : Addr) (w : World) :
    CallsD Tryz.prog 114 #[.pointer (some p), .pointer (some q)] .returning w fun e u' w' => e = .returned (.tuple #[]) ∧ u' = .returning ∧ w' = w.alloc (.cells #[.int .i64 0, .int .i64 0] 188) := by
  have hta : ∀ w, (Instr.typeAssert .nilIface 20 188 true).run Tryz.prog w = .ok (.tuple #[.agg #[.int .i64 0, .int .i64 0], .bool false]) w := fun _ => by kernel_rfl
  refine callsD_of_wpS Tryz.func114 rfl fun c₀ cs hu => ?_
  apply wpS_seq
  apply wpS_region
  simp [wpOpsS, go_sem, recoverD, hu, Tryz.ntmps114, Exit.thenS, hta]
  apply wpS_seq
  apply wpS_region
  simp [wpOpsS, go_sem, Exit.thenS]
  refine wpS_cond (t := false) (by simp [Act.eval, Array.replicate]) ?_
  simp only [Bool.false_eq_true, if_false]
  refine wpS_of_wp (wp_skip ?_)
  cases c₀
  simp_all [bodyPostS, results, Tryz.results114]

set_option maxRecDepth 100000 in
theorem check_ok (v0 v1 v2 v3 : Value) (w : World) (U : World → Prop)
    (h115 : Calls Tryz.prog 115 #[.agg #[v0, v1, v2, v3]] (((w.alloc (.cells #[v0, v1, v2, v3] 29)).alloc (.cells #[.int .i64 0] 91)).alloc (.cells #[.int .i64 0] 3)) fun e w1 => (∃ v, e = .returned v) ∧ U w1)
    (hU : ∀ w1, U w1 → w1.cell? ⟨w.heap.size + 1, 0, none⟩ = some (.int .i64 0) ∧ w1.frozen? ⟨w.heap.size + 1, 0, none⟩ = false ∧ w1.cell? ⟨w.heap.size + 2, 0, none⟩ = some (.int .i64 0) ∧ w1.frozen? ⟨w.heap.size + 2, 0, none⟩ = false) :
    Calls Tryz.prog 76 #[.agg #[v0, v1, v2, v3]] w fun e w' => e = .returned (.tuple #[.int .i64 0, .int .i64 0]) ∧ ∃ w1, U w1 ∧
      w' = ((w1.setCell ⟨w.heap.size + 1, 0, none⟩ (.int .i64 0)).setCell ⟨w.heap.size + 2, 0, none⟩ (.int .i64 0)).alloc (.cells #[.int .i64 0, .int .i64 0] 188) := by
  have hmf : ∀ (fn : Fn) (first cap : Array Value) (w : World), (Instr.makeFunc fn first cap).run Tryz.prog w = .ok (.func fn first cap) w := fun _ _ _ _ => rfl
  go_enter_defers Tryz.func76, Tryz.ntmps76
  go_wp2_with (go_at_call 115; refine h115.mono ?_; rintro e w1 ⟨⟨v, rfl⟩, hu⟩; obtain ⟨a1, a2, a3, a4⟩ := hU w1 hu)
  have b1 : (w1.setCell ⟨w.heap.size + 1, 0, none⟩ (.int .i64 0)).setCell ⟨w.heap.size + 1 + 1, 0, none⟩ (.int .i64 0) = (w1.setCell ⟨w.heap.size + 1, 0, none⟩ (.int .i64 0)).setCell ⟨w.heap.size + 2, 0, none⟩ (.int .i64 0) := rfl
  rw [b1]
  obtain ⟨w2, hw2⟩ : ∃ w2, w2 = (w1.setCell ⟨w.heap.size + 1, 0, none⟩ (.int .i64 0)).setCell ⟨w.heap.size + 2, 0, none⟩ (.int .i64 0) := ⟨_, rfl⟩
  have c1 : w2.cell? ⟨w.heap.size + 1, 0, none⟩ = some (.int .i64 0) := by rw [hw2]; simp [go_sem, a1]
  have c2 : w2.cell? ⟨w.heap.size + 1 + 1, 0, none⟩ = some (.int .i64 0) := by rw [hw2]; simp [go_sem, a3]
  rw [← hw2]
  have l1 : w.heap.size + 1 + 1 < w2.heap.size := block_lt_of_cell c2
  refine leaves_cons (f := 114) (args := #[.pointer (some ⟨w.heap.size + 1, 0, none⟩), .pointer (some ⟨w.heap.size + 1 + 1, 0, none⟩)]) (by simp) (by simp [go_sem]) ?_
  refine (catch_idle ⟨w.heap.size + 1, 0, none⟩ ⟨w.heap.size + 1 + 1, 0, none⟩ _).mono ?_
  rintro e u' w'' ⟨rfl, rfl, rfl⟩
  have k1 : (w2.alloc (.cells #[.int .i64 0, .int .i64 0] 188)).cell? ⟨w.heap.size + 1, 0, none⟩ = some (.int .i64 0) := by
    rw [← c1]; simp only [World.cell?]; rw [heap_alloc_old _ _ (by omega)]
  have k2 : (w2.alloc (.cells #[.int .i64 0, .int .i64 0] 188)).cell? ⟨w.heap.size + 1 + 1, 0, none⟩ = some (.int .i64 0) := by
    rw [← c2]; simp only [World.cell?]; rw [heap_alloc_old _ _ l1]
  simp [Leaves, settle, results, Tryz.results76, go_sem, k1, k2]
  exact ⟨w1, hu, by rw [hw2]⟩
end Go.Proofs.YtbpklgllihhgpaaGreat
