/- ref18's take: a key that is not there. -/
import Derived.Test.YtbpklgllihhgpaaGreatTakeL
namespace Go.Proofs.YtbpklgllihhgpaaGreat
open Go.RowKit Go.Den

theorem str_ne {x k : ByteArray} (h : x ≠ k) : ¬ (x.toList == k.toList) = true := by
  intro e
  rw [← beq_toListBytes] at e
  refine h ?_
  have e' : ByteArray.beq x k = true := e
  unfold ByteArray.beq at e'
  exact ByteArray.ext (by simpa using e')
set_option maxHeartbeats 1000000 in
set_option maxRecDepth 100000 in
theorem take_miss {base b : Nat} {k : ByteArray} {bud h m ev : Int} {R : List (ByteArray × List Value)} {w : World} (hr : RefIs base b bud h m ev R w) (hk : k ∉ R.map (·.1)) (hn : R.length ≤ 1000) :
    Calls Tryz.prog 56 #[.pointer (some ⟨b, 0, none⟩), .string k] w fun e w' => e = .returned (.tuple #[.agg Z66, .bool false]) ∧ Turn [] w w' := by
  obtain ⟨⟨vk, vt, q1, q2, q3⟩, q4⟩ := hr
  have hlt : b < w.heap.size := (Array.getElem?_eq_some_iff.1 q1).1
  obtain ⟨W, hW⟩ : ∃ W, W = w.alloc (.cells Z66 66) := ⟨_, rfl⟩
  have hWb : W.heap[b]? = some (.cells (cellsR bud vk vt h m ev) 58 (0, 0)) := by rw [hW, (MapKept.heap_alloc w _).2 b hlt]; exact q1
  have hWt : W.heap[w.heap.size]? = some (.cells Z66 66 (0, 0)) := by rw [hW]; exact (MapKept.heap_alloc w _).1
  have c1 : W.cell? ⟨b, 1, none⟩ = some vk := by simp [World.cell?, hWb, cellsR]
  have hWk : SRow W base 9 1 vk R.length (R.map fun x => .string x.1) := q2.keep fun g hg => by rw [hW]; exact (MapKept.heap_alloc w _).2 g (q2.lt g hg).2.1
  obtain ⟨A, cap, rfl⟩ := hWk.form
  have hcell : ∀ i, i < R.length → ∃ g off x, A = some ⟨g, off, none⟩ ∧ W.cell? ⟨g, off + i, none⟩ = some (.string x) ∧ x ≠ k := by
    intro i hi
    rcases hWk.2 with ⟨_, e0⟩ | ⟨g, off, cap', arr, e, _, hh, _, _, _, h6⟩
    · omega
    · injection e with e1
      refine ⟨g, off, R[i].1, e1, ?_, fun e => hk (by rw [← e]; exact List.mem_map_of_mem (List.getElem_mem hi))⟩
      rw [cell_of_row W g _ arr 9 (0, 0) hh]
      exact h6 i _ (by simp [hi])
  have hst := store_row (ty := 66) hWt (by rw [sizeZ66]; exact info66) rfl oneZ66
  have hT : Turn [] w (W.setRow w.heap.size Z66) := by
    rw [hW]; exact ((Turn.refl [] w).alloc _).setRow _ (.inr (Nat.le_refl _))
  have hZt : (W.setRow w.heap.size Z66).heap[w.heap.size]? = some (.cells Z66 66 (0, 0)) := by
    simp only [World.setRow, Array.getElem?_modify, if_true, hWt]; rfl
  have hrd := run_loadVar_row (P := Tryz.prog) (W.setRow w.heap.size Z66) w.heap.size 66 66 Z66 (0, 0) _ hZt Tryz.underlying66 rfl (by rw [sizeZ66]; exact info66)
  have ha1 := alloc66 w
  have hbl := build66
  have HT := Lib.hid hT
  have HC := Lib.hid hcell
  clear hT hcell hWk hWb hWt hZt q1 q2 q3 q4 hlt hk
  generalize hN : R.length = N at *
  clear hN
  subst hW
  rw [z66] at *
  go_enter Tryz.func56, Tryz.ntmps56
  go_wp2
  go_loopw [6] (fun i wr => ∃ k : Nat, k ≤ N ∧ i = .int .i64 k ∧ wr = w.alloc (.cells Tryz.zeroCells66 66)) (fun i _ => N - (intOf i).toNat)
  case atStart => exact ⟨0, by omega, rfl, rfl⟩
  case round =>
    obtain ⟨j, hj, rfl, rfl⟩ := hrel
    by_cases hlt : j < N
    · obtain ⟨g, off, x, rfl, hc, hne⟩ := HC.out j hlt
      go_wp2
      all_goals first | exact absurd ‹(x.toList == k.toList) = true› (str_ne hne) | skip
      go_roundw
      case rel => exact ⟨j + 1, by omega, by go_num, trivial⟩
      case measure => simp [intOf]; omega
    · obtain rfl : j = N := by omega
      clear ha1 HC
      go_wp2_with (refine wpList_store_run rfl 66 (.tmp 4) (.tmp 77) rfl rfl rfl hst ?_)
      refine bodyPost_ret (v := .tuple #[.agg Tryz.zeroCells66, .bool false]) ?_ rfl ⟨rfl, HT.out⟩
      simp [results, Tryz.results56, asAddr, hrd, Result.andThen]
end Go.Proofs.YtbpklgllihhgpaaGreat
