/- What the law asks of a nil cache, call by call. -/
import Derived.Test.YtbpklgllihhgpaaGreatSan
import Derived.WalkKit
namespace Go.Proofs.YtbpklgllihhgpaaGreat
open Go.RowKit Go.Den

theorem Ext0.trans {a b c : World} (h : Ext0 a b) (k : Ext0 b c) : Ext0 a c :=
  ⟨Nat.le_trans h.size k.size, fun cb hc => (k.old cb (Nat.lt_of_lt_of_le hc h.size)).trans (h.old cb hc), k.os.trans h.os, k.tape.trans h.tape, k.output.trans h.output⟩
theorem Ext0.drew {a b : World} (h : Ext0 a b) : Ext0 a b.drew := ⟨h.size, h.old, h.os, h.tape, h.output⟩

def rest7 (n : Int) : Int := (n.tmod 7 + 7) % 7
theorem rest7_bd (n : Int) : 0 ≤ rest7 n ∧ rest7 n ≤ 6 := by unfold rest7; omega
theorem tmod7 (n : Int) : -7 < n.tmod 7 ∧ n.tmod 7 < 7 := by
  refine ⟨?_, Int.tmod_lt_of_pos n (by omega)⟩
  have h := Int.tmod_lt_of_pos (-n) (show (0 : Int) < 7 by omega)
  rw [Int.neg_tmod] at h
  omega
theorem rest_any (n : Int) (w : World) :
    Calls Tryz.prog 21 #[.int .i64 n, .int .i64 7] w fun e w' => e = .returned (.int .i64 (rest7 n)) ∧ w' = w := by
  obtain ⟨h2, h3⟩ := tmod7 n
  go_enter Tryz.func21, Tryz.ntmps21
  go_wp2
  go_ret
  exact ⟨rfl, rfl⟩
theorem byte_string (w : World) (x : Int) : (convert 127 59 (.slice (some ⟨w.heap.size, 0, none⟩) 1 1)).run Tryz.prog (w.alloc (.cells #[.int .u8 x] 5)) =
    .ok (.string ⟨#[UInt8.ofNat x.toNat]⟩) (w.alloc (.cells #[.int .u8 x] 5)) := by
  rw [run_convert_bytes_string _ 127 59 5 _ _ _ Tryz.underlying127 Tryz.underlying5 Tryz.underlying59, run_bytesToString _ ⟨w.heap.size, 0, none⟩ 1 1 [x] (by
    have := run_loadCellsFrom_new (P := Tryz.prog) w 5 #[.int .u8 x] 1 rfl
    simpa [loadCells] using this)]
  rfl
set_option maxRecDepth 100000 in
theorem key_any (n : Int) (w : World) :
    Calls Tryz.prog 24 #[.int .i64 n] w fun e w' => e = .returned (.string ⟨#[UInt8.ofNat (97 + rest7 n).toNat]⟩) ∧ w' = w.alloc (.cells #[.int .u8 (97 + rest7 n)] 5) := by
  have hb := rest7_bd n
  have hcv := byte_string w (97 + rest7 n)
  go_enter Tryz.func24, Tryz.ntmps24
  go_wp2_with (go_at_call 21; refine (rest_any _ _).mono ?_; rintro e w' ⟨rfl, hw⟩; subst hw)
  go_ret
  exact ⟨rfl, rfl⟩

noncomputable def Z66 : Array Value := match (Tryz.prog.info? 66).map (fun i => i.zero) with | some (some (Value.agg cs)) => cs | _ => #[]
theorem info66z : (Tryz.prog.info? 66).map (fun i => (i.zero, i.size)) = some (some (.agg Z66), 256) := by kernel_rfl
theorem sizeZ66 : Z66.size = 256 := by kernel_rfl
theorem oneZ66 : Z66.all (·.oneCell') = true := by kernel_rfl
theorem build66 (w : World) : (Instr.build 66 #[]).run Tryz.prog w = .ok (.agg Z66) w := by kernel_rfl
set_option maxRecDepth 100000 in
theorem alloc66 (w : World) : (Instr.alloc 66 true (.tuple #[])).run Tryz.prog w = .ok (.pointer (some ⟨w.heap.size, 0, none⟩)) (w.alloc (.cells Z66 66)) := by
  unfold Instr.alloc
  rw [Sem.run_bind, (zero_of_info info66z).1]; rfl
theorem store66 (w : World) : (Instr.storeAt 66 (.pointer (some ⟨w.heap.size, 0, none⟩)) (.agg Z66)).run Tryz.prog (w.alloc (.cells Z66 66)) = .ok () (w.alloc (.cells Z66 66)) :=
  run_storeAt_new w 66 Z66 Z66 (by rw [sizeZ66]; exact (zero_of_info info66z).2) rfl oneZ66
theorem load66 (w : World) : (loadVar 66 ⟨w.heap.size, 0, none⟩).run Tryz.prog (w.alloc (.cells Z66 66)) = .ok (.agg Z66) (w.alloc (.cells Z66 66)) :=
  run_loadVar_new w 66 Z66 64 64 Tryz.underlying66 (by rw [sizeZ66]; exact (zero_of_info info66z).2)
theorem put_nil (s : ByteArray) (T : Array Value) (w : World) : Calls Tryz.prog 26 #[.pointer none, .string s, .agg T] w fun e w' => e = .returned (.tuple #[]) ∧ w' = w.alloc (.cells T 66) := by
  go_enter Tryz.func26, Tryz.ntmps26
  go_wp2_with fail
  refine bodyPost_ret (results_none rfl _ _ _) rfl ?_
  exact ⟨rfl, rfl⟩
set_option maxRecDepth 100000 in
theorem get_nil (s : ByteArray) (w : World) : Calls Tryz.prog 28 #[.pointer none, .string s] w fun e w' => e = .returned (.tuple #[.agg Z66, .bool false]) ∧ w' = w.alloc (.cells Z66 66) := by
  have h1 := alloc66 w
  have h2 := build66
  go_enter Tryz.func28, Tryz.ntmps28
  go_wp2_with (refine wpList_store_run rfl 66 (.tmp 4) (.tmp 10) rfl rfl rfl (store66 w) ?_)
  refine bodyPost_ret (v := .tuple #[.agg Z66, .bool false]) ?_ rfl ⟨rfl, rfl⟩
  have h3 := load66 w
  simp [results, Tryz.results28, asAddr, h3, Result.andThen]
theorem clear_nil (w : World) : Calls Tryz.prog 23 #[.pointer none] w fun e w' => e = .returned (.tuple #[]) ∧ w' = w := by
  go_enter Tryz.func23, Tryz.ntmps23
  go_wp2_with fail
  go_end0
  exact ⟨rfl, rfl⟩
theorem stats_nil (w : World) : Calls Tryz.prog 30 #[.pointer none] w fun e w' => e = .returned (.tuple #[.int .i64 0, .int .i64 0, .int .i64 0]) ∧ w' = w := by
  go_enter Tryz.func30, Tryz.ntmps30
  go_wp2_with fail
  go_ret3
  exact ⟨rfl, rfl⟩
theorem count_nil (w : World) : Calls Tryz.prog 31 #[.pointer none] w fun e w' => e = .returned (.int .i64 0) ∧ w' = w := by
  go_enter Tryz.func31, Tryz.ntmps31
  go_wp2_with fail
  go_ret
  exact ⟨rfl, rfl⟩
end Go.Proofs.YtbpklgllihhgpaaGreat
