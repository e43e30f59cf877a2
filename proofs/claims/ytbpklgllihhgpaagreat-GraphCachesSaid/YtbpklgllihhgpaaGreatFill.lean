/- ref07.Fill: a tile of one colour. -/
import Derived.Test.YtbpklgllihhgpaaGreatHit
namespace Go.Proofs.YtbpklgllihhgpaaGreat
open Go.RowKit Go.Den

/-- a tile of one pixel, so far as it is filled -/
def fillRow (p : List Value) (i : Nat) : List Value := (List.replicate i p).flatten ++ List.replicate (256 - 4 * i) (.int .u8 0)
theorem zero66_list : Tryz.zeroCells66 = ⟨fillRow [] 0⟩ := by kernel_rfl
theorem flat_len (p : List Value) (hp : p.length = 4) : ∀ i, ((List.replicate i p).flatten).length = 4 * i
  | 0 => rfl
  | i + 1 => by rw [List.replicate_succ, List.flatten_cons, List.length_append, flat_len p hp i]; omega
theorem fillRow_len (p : List Value) (hp : p.length = 4) (i : Nat) (hi : i ≤ 64) : (fillRow p i).length = 256 := by
  unfold fillRow
  rw [List.length_append, flat_len p hp, List.length_replicate]; omega
theorem fillRow_step (p : List Value) (hp : p.length = 4) (i : Nat) (hi : i < 64) : (fillRow p i).take (4 * i) ++ p ++ (fillRow p i).drop (4 * i + 4) = fillRow p (i + 1) := by
  have hl := flat_len p hp i
  unfold fillRow
  rw [List.take_append_of_le_length (by omega), List.take_of_length_le (by omega)]
  rw [List.drop_append, List.drop_of_length_le (by omega)]
  rw [List.replicate_succ', List.flatten_append, hl]
  simp only [List.drop_replicate, List.nil_append, List.flatten_cons, List.flatten_nil, List.append_nil, List.append_assoc]
  congr 3
  omega
theorem store_pix {w : World} {g i : Nat} {p : List Value} {t : TypeId} (hg : w.heap[g]? = some (.cells ⟨fillRow p i⟩ t (0, 0))) (hp : p.length = 4) (h1 : ∀ v ∈ p, v.oneCell' = true) (hi : i < 64) :
    (Instr.storeAt 64 (.pointer (some ⟨g, 4 * i, none⟩)) (.agg ⟨p⟩)).run Tryz.prog w = .ok () (w.setRow g ⟨fillRow p (i + 1)⟩) := by
  have hsz : (Tryz.prog.info? 64).map (·.size) = some 4 := by kernel_rfl
  have hst := run_storeCells_at (P := Tryz.prog) g (4 * i) t p 0 ⟨fillRow p i⟩ w hg (by show 4 * i + 0 + p.length ≤ (fillRow p i).length; rw [fillRow_len p hp i (by omega)]; omega) h1
  have hrow : ((⟨fillRow p i⟩ : Array Value).toList.take (4 * i + 0) ++ p ++ (⟨fillRow p i⟩ : Array Value).toList.drop (4 * i + 0 + p.length)).toArray = ⟨fillRow p (i + 1)⟩ := by
    rw [hp]
    show (((fillRow p i).take (4 * i + 0) ++ p ++ (fillRow p i).drop (4 * i + 0 + 4)).toArray : Array Value) = ⟨fillRow p (i + 1)⟩
    rw [Nat.add_zero, fillRow_step p hp i hi]
  rw [hrow] at hst
  simp only [Instr.storeAt, Instr.sureAddr, Sem.run_bind, Sem.run_pure, Result.andThen]
  unfold storeVar
  have hc : (Value.agg ⟨p⟩).cells = ⟨p⟩ := rfl
  rw [Sem.run_bind, run_sizeOf hsz]
  simp only [Result.andThen, hc]
  rw [if_neg (by show ¬ (p.length ≠ 4); omega)]
  exact hst

structure FillW (w : World) (p : List Value) (i : Nat) (wr : World) : Prop where
  px : wr.heap[w.heap.size]? = some (.cells ⟨p⟩ 64 (0, 0))
  res : wr.heap[w.heap.size + 1]? = some (.cells Tryz.zeroCells66 66 (0, 0))
  row : wr.heap[w.heap.size + 2]? = some (.cells ⟨fillRow p i⟩ 66 (0, 0))
  tn : Turn [] w wr
set_option maxRecDepth 100000 in
set_option maxHeartbeats 1000000 in
theorem fill_any (a b c d : Int) (w : World) :
    Calls Tryz.prog 25 #[.agg #[.int .u8 a, .int .u8 b, .int .u8 c, .int .u8 d]] w fun e w' => e = .returned (.agg ⟨fillRow [.int .u8 a, .int .u8 b, .int .u8 c, .int .u8 d] 64⟩) ∧ Turn [] w w' := by
  have ha1 : ∀ u : World, (Instr.alloc 66 true (.tuple #[])).run Tryz.prog u = .ok (.pointer (some ⟨u.heap.size, 0, none⟩)) (u.alloc (.cells Tryz.zeroCells66 66)) := fun u => by
    have := alloc66 u
    rwa [z66] at this
  have hs66 : ∀ (x : World) (q : Nat), q = x.heap.size → (Instr.storeAt 66 (.pointer (some ⟨q, 0, none⟩)) (.agg Tryz.zeroCells66)).run Tryz.prog (x.alloc (.cells Tryz.zeroCells66 66)) = .ok () (x.alloc (.cells Tryz.zeroCells66 66)) := by
    rintro x q rfl
    have := store66 x
    rwa [z66] at this
  have hW0 : FillW w [.int .u8 a, .int .u8 b, .int .u8 c, .int .u8 d] 0 (((w.alloc (.cells #[.int .u8 a, .int .u8 b, .int .u8 c, .int .u8 d] 64)).alloc (.cells Tryz.zeroCells66 66)).alloc (.cells Tryz.zeroCells66 66)) := by
    have s1 : ∀ (u : World) (o : Obj), (u.alloc o).heap.size = u.heap.size + 1 := fun u o => by
      show (u.heap.push o).size = _
      simp
    refine ⟨?_, ?_, ?_, (((Turn.refl [] w).alloc _).alloc _).alloc _⟩
    · rw [(MapKept.heap_alloc _ _).2 _ (by rw [s1, s1]; omega), (MapKept.heap_alloc _ _).2 _ (by rw [s1]; omega)]
      exact (MapKept.heap_alloc _ _).1
    · rw [(MapKept.heap_alloc _ _).2 _ (by rw [s1, s1]; omega), ← s1 w]
      exact (MapKept.heap_alloc _ _).1
    · have e : fillRow [.int .u8 a, .int .u8 b, .int .u8 c, .int .u8 d] 0 = fillRow [] 0 := rfl
      rw [e, ← zero66_list, show w.heap.size + 2 = ((w.alloc (.cells #[.int .u8 a, .int .u8 b, .int .u8 c, .int .u8 d] 64)).alloc (.cells Tryz.zeroCells66 66)).heap.size by rw [s1, s1]]
      exact (MapKept.heap_alloc _ _).1
  go_enter Tryz.func25, Tryz.ntmps25
  go_wp2_with (refine wpList_store_run rfl 66 (.tmp 3) (.tmp 5) rfl rfl rfl (hs66 _ _ (by simp)) ?_)
  go_loopw [4] (fun i wr => ∃ k : Nat, k ≤ 64 ∧ i = .int .i64 k ∧ FillW w [.int .u8 a, .int .u8 b, .int .u8 c, .int .u8 d] k wr) (fun i _ => 64 - (intOf i).toNat)
  case atStart => exact ⟨0, by omega, rfl, hW0⟩
  case round =>
    obtain ⟨k, hk, rfl, hF⟩ := hrel
    clear hW0 ha1 hs66
    by_cases hlt : k < 64
    · have e0 : wr.cell? ⟨w.heap.size, 0, none⟩ = some (.int .u8 a) := by simp [World.cell?, hF.px]
      have e1 : wr.cell? ⟨w.heap.size, 1, none⟩ = some (.int .u8 b) := by simp [World.cell?, hF.px]
      have e2 : wr.cell? ⟨w.heap.size, 2, none⟩ = some (.int .u8 c) := by simp [World.cell?, hF.px]
      have e3 : wr.cell? ⟨w.heap.size, 3, none⟩ = some (.int .u8 d) := by simp [World.cell?, hF.px]
      have hst := store_pix hF.row rfl (by simp [Value.oneCell']) hlt
      rw [Nat.mul_comm 4 k] at hst
      have HF := Lib.hid hF
      clear hF
      go_wp2_with (refine wpList_store_run rfl 64 (.tmp 12) (.tmp 11) rfl rfl rfl hst ?_)
      have hF := HF.out
      have q : ∀ g, g ≠ w.heap.size + 2 → (wr.setRow (w.heap.size + 2) ⟨fillRow [.int .u8 a, .int .u8 b, .int .u8 c, .int .u8 d] (k + 1)⟩).heap[g]? = wr.heap[g]? := by
        intro g hg
        simp only [World.setRow, Array.getElem?_modify, Ne.symm hg, if_false]
      have hF' : FillW w [.int .u8 a, .int .u8 b, .int .u8 c, .int .u8 d] (k + 1) (wr.setRow (w.heap.size + 2) ⟨fillRow [.int .u8 a, .int .u8 b, .int .u8 c, .int .u8 d] (k + 1)⟩) := by
        refine ⟨?_, ?_, ?_, hF.tn.setRow _ (.inr (by omega))⟩
        · rw [q _ (by omega)]; exact hF.px
        · rw [q _ (by omega)]; exact hF.res
        · simp only [World.setRow, Array.getElem?_modify, if_true, hF.row]; rfl
      go_roundw
      case rel => exact ⟨k + 1, by omega, by go_num, hF'⟩
      case measure => simp [intOf]; omega
    · obtain rfl : k = 64 := by omega
      have hl2 := run_loadVar_row (P := Tryz.prog) wr (w.heap.size + 2) 66 66 ⟨fillRow [.int .u8 a, .int .u8 b, .int .u8 c, .int .u8 d] 64⟩ (0, 0) _ hF.row Tryz.underlying66 rfl (by
        rw [info66]; show some 256 = some (fillRow _ 64).length; rw [fillRow_len _ rfl 64 (by omega)])
      have hst := store_row (ty := 66) (cells := ⟨fillRow [.int .u8 a, .int .u8 b, .int .u8 c, .int .u8 d] 64⟩) hF.res (by
        rw [info66]; show some 256 = some (fillRow _ 64).length; rw [fillRow_len _ rfl 64 (by omega)]) (by
        rw [← z66, sizeZ66]; show 256 = (fillRow _ 64).length; rw [fillRow_len _ rfl 64 (by omega)]) (by simp [fillRow, Value.oneCell'])
      have hr2 : (wr.setRow (w.heap.size + 1) ⟨fillRow [.int .u8 a, .int .u8 b, .int .u8 c, .int .u8 d] 64⟩).heap[w.heap.size + 1]? = some (.cells ⟨fillRow [.int .u8 a, .int .u8 b, .int .u8 c, .int .u8 d] 64⟩ 66 (0, 0)) := by
        simp only [World.setRow, Array.getElem?_modify, if_true, hF.res]; rfl
      have hl3 := run_loadVar_row (P := Tryz.prog) _ (w.heap.size + 1) 66 66 ⟨fillRow [.int .u8 a, .int .u8 b, .int .u8 c, .int .u8 d] 64⟩ (0, 0) _ hr2 Tryz.underlying66 rfl (by
        rw [info66]; show some 256 = some (fillRow _ 64).length; rw [fillRow_len _ rfl 64 (by omega)])
      have hT : Turn [] w (wr.setRow (w.heap.size + 1) ⟨fillRow [.int .u8 a, .int .u8 b, .int .u8 c, .int .u8 d] 64⟩) := hF.tn.setRow _ (.inr (by omega))
      have HT := Lib.hid hT
      clear hT hr2 hF hk hlt
      generalize hFT : fillRow [.int .u8 a, .int .u8 b, .int .u8 c, .int .u8 d] 64 = FT at *
      have HFT := Lib.hid hFT
      clear hFT
      go_wp2_with (first
        | (refine wpList_load_run rfl 66 (.tmp 3) rfl rfl hl2 ?_)
        | (refine wpList_store_run rfl 66 (.tmp 2) (.tmp 13) rfl rfl rfl hst ?_))
      go_frame
      refine bodyPost_ret (v := .agg ⟨FT⟩) ?_ rfl ⟨by rw [HFT.out], HT.out⟩
      simp [results, Tryz.results25, asAddr, hl3]
end Go.Proofs.YtbpklgllihhgpaaGreat
