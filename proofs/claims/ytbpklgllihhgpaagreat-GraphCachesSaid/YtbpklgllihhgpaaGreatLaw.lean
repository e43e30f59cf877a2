/- GraphCaches: the law's walk. -/
import Derived.Test.YtbpklgllihhgpaaGreatJoint
import Derived.Test.YtbpklgllihhgpaaGreatSan
import Derived.Deep.DeepCutAuto
namespace Go.Proofs.YtbpklgllihhgpaaGreat
open Go.RowKit Go.Den

structure UseAt (W : World) (A : Option Addr) (j : Nat) : Prop where
  ex : ∃ g o p k t, A = some ⟨g, o, none⟩ ∧ g < W.heap.size ∧ W.cell? ⟨g, o + j * 3, none⟩ = some (.bool p) ∧ W.cell? ⟨g, o + j * 3 + 1, none⟩ = some (.int .i64 k) ∧ W.cell? ⟨g, o + j * 3 + 2, none⟩ = some (.int .i64 t)
theorem Joint.ext {W : World} {base bc rc bw : Nat} {n : Int} {i : Nat} {w : World} (h : Joint W base bc rc bw n i w) : Ext0 W w := by
  obtain ⟨R, a, b, c, d, J⟩ := h
  exact J.ext
theorem joint_init' (W : World) (n : Int) (hn : n ≤ 800) (u : World) (he : Ext0 W u) (b1 b2 : Nat) (h1 : b1 = u.heap.size + 1) (h2 : b2 = u.heap.size + 2) :
    Joint W (u.heap.size + 3) b1 u.heap.size b2 n 0 (((u.alloc (.map #[] 0)).alloc (.cells (cellsC (max n 0) u.heap.size 0 0 0 0) 126)).alloc (.cells (cellsR n (.slice none 0 0) (.slice none 0 0) 0 0 0) 58)) := by
  subst h1 h2
  exact joint_init W n hn u he
theorem blk_ne {wc w2 : World} {o : Obj} {b : Nat} (t : Turn [] (wc.alloc o) w2) (h : b < wc.heap.size) : w2.heap.size ≠ b := by
  have := t.size
  have e : (wc.alloc o).heap.size = wc.heap.size + 1 := by show (wc.heap.push _).size = _; simp
  omega
theorem look_drawn {bc bw : Nat} {n : Int} {N : Nat} {A : Option Addr} {cp : Nat} {h m ev : Int} {w : World} (hL : Look bc bw n N A cp h m ev w) (q : Nat) : Look bc bw n N A cp h m ev (w.drewN q) := by
  refine ⟨fun q' => ?_, hL.k, hL.s3, hL.s4, hL.s5, hL.le⟩
  rw [World.drewN_drewN]
  exact hL.cnt _
theorem load_tile {w : World} {g : Nat} {T : List Value} (h : w.heap[g]? = some (.cells ⟨T⟩ 66 (0, 0))) (hT : T.length = 256) : (loadVar 66 ⟨g, 0, none⟩).run Tryz.prog w = .ok (.agg ⟨T⟩) w :=
  run_loadVar_row w g 66 66 ⟨T⟩ (0, 0) _ h Tryz.underlying66 rfl (info66.trans (congrArg some hT.symm))
set_option maxHeartbeats 16000000 in
set_option maxRecDepth 100000 in
theorem walk6 (budget at_ : Int) (A : Option Addr) (len cap : Nat) (W : World) (hl : len ≤ 9223372036854775807) (hA : ∀ j, j < len → UseAt W A j) :
    Calls Tryz.prog 6 #[.int .i64 budget, .slice A len cap, .int .i64 at_] W fun e w' => e = .returned (.bool true) ∧ Ext0 W w' := by
  obtain ⟨r0, r1⟩ := restN_bd budget 8 (by omega)
  have HA := Lib.hid hA
  clear hA
  go_enter Tryz.func6, Tryz.ntmps6
  go_wp2_with (first
    | (go_at_call 8; refine (sanity_any _).mono ?_; rintro e w1 ⟨rfl, hx1⟩; have HX1 := Lib.hid hx1; clear hx1)
    | (go_at_call 21; refine (rest8 _ _).mono ?_; rintro e w' ⟨rfl, rfl⟩)
    | (go_at_call 22; refine (new_any _ _).mono ?_; rintro e w' ⟨rfl, hw⟩; subst hw))
  have hJ0 := joint_init' W (restN budget 8 - 1) (by omega) w1 HX1.out (w1.heap.size + 1) (w1.heap.size + 1 + 1) rfl (by omega)
  have n0 : -1 ≤ restN budget 8 - 1 := by omega
  have n1 : restN budget 8 - 1 ≤ 6 := by omega
  have HJ0 := Lib.hid hJ0
  clear hJ0 r0 r1 HX1
  generalize w1.heap.size + 3 = base at *
  generalize w1.heap.size + 1 + 1 = bw at *
  generalize w1.heap.size + 1 = bc at *
  generalize restN budget 8 - 1 = n at *
  go_loopw [11] (fun s11 wr => ∃ j : Nat, j ≤ 80 ∧ j ≤ len ∧ s11 = .int .i64 j ∧ Joint W base bc w1.heap.size bw n j wr) (fun s11 _ => 80 - (intOf s11).toNat)
  case atStart => exact ⟨0, by omega, by omega, rfl, HJ0.out⟩
  case round =>
    generalize w1.heap.size = rc at *
    clear HJ0
    obtain ⟨j, hj1, hj2, rfl, hJ⟩ := hrel
    have HJ := Lib.hid hJ
    clear hJ
    by_cases hjl : j < len
    · by_cases hj8 : j < 80
      · go_upto_if 43 with (go_at_call 21; refine (rest100 _ _).mono ?_; rintro e w' ⟨rfl, rfl⟩)
        go_cut [11] from 30 to 143 (fun s11 wx => s11 = .int .i64 j ∧ Joint W base bc rc bw n j wx)
        case first =>
          by_cases hc : (j : Int) = restN at_ 100
          · have hcb : ((j : Int) == restN at_ 100) = true := by simpa using hc
            clear hc
            go_wp2_with (go_at_call 23; refine (joint_clear HJ.out).mono ?_; rintro e w2 ⟨rfl, hC⟩; obtain ⟨x1, c1⟩ := hC.c1; obtain ⟨x2, c2⟩ := hC.c2; have f1 := hC.f1; have f2 := hC.f2; have HC := Lib.hid hC.j; clear hC)
            go_meet
            exact ⟨rfl, HC.out⟩
          · have hcb : ((j : Int) == restN at_ 100) = false := by simpa using hc
            clear hc
            go_wp2_with fail
            go_meet
            exact ⟨rfl, HJ.out⟩
        case rest =>
          clear HJ
          obtain ⟨rfl, hJ⟩ := hcut
          obtain ⟨g, o, p, k, t, hAe, hg, d0, d1, d2⟩ := (HA.out j hjl).ex
          subst hAe
          have cells : ∀ V, Turn [] wc V → V.cell? ⟨g, o + j * 3, none⟩ = some (.bool p) ∧ V.cell? ⟨g, o + j * 3 + 1, none⟩ = some (.int .i64 k) ∧ V.cell? ⟨g, o + j * 3 + 2, none⟩ = some (.int .i64 t) := by
            intro V tV
            have e : V.heap[g]? = W.heap[g]? := (ext_turn hJ.ext tV (by simp)).old g hg
            simp only [World.cell?, e] at d0 d1 d2 ⊢
            exact ⟨d0, d1, d2⟩
          clear d0 d1 d2
          have e1 := (cells wc (Turn.refl _ _)).2.1
          have e2 := (cells (wc.alloc (.cells #[.int .u8 (97 + rest7 k)] 5)) ((Turn.refl _ _).alloc _)).2.2
          have HJ := Lib.hid hJ
          have HCl := Lib.hid cells
          clear hJ cells
          have ha : ∀ u : World, (Instr.alloc 66 true (.tuple #[])).run Tryz.prog u = .ok (.pointer (some ⟨u.heap.size, 0, none⟩)) (u.alloc (.cells Z66 66)) := alloc66
          rw [z66] at ha
          go_upto_if 70 with (first
            | (go_at_call 24; refine (key_any _ _).mono ?_; rintro e w' ⟨rfl, hw⟩; subst hw)
            | (go_at_call 25; refine (fill_any _ _ _ _ _).mono ?_; rintro e w2 ⟨rfl, ht2⟩; obtain ⟨hT, ho, hu⟩ := fill_ok (t % 256) 0 0 255 (by simp [isU8]; omega); have hst := store_new _ hT ho w2; have t3 : Turn [] wc (w2.alloc (.cells ⟨fillRow [.int .u8 (t % 256), .int .u8 0, .int .u8 0, .int .u8 255] 64⟩ 66)) := (((Turn.refl [] wc).alloc _).trans ht2).alloc _; have e0 := (HCl.out _ t3).1; have nB := And.intro (blk_ne ht2 HJ.out.lt.1) (blk_ne ht2 HJ.out.lt.2.1)
               generalize fillRow [.int .u8 (t % 256), .int .u8 0, .int .u8 0, .int .u8 255] 64 = T at *; rw [z66] at hst; have HT3 := Lib.hid t3; have HT := Lib.hid hT; have HO := Lib.hid ho; have HU := Lib.hid hu; clear t3 ht2 hT ho hu e1 e2)
            | (refine wpList_store_run rfl 66 (.tmp 13) (.tmp 65) rfl rfl rfl (hst _ (by simp)) ?_))
          have J3 := HJ.out.turn HT3.out
          have HB3 : (w2.alloc (.cells ⟨T⟩ 66)).heap[w2.heap.size]? = some (.cells ⟨T⟩ 66 (0, 0)) := heap_alloc_new w2 _
          clear hst e0
          generalize w2.alloc (.cells ⟨T⟩ 66) = w3 at *
          generalize w2.heap.size = B3 at *
          have HJ3 := Lib.hid J3
          have HHB3 := Lib.hid HB3
          clear J3 HB3
          go_cut [11, 14, 15, 16, 17] from 30 to 143 (fun s11 _ _ _ _ wx => s11 = .int .i64 j ∧ Joint W base bc rc bw n (j + 1) wx)
          case first =>
            have hld3 := load_tile HHB3.out HT.out
            cases p with
            | true =>
              go_wp2_with (first
                | (refine wpList_load_at rfl 66 (.tmp 13) rfl rfl hld3 ?_)
                | (refine wpList_load_at rfl 66 (.tmp 13) rfl rfl hld4 ?_)
                | (go_at_call 26; refine (joint_put HJ3.out (by omega) _ HT.out HO.out HU.out).mono ?_; rintro e w4 ⟨rfl, hh, ht4⟩; have hld4 := load_tile ((ht4.old B3 (Array.getElem?_eq_some_iff.1 HHB3.out).1 (by simp [nB.1, nB.2])).trans HHB3.out) HT.out; have HH := Lib.hid hh; clear hh ht4)
                | (go_at_call 27; refine (HH.out _ (Turn.refl _ _)).mono ?_; rintro e w5 ⟨rfl, hJ5⟩))
              go_meet
              exact ⟨rfl, hJ5⟩
            | false =>
              go_wp2_with (first
                | (go_at_call 28; refine (joint_get HJ3.out (by omega) _).mono ?_; rintro e w4 ⟨U, ok, rfl, hU, hUo, hUu, hH, ht4⟩; have hst4 := fun u q => store_new U hU hUo u q; rw [z66] at hst4; have heq := fun w => tile_eq hU hUu w; have HH := Lib.hid hH; have HU' := Lib.hid hU; have nbw : bw ≠ w4.heap.size := (by have := ht4.size; have := HJ3.out.lt; omega); clear hH ht4 hU hUo hUu)
                | (refine wpList_store_run rfl 66 (.tmp 14) (.tmp 83) rfl rfl rfl (hst4 _ _ (by simp)) ?_)
                | (go_at_call 29; refine (HH.out _ ((Turn.refl _ _).alloc _)).mono ?_; rintro e w5 ⟨rfl, hJ5, tA⟩
                   have h14 := (tA.old w4.heap.size (by simp) (by simp) (by simp [Ne.symm nbw])).trans (heap_alloc_new w4 _); have h14' := turn_cells h14 ((Turn.refl [] w5).alloc (.cells ⟨U⟩ 66)); have hl14 := load_tile h14' HU'.out; have hl16 := load_tile (heap_alloc_new w5 (.cells ⟨U⟩ 66)) HU'.out; have HJ5 := Lib.hid hJ5; clear tA h14 h14' hJ5)
                | (refine wpList_store_run rfl 66 (.tmp 16) (.tmp 89) rfl rfl rfl (hst4 _ _ (by simp)) ?_)
                | (refine wpList_load_at rfl 66 (.tmp 14) rfl rfl hl14 ?_)
                | (refine wpList_load_at rfl 66 (.tmp 16) rfl rfl hl16 ?_))
              go_meet
              exact ⟨rfl, HJ5.out.turn ((Turn.refl _ _).alloc _)⟩
          case rest =>
            clear HJ HJ3 HCl HHB3 HT HO HU HT3 nB ha
            obtain ⟨rfl, hJ⟩ := hcut
            obtain ⟨N, A', cp, h, m, ev, hL, hS⟩ := joint_look hJ
            have HS := Lib.hid hS
            have HL := Lib.hid hL
            have HJ := Lib.hid hJ
            clear hJ hL hS
            go_wp2_with (go_at_call 30; refine HS.out.mono ?_; rintro e w6 ⟨rfl, q, hq⟩; have hL := look_drawn HL.out q; have hJ := HJ.out.turn ((Turn.refl [] _).drawn q); rw [← hq] at hL hJ; have c1 := hL.k; have c3 := hL.s3; have c4 := hL.s4; have c5 := hL.s5; have hle := hL.le; have HC := Lib.hid hL.cnt; have HJ6 := Lib.hid hJ; clear hL hJ hq)
            by_cases hn : 0 ≤ n
            · have hb : decide (n < (N : Int)) = false := by simp; omega
              go_quiet ((go_at_call 31; exact Calls.quiet_of_same (HC.out _)))
              go_wp2_with fail
              go_roundw
              case rel => exact ⟨j + 1, by omega, by omega, by go_num, HJ6.out.turn ((Turn.refl [] _).drawn _)⟩
              case measure => simp [intOf]; omega
            · have hN : N = 0 := by omega
              subst hN
              go_quiet ((go_at_call 31; exact Calls.quiet_of_same (HC.out _)))
              go_wp2_with fail
              go_roundw
              case rel => exact ⟨j + 1, by omega, by omega, by go_num, HJ6.out.turn ((Turn.refl [] _).drawn _)⟩
              case measure => simp [intOf]; omega
      · obtain rfl : j = 80 := by omega
        go_wp2_with fail
        go_ret
        exact ⟨rfl, HJ.out.ext⟩
    · obtain rfl : j = len := by omega
      go_wp2_with fail
      go_ret
      exact ⟨rfl, HJ.out.ext⟩
end Go.Proofs.YtbpklgllihhgpaaGreat
