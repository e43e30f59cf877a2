/- The reference's Put. -/
import Derived.Test.YtbpklgllihhgpaaGreatRPutL
import Derived.Test.YtbpklgllihhgpaaGreatLex
namespace Go.Proofs.YtbpklgllihhgpaaGreat
open Go.RowKit Go.Den

def RPutPost (base b : Nat) (k : ByteArray) (T : List Value) (bud h m ev : Int) (R : List REnt) (w : World) (e : Ending) (w' : World) : Prop :=
  e = .returned (.tuple #[]) ∧ ((((remR k R).length + 1 : Int) ≤ max bud 0 ∧ RefIs base b bud h m ev (remR k R ++ [(k, T)]) w') ∨ (¬ ((remR k R).length + 1 : Int) ≤ max bud 0 ∧ RefIs base b bud h m (ev + 1) (remR k R ++ [(k, T)]).tail w')) ∧ TurnA base [b] w w'
set_option maxHeartbeats 1000000 in
set_option maxRecDepth 100000 in
theorem rput {base b : Nat} {k : ByteArray} {T : List Value} {bud h m ev : Int} {R : List REnt} {w : World} (hr : RefIs base b bud h m ev R w) (hk : (R.map (·.1)).Nodup) (hn : R.length ≤ 900) (hb : b < base) (hb0 : base ≤ w.heap.size)
    (hT : T.length = 256) (ho : T.all (·.oneCell') = true) (he0 : 0 ≤ ev) (he1 : ev ≤ 1000000000000) (hbud1 : bud ≤ 1000) :
    Calls Tryz.prog 27 #[.pointer (some ⟨b, 0, none⟩), .string k, .agg ⟨T⟩] w (RPutPost base b k T bud h m ev R w) := by
  have hW : RefIs base b bud h m ev R (w.alloc (.cells ⟨T⟩ 66)) := hr.kept ((Turn.refl _ _).alloc _)
  have hsW : (w.alloc (.cells ⟨T⟩ 66)).heap.size = w.heap.size + 1 := by show (w.heap.push _).size = _; simp
  have hTW : TurnA base [b] w (w.alloc (.cells ⟨T⟩ 66)) := (TurnA.refl _ _ _).alloc _
  have hbW : (w.alloc (.cells ⟨T⟩ 66)).heap[w.heap.size]? = some (.cells ⟨T⟩ 66 (0, 0)) := heap_alloc_new w _
  have hlt : b < w.heap.size := by omega
  have h56 := take_any (k := k) hW hk (by omega) (by omega)
  have hN := remR_len k R
  generalize hR1 : remR k R = R1 at *
  have H56 := Lib.hid h56
  have HR1 := Lib.hid hR1
  have HN : R1.length ≤ 900 := by omega
  have HTW := Lib.hid hTW
  have HbW := Lib.hid hbW
  have HsW := Lib.hid hsW
  have HT := Lib.hid hT
  have HO := Lib.hid ho
  clear hr hW hk hn hN hR1 h56 hTW hbW hsW hT ho
  go_enter Tryz.func27, Tryz.ntmps27
  go_wp2_with (first
    | (go_at_call 56; refine H56.out.mono ?_; rintro e w1 ⟨⟨v, rfl⟩, hr1, ht1⟩; rw [HR1.out] at hr1; obtain ⟨A, c, A', c', q1, q2, q3, q4⟩ := after_take hr1; have c1 := cR q1 1; have Q1 := Lib.hid q1; have Q2 := Lib.hid q2; have Q3 := Lib.hid q3; have Q4 := Lib.hid q4; have HT1 := Lib.hid ht1; clear q1 q2 q3 q4 ht1 hr1; simp only [cellsR, List.getElem?_toArray, List.getElem?_cons_succ, List.getElem?_cons_zero] at c1)
    | (refine app_key (v := .slice A R1.length c) rfl (.tmp 13) (.tmp 15) rfl k rfl rfl Q2.out (by omega) (by have := HT1.out.size; have := HsW.out; omega) ?_; intro v1 w2 k1 t1; have q1 := old_low t1 Q2.out hb Q1.out; have q3 := old_other t1 Q2.out Q3.out (by decide); obtain ⟨B, d, rfl⟩ := k1.form; have f1 := fR q1 1; have c1' := cR q1 1; simp only [cellsR, List.getElem?_toArray, List.getElem?_cons_succ, List.getElem?_cons_zero] at c1'; have K1 := Lib.hid k1; have T1 := Lib.hid t1; have Q1' := Lib.hid q1; have Q3' := Lib.hid q3; clear q1 q3 k1 t1))
  clear c1 c1' f1
  -- the world ahead of the drawn region
  have Xb := setCell_block (i := 1) (v := .slice B (R1.length + 1) d) Q1'.out
  have Xk := K1.out.cell (b := b) (i := 1) hb (.slice B (R1.length + 1) d)
  have Xt := Q3'.out.cell (b := b) (i := 1) hb (.slice B (R1.length + 1) d)
  have XT : TurnA base [b] w (w2.setCell ⟨b, 1, none⟩ (.slice B (R1.length + 1) d)) := ((HTW.out.step HT1.out (by simp)).step T1.out (fun g hg => .inl (Q2.out.lt g hg).1)).setCell _ (by simp)
  have XB : (w2.setCell ⟨b, 1, none⟩ (.slice B (R1.length + 1) d)).heap[w.heap.size]? = some (.cells ⟨T⟩ 66 (0, 0)) := by
    have hsz := HsW.out
    rw [heap_setCell_other _ _ _ _ (by show w.heap.size ≠ b; omega), T1.out.old _ (by have := HT1.out.size; omega) ?_, HT1.out.old _ (by omega) (by simp; omega)]
    · exact HbW.out
    · intro hm
      obtain ⟨_, _, arr, h1⟩ := Q2.out.lt _ hm
      rw [HT1.out.old _ (by omega) (by simp; omega), HbW.out] at h1
      cases h1
  generalize w2.setCell ⟨b, 1, none⟩ (.slice B (R1.length + 1) d) = X at *
  refine AnyTill.start (fun u => u.cell? ⟨b, 2, none⟩ = some (.slice A' R1.length c')) 10 (by kernel_rfl) ?_
  have Yb : X.drew.heap[b]? = _ := Xb
  have YT : TurnA base [b] w X.drew := XT.drawn 1
  have YB : X.drew.heap[w.heap.size]? = _ := XB
  have Yk := Xk.kept (w' := X.drew) ((Turn.refl [] X).drawn 1)
  have Yt := Xt.kept (w' := X.drew) ((Turn.refl [] X).drawn 1)
  clear Xb XT XB Xk Xt
  generalize X.drew = Y at *
  have hS : Y.cell? ⟨b, 2, none⟩ = some (.slice A' R1.length c') := cR Yb 2
  refine AnyTill.take (i := 0) (N := 11) (v := .pointer (some ⟨b, 0, none⟩)) (d := some 19) rfl rfl (by kernel_rfl) (fun _ _ _ h => h) rfl (fun w hw => by go_simp) hS ?_
  go_frame
  refine AnyTill.take (i := 1) (N := 11) (v := .pointer (some ⟨b, 0, none⟩)) (d := some 20) rfl rfl (by kernel_rfl) (fun _ _ _ h => h) rfl (fun w hw => by go_simp) hS ?_
  go_frame
  refine AnyTill.take (i := 2) (N := 11) (v := .pointer (some ⟨b, 0, none⟩)) (d := some 21) rfl rfl (by kernel_rfl) (fun _ _ _ h => h) rfl (fun w hw => by go_simp) hS ?_
  go_frame
  refine AnyTill.take (i := 3) (N := 11) (v := .pointer (some ⟨b, 2, none⟩)) (d := some 22) rfl rfl (by kernel_rfl) (fun _ _ _ h => h) rfl (fun w hw => by go_simp) hS ?_
  go_frame
  refine AnyTill.take (i := 4) (N := 11) (v := .slice A' R1.length c') (d := some 23) rfl rfl (by kernel_rfl) (fun _ _ _ h => h) rfl (fun w hw => by go_simp) hS ?_
  go_frame
  have hYz : base ≤ Y.heap.size := Nat.le_trans hb0 YT.size
  refine AnyTill.one (i := 5) rfl (by kernel_rfl) rfl (fun K hK => ?_)
  refine wp_load_at (d := some 24) rfl 66 (.tmp 5) rfl (p := ⟨w.heap.size, 0, none⟩) rfl (run_loadVar_row Y _ 66 66 ⟨T⟩ (0, 0) _ YB Tryz.underlying66 rfl (info66.trans (congrArg some HT.out.symm))) ?_
  refine hK _ _ (fun _ => hS) ?_
  clear hK K
  go_frame
  refine AnyTill.one (i := 6) rfl (by kernel_rfl) rfl (fun K hK => ?_)
  refine wp_slice (d := some 25) rfl (.tmp 24) rfl HT.out rfl ?_
  refine hK _ _ (fun _ => cR ((MapKept.heap_alloc Y _).2 b (Array.getElem?_eq_some_iff.1 Yb).1 |>.trans Yb) 2) ?_
  clear hK K
  go_frame
  refine AnyTill.one (i := 7) rfl (by kernel_rfl) rfl (fun K hK => ?_)
  refine wp_tile (d := some 26) rfl (u := Y) (v := .slice A' R1.length c') rfl (.tmp 23) (.tmp 25) rfl T HT.out HO.out rfl rfl Yt (by omega) hYz ?_
  intro v2 w3 k2 t2
  have Zb := old_low t2 Yt hb Yb
  have Zk := old_other t2 Yt Yk (by decide)
  have ZT : TurnA base [b] w w3 := YT.step t2 (fun g hg => .inl (Yt.lt g hg).1)
  obtain ⟨B', d', rfl⟩ := k2.form
  refine hK _ _ (fun _ => cR Zb 2) ?_
  clear hK K
  go_frame
  refine AnyTill.one (i := 8) rfl (by kernel_rfl) rfl (fun K hK => ?_)
  refine wp_yield (d := some 27) rfl (v := .pointer (some ⟨b, 0, none⟩)) (by go_simp) ?_
  refine hK _ _ (fun _ => cR Zb 2) ?_
  clear hK K
  go_frame
  refine AnyTill.one (i := 9) rfl (by kernel_rfl) rfl (fun K hK => ?_)
  refine wp_yield (d := some 28) rfl (v := .pointer (some ⟨b, 2, none⟩)) (by go_simp) ?_
  refine hK _ _ (fun _ => cR Zb 2) ?_
  clear hK K
  go_frame
  clear Yb YT YB Yk Yt hS hYz t2
  refine AnyTill.one (i := 10) rfl (by kernel_rfl) rfl (fun K hK => ?_)
  refine wp_store_at (d := none) rfl 56 (.tmp 28) (.tmp 26) rfl rfl rfl (store_slice info56 Zb (by simp [cellsR])) ?_
  refine hK _ _ (fun h => absurd rfl h) ?_
  clear hK K
  go_frame
  refine AnyTill.done (by kernel_rfl) ?_
  have Vb := setCell_block (i := 2) (v := .slice B' (R1.length + 1) d') Zb
  have Vk := Zk.cell (b := b) (i := 2) hb (.slice B' (R1.length + 1) d')
  have Vt := k2.cell (b := b) (i := 2) hb (.slice B' (R1.length + 1) d')
  have VT := ZT.setCell (a := ⟨b, 2, none⟩) (.slice B' (R1.length + 1) d') (by simp)
  generalize w3.setCell ⟨b, 2, none⟩ (.slice B' (R1.length + 1) d') = V at *
  clear Zb Zk ZT k2
  have Vb : V.heap[b]? = some (.cells (cellsR bud (.slice B (R1.length + 1) d) (.slice B' (R1.length + 1) d') h m ev) 58 (0, 0)) := Vb
  have c0 : V.cell? ⟨b, 0, none⟩ = some (.int .i64 bud) := cR Vb 0
  have c1 : V.cell? ⟨b, 1, none⟩ = some (.slice B (R1.length + 1) d) := cR Vb 1
  have HVb := Lib.hid Vb
  have HVk := Lib.hid Vk
  have HVt := Lib.hid Vt
  have HVT := Lib.hid VT
  clear Vb Vk Vt VT
  go_wp2_with fail
  rcases (show (0 ≤ bud ∧ (R1.length : Int) + 1 ≤ bud) ∨ (0 ≤ bud ∧ bud < (R1.length : Int) + 1) ∨ bud < 0 by omega) with ⟨h0, hfit⟩ | hrest
  · have hfb : decide (bud < (R1.length : Int) + 1) = false := by simp; omega
    go_quiet (fail)
    go_wp2_with fail
    have t0 : Turn [] V (V.drewN nq) := (Turn.refl [] V).drawn nq
    refine bodyPost_ret (results_none rfl _ _ _) rfl ⟨rfl, .inl ⟨?_, ?_⟩, HVT.out.drawn nq⟩
    · rw [HR1.out]; omega
    · rw [HR1.out]; exact refis_snoc (turn_cells HVb.out t0) (HVk.out.kept t0) (HVt.out.kept t0) Q4.out HT.out HO.out
  have hnf : ¬ (R1.length : Int) + 1 ≤ max bud 0 := by omega
  have HNF := Lib.hid hnf
  clear hnf
  -- behind the quiet region
  have tail : ∀ nq, ∃ U A1 a1 A2 a2, U = V.drewN nq ∧ U.cell? ⟨b, 1, none⟩ = some (.slice B (R1.length + 1) d) ∧ U.frozen? ⟨b, 1, none⟩ = false ∧
      (Instr.sliceAt 55 (.slice B (R1.length + 1) d) (some (.int .i64 1)) none none).run Tryz.prog U = .ok (.slice A1 R1.length a1) U ∧
      (U.setCell ⟨b, 1, none⟩ (.slice A1 R1.length a1)).cell? ⟨b, 2, none⟩ = some (.slice B' (R1.length + 1) d') ∧ (U.setCell ⟨b, 1, none⟩ (.slice A1 R1.length a1)).frozen? ⟨b, 2, none⟩ = false ∧
      (Instr.sliceAt 56 (.slice B' (R1.length + 1) d') (some (.int .i64 1)) none none).run Tryz.prog (U.setCell ⟨b, 1, none⟩ (.slice A1 R1.length a1)) = .ok (.slice A2 R1.length a2) (U.setCell ⟨b, 1, none⟩ (.slice A1 R1.length a1)) ∧
      ((U.setCell ⟨b, 1, none⟩ (.slice A1 R1.length a1)).setCell ⟨b, 2, none⟩ (.slice A2 R1.length a2)).cell? ⟨b, 5, none⟩ = some (.int .i64 ev) ∧ ((U.setCell ⟨b, 1, none⟩ (.slice A1 R1.length a1)).setCell ⟨b, 2, none⟩ (.slice A2 R1.length a2)).frozen? ⟨b, 5, none⟩ = false ∧
      RefIs base b bud h m (ev + 1) (R1 ++ [(k, T)]).tail (((U.setCell ⟨b, 1, none⟩ (.slice A1 R1.length a1)).setCell ⟨b, 2, none⟩ (.slice A2 R1.length a2)).setCell ⟨b, 5, none⟩ (.int .i64 (ev + 1))) ∧
      TurnA base [b] w (((U.setCell ⟨b, 1, none⟩ (.slice A1 R1.length a1)).setCell ⟨b, 2, none⟩ (.slice A2 R1.length a2)).setCell ⟨b, 5, none⟩ (.int .i64 (ev + 1))) := by
    intro nq
    have t0 : Turn [] V (V.drewN nq) := (Turn.refl [] V).drawn nq
    have Ub := turn_cells HVb.out t0
    have Uk := HVk.out.kept t0
    have Ut := HVt.out.kept t0
    have UT := HVT.out.drawn nq
    generalize V.drewN nq = U at *
    obtain ⟨i9, hi9, _, hs9, _⟩ := info_parts info9
    obtain ⟨i66, hi66, _, hs66, _⟩ := info_parts info66b
    obtain ⟨v1, r1, s1, _⟩ := srow_cut (P := Tryz.prog) Tryz.underlying55 hi9 hs9 Uk
    obtain ⟨A1, a1, rfl⟩ := s1.form
    have Xb := setCell_block (i := 1) (v := .slice A1 R1.length a1) Ub
    have Xk := s1.cell (b := b) (i := 1) hb (.slice A1 R1.length a1)
    have Xt := Ut.cell (b := b) (i := 1) hb (.slice A1 R1.length a1)
    obtain ⟨v2, r2, s2, _⟩ := srow_cut (P := Tryz.prog) Tryz.underlying56 hi66 hs66 Xt
    obtain ⟨A2, a2, rfl⟩ := s2.form
    have Yb := setCell_block (i := 2) (v := .slice A2 R1.length a2) Xb
    have Yk := Xk.cell (b := b) (i := 2) hb (.slice A2 R1.length a2)
    have Yt := s2.cell (b := b) (i := 2) hb (.slice A2 R1.length a2)
    have Zb := setCell_block (i := 5) (v := .int .i64 (ev + 1)) Yb
    refine ⟨U, A1, a1, A2, a2, rfl, cR Ub 1, fR Ub 1, r1, cR Xb 2, fR Xb 2, r2, cR Yb 5, fR Yb 5, ?_, ((UT.setCell _ (by simp)).setCell _ (by simp)).setCell _ (by simp)⟩
    exact refis_tail Zb (Yk.cell (b := b) (i := 5) hb (.int .i64 (ev + 1))) (Yt.cell (b := b) (i := 5) hb (.int .i64 (ev + 1))) Q4.out HT.out HO.out
  have TAIL := Lib.hid tail
  clear tail
  rcases hrest with ⟨h0, hfit⟩ | h0
  · have hfb : decide (bud < (R1.length : Int) + 1) = true := by simp; omega
    go_quiet (fail)
    obtain ⟨U, A1, a1, A2, a2, hU, g1, g2, g3, g4, g5, g6, g7, g8, g9, g10⟩ := TAIL.out nq
    rw [← hU]
    have G9 := Lib.hid g9
    have G10 := Lib.hid g10
    clear hU g9 g10 c0 c1
    go_wp2_with (first
      | (refine wpList_cut rfl 55 (.tmp 44) rfl rfl g3 ?_)
      | (refine wpList_cut rfl 56 (.tmp 52) rfl rfl g6 ?_))
    exact bodyPost_ret (results_none rfl _ _ _) rfl ⟨rfl, .inr ⟨by rw [HR1.out]; have := HNF.out; omega, by rw [HR1.out]; exact G9.out⟩, G10.out⟩
  · go_quiet (fail)
    obtain ⟨U, A1, a1, A2, a2, hU, g1, g2, g3, g4, g5, g6, g7, g8, g9, g10⟩ := TAIL.out nq
    rw [← hU]
    have G9 := Lib.hid g9
    have G10 := Lib.hid g10
    clear hU g9 g10 c0 c1
    go_wp2_with (first
      | (refine wpList_cut rfl 55 (.tmp 44) rfl rfl g3 ?_)
      | (refine wpList_cut rfl 56 (.tmp 52) rfl rfl g6 ?_))
    exact bodyPost_ret (results_none rfl _ _ _) rfl ⟨rfl, .inr ⟨by rw [HR1.out]; have := HNF.out; omega, by rw [HR1.out]; exact G9.out⟩, G10.out⟩
end Go.Proofs.YtbpklgllihhgpaaGreat
