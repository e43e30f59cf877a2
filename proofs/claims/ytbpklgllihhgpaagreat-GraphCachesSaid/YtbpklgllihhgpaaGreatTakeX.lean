/- ref18's take: a key that is there goes, its tile comes back: the walk. -/
import Derived.Test.YtbpklgllihhgpaaGreatTakeW
namespace Go.Proofs.YtbpklgllihhgpaaGreat
open Go.RowKit Go.Den

/-- what the loops read, the slices written out -/
structure ReadsA (b gk ok ck gt ot ct N : Nat) (R : List (ByteArray × List Value)) (V : World) : Prop where
  c1 : V.cell? ⟨b, 1, none⟩ = some (.slice (some ⟨gk, ok, none⟩) N ck)
  c2 : V.cell? ⟨b, 2, none⟩ = some (.slice (some ⟨gt, ot, none⟩) N ct)
  key : ∀ (j : Nat) (y : ByteArray) (U : List Value), R[j]? = some (y, U) → V.cell? ⟨gk, ok + j, none⟩ = some (.string y)
  tile : ∀ (j : Nat) (y : ByteArray) (U : List Value), R[j]? = some (y, U) → (loadVar 66 ⟨gt, ot + j * 256, none⟩).run Tryz.prog V = .ok (.agg ⟨U⟩) V
set_option maxRecDepth 100000 in
theorem Reads.at {b gk ok ck gt ot ct N : Nat} {R : List (ByteArray × List Value)} {V : World} (h : Reads b (.slice (some ⟨gk, ok, none⟩) N ck) (.slice (some ⟨gt, ot, none⟩) N ct) R V) : ReadsA b gk ok ck gt ot ct N R V := by
  refine ⟨h.c1, h.c2, fun j y U hx => ?_, fun j y U hx => ?_⟩
  · obtain ⟨g, off, cap, e, hc⟩ := h.key j _ hx
    injection e with e _ _
    injection e with e
    injection e with e1 e2 e3
    rw [e1, e2]; exact hc
  · obtain ⟨g, off, cap, e, hc⟩ := h.tile j _ hx
    injection e with e _ _
    injection e with e
    injection e with e1 e2 e3
    rw [e1, e2]; exact hc
theorem wpList_slice66 {ops : Array Oper} {rest : List Oper} {o : Oper} {a : Act} {w : World} {Q : Exit → Act → World → Prop} (hg : o.guard = none) (x : Operand) (ho : o.op = .buildSlice 56 1 #[(0, x)]) {U : List Value} (hU : U.length = 256)
    (hx : a.eval x = .agg ⟨U⟩) (h : wpList Tryz.prog ops Q rest (a.put o.dst (.slice (some ⟨w.heap.size, 0, none⟩) 1 1)) (w.alloc (.cells ⟨U⟩ 66))) : wpList Tryz.prog ops Q (o :: rest) a w := by
  refine wpList_plain hg fun K hK => ?_
  unfold Oper.wp
  have e := slice66 U hU w
  simp only [execOp, ho, Sem.run_bind, List.map_toArray, List.map_cons, List.map_nil, hx, e, Result.andThen]
  exact hK _ _ h
theorem store_new (T : List Value) (hT : T.length = 256) (ho : T.all (·.oneCell') = true) (u : World) (q : Nat) (hq : q = u.heap.size) : (Instr.storeAt 66 (.pointer (some ⟨q, 0, none⟩)) (.agg ⟨T⟩)).run Tryz.prog (u.alloc (.cells Z66 66)) = .ok () (u.alloc (.cells ⟨T⟩ 66)) := by
  subst hq
  exact run_storeAt_new u 66 Z66 ⟨T⟩ (info66.trans (congrArg some hT.symm)) (by rw [sizeZ66]; exact hT.symm) (by simpa using ho)
set_option maxHeartbeats 8000000 in
set_option maxRecDepth 100000 in
theorem take_hit {base base' b : Nat} {k : ByteArray} {T : List Value} {bud h m ev : Int} {A B : List (ByteArray × List Value)} {w : World} (hr : RefIs base b bud h m ev (A ++ (k, T) :: B) w) (hk : k ∉ A.map (·.1)) (hn : (A ++ (k, T) :: B).length ≤ 1000) (hb0 : base' ≤ w.heap.size) :
    Calls Tryz.prog 56 #[.pointer (some ⟨b, 0, none⟩), .string k] w fun e w' => e = .returned (.tuple #[.agg ⟨T⟩, .bool true]) ∧ RefIs base' b bud h m ev (A ++ B) w' ∧ Turn [b] w w' := by
  obtain ⟨⟨vk, vt, q1, q2, q3⟩, q4⟩ := hr
  have hlt : b < w.heap.size := (Array.getElem?_eq_some_iff.1 q1).1
  obtain ⟨hT, ho⟩ : T.length = 256 ∧ T.all (·.oneCell') = true := q4 (k, T) (by simp)
  have hrow : ∀ x ∈ A ++ B, x.2.length = 256 ∧ x.2.all (·.oneCell') = true := fun x hx => q4 x (by simp at hx ⊢; rcases hx with hx | hx <;> simp [hx])
  have AE := fun (wr : World) A8 A9 n8 c8 n9 c9 => at_end (k := k) (B := B) (A := A) (wr := wr) (A8 := A8) (A9 := A9) (n8 := n8) (c8 := c8) (n9 := n9) (c9 := c9) q1 hT ho hb0 hrow
  have hx0 : (A ++ (k, T) :: B)[A.length]? = some (k, T) := by simp
  have hA : ∀ j x, j < A.length → (A ++ (k, T) :: B)[j]? = some x → x.1 ≠ k := by
    intro j x hj hx e
    rw [List.getElem?_append_left hj] at hx
    exact hk (by rw [← e]; exact List.mem_map_of_mem (List.mem_of_getElem? hx))
  have hi0 : A.length < (A ++ (k, T) :: B).length := by simp
  have hRd : ∀ V, Turn [] w V → Reads b vk vt (A ++ (k, T) :: B) V := fun V t => reads_of (turn_cells q1 t) (q2.kept t) (q3.kept t) q4
  have hAll : ∀ j, j < (A ++ (k, T) :: B).length → ∃ x, (A ++ (k, T) :: B)[j]? = some x := fun j hj => ⟨_, List.getElem?_eq_getElem hj⟩
  have hRow := fun j x (hx : (A ++ (k, T) :: B)[j]? = some x) => q4 x (List.mem_of_getElem? hx)
  obtain ⟨gk, ok, ck, e1, -⟩ := (hRd w (Turn.refl _ _)).key _ _ hx0
  obtain ⟨gt, ot, ct, e2, -⟩ := (hRd w (Turn.refl _ _)).tile _ _ hx0
  subst e1 e2
  have hRd := fun V t => (hRd V t).at
  have hst := fun u q => store_new T hT ho u q
  have ha1 := alloc66
  clear q1 q2 q3 q4 hrow hk hlt hT ho
  generalize hR : A ++ (k, T) :: B = R at *
  generalize hI : A.length = i at *
  have HI : i < R.length := hi0
  clear hR hI hi0
  generalize hN : R.length = N at *
  have AE' := Lib.hid AE; have HA := Lib.hid hA; have HRd := Lib.hid hRd; have HAll := Lib.hid hAll; have HRow := Lib.hid hRow; have HX0 := Lib.hid hx0; have HN := Lib.hid hN
  clear AE hA hRd hAll hRow hx0 hN
  have cW := HRd.out (w.alloc (.cells Z66 66)) ((Turn.refl _ _).alloc _)
  have c1 := cW.c1
  have c2 := cW.c2
  have HcW := Lib.hid cW
  clear cW
  rw [z66] at *
  go_enter Tryz.func56, Tryz.ntmps56
  go_wp2_with fail
  go_loopw [6] (fun s6 wr => ∃ j : Nat, j ≤ i ∧ s6 = .int .i64 j ∧ wr = w.alloc (.cells Tryz.zeroCells66 66)) (fun s6 _ => N - (intOf s6).toNat)
  case atStart => exact ⟨0, by omega, rfl, rfl⟩
  case round =>
    obtain ⟨j, hj, rfl, rfl⟩ := hrel
    have hjN : j < N := by omega
    obtain ⟨⟨y, U⟩, hx⟩ := HAll.out j hjN
    have ck1 := HcW.out.key j y U hx
    by_cases hlt : j < i
    · have hne := HA.out j _ hlt hx
      simp only at hne
      clear hx
      go_wp2_with fail
      all_goals first | exact absurd ‹(y.toList == k.toList) = true› (str_ne hne) | skip
      go_roundw
      case rel => exact ⟨j + 1, by omega, by go_num, trivial⟩
      case measure => simp [intOf]; omega
    · obtain rfl : j = i := by omega
      rw [HX0.out] at hx
      cases hx
      have ct1 := HcW.out.tile j k T HX0.out
      have hs1 := hst (w.alloc (.cells Tryz.zeroCells66 66))
      clear hst
      go_wp2_with (first
        | (refine wpList_load_at rfl 66 (.tmp 34) rfl rfl ct1 ?_)
        | (refine wpList_store_run rfl 66 (.tmp 7) (.tmp 35) rfl rfl rfl (hs1 _ (by simp)) ?_))
      have T0 : Turn [] w ((w.alloc (.cells Tryz.zeroCells66 66)).alloc (.cells ⟨T⟩ 66)) := ((Turn.refl _ _).alloc _).alloc _
      clear hs1 ct1 c1 c2 ck1
      generalize hW1 : (w.alloc (.cells Tryz.zeroCells66 66)).alloc (.cells ⟨T⟩ 66) = W1 at *
      have hz1 : W1.heap.size = w.heap.size + 2 := by rw [← hW1]; show ((w.heap.push _).push _).size = _; simp
      have HZ1 := Lib.hid hz1
      have HT0 := Lib.hid T0
      clear hW1 T0 hz1
      go_loopw [8, 9, 10] (fun s8 s9 s10 wr => ∃ q : Nat, q ≤ N ∧ s10 = .int .i64 q ∧ Kept W1 R j q s8 s9 wr) (fun _ _ s10 _ => N - (intOf s10).toNat)
      case atStart => exact ⟨0, by omega, rfl, Kept.zero W1 R j⟩
      case round =>
        obtain ⟨q, hq, rfl, hK⟩ := hrel
        obtain ⟨A8, c8, rfl⟩ := hK.k.form
        obtain ⟨A9, c9, rfl⟩ := hK.t.form
        have hd := D_len R j q
        rw [HN.out] at hd
        have hR := HRd.out wr (HT0.out.trans hK.turn)
        have c1 := hR.c1
        have c2 := hR.c2
        by_cases hqN : q < N
        · obtain ⟨⟨y, U⟩, hx⟩ := HAll.out q hqN
          by_cases hqj : q = j
          · subst hqj
            have HK := Lib.hid (hK.same HX0.out)
            have HR := Lib.hid hR
            clear hK hR hx
            go_wp2_with fail
            go_roundw
            case rel => exact ⟨q + 1, by omega, by go_num, HK.out⟩
            case measure => simp [intOf]; omega
          · have ck := hR.key q y U hx
            obtain ⟨hU, hUo⟩ : U.length = 256 ∧ U.all (·.oneCell') = true := HRow.out q _ hx
            have HU := Lib.hid hU
            have HUo := Lib.hid hUo
            have HK := Lib.hid hK
            have HR := Lib.hid hR
            have HX := Lib.hid hx
            have hdl : (D R j q).length ≤ 1000 := Nat.le_trans hd hn
            clear hK hR hx hU hUo
            go_wp2_with (first
              | (refine app_key rfl (.tmp 48) (.tmp 56) rfl y rfl rfl HK.out.k hdl HK.out.turn.size ?_; intro v1 w1 k1 t1; have hR1 := HRd.out w1 (HT0.out.trans (HK.out.mid t1).1); have d1 := hR1.c1; have d2 := hR1.c2; have l2 := hR1.tile q y U HX.out; have K1 := Lib.hid k1; have T1 := Lib.hid t1; clear hR1 k1 t1)
              | (refine wpList_load_at rfl 66 (.tmp 64) rfl rfl l2 ?_)
              | (refine wpList_slice66 rfl (.tmp 65) rfl HU.out rfl ?_)
              | (refine app_tile rfl (.tmp 58) (.tmp 66) rfl U HU.out HUo.out rfl rfl (HK.out.mid T1.out).2 hdl (HK.out.mid T1.out).1.size ?_; intro v2 w2 k2 t2; have K2 := Lib.hid k2; have T2 := Lib.hid t2; clear k2 t2))
            go_roundw
            case rel => exact ⟨q + 1, by omega, by go_num, HK.out.next HX.out hqj T1.out K1.out T2.out K2.out⟩
            case measure => simp [intOf]; omega
        · obtain rfl : q = N := by omega
          obtain ⟨hE, hP, hTn⟩ := AE'.out wr A8 A9 _ c8 _ c9 hK
          generalize (D R j q).length = nd at *
          have f1 := hE.f1
          have f2 := hE.f2
          have e3 := hE.ld
          have e4 := hE.st
          have e5 := hE.ld2
          have HP := Lib.hid hP
          have HT := Lib.hid hTn
          clear hE hP hTn hK hR
          go_wp2_with (first
            | (refine wpList_load_at rfl 66 (.tmp 7) rfl rfl e3 ?_)
            | (refine wpList_store_run rfl 66 (.tmp 4) (.tmp 76) rfl rfl rfl e4 ?_))
          refine bodyPost_ret (v := .tuple #[.agg ⟨T⟩, .bool true]) ?_ rfl ⟨rfl, HP.out, HT.out⟩
          simp [results, Tryz.results56, asAddr, e5, Result.andThen]
end Go.Proofs.YtbpklgllihhgpaaGreat
