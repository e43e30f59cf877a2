/- The reference's Get: a hit. -/
import Derived.Test.YtbpklgllihhgpaaGreatRGet
namespace Go.Proofs.YtbpklgllihhgpaaGreat
open Go.RowKit Go.Den

def GHitPost (base b : Nat) (k : ByteArray) (T : List Value) (bud h m ev : Int) (R1 : List REnt) (w : World) (e : Ending) (w' : World) : Prop :=
  e = .returned (.tuple #[.agg ⟨T⟩, .bool true]) ∧ RefIs base b bud (h + 1) m ev (R1 ++ [(k, T)]) w' ∧ TurnA w.heap.size [b] w w'
theorem refis_base {base base' b : Nat} {bud h m ev : Int} {R : List REnt} {w : World} (hr : RefIs base b bud h m ev R w) (hb : base' ≤ base) : RefIs base' b bud h m ev R w := by
  obtain ⟨⟨vk, vt, q1, q2, q3⟩, q4⟩ := hr
  exact ⟨⟨vk, vt, q1, q2.mono hb, q3.mono hb⟩, q4⟩
theorem turnA_base {base base' : Nat} {bs : List Nat} {w w' : World} (h : TurnA base bs w w') (hb : base' ≤ base) : TurnA base' bs w w' :=
  ⟨h.size, fun j hj hl hn => h.old j hj (by omega) hn, h.os, h.tape, h.output⟩
theorem app_key_at {ops : Array Oper} {rest : List Oper} {o : Oper} {a : Act} {u : World} {Q : Exit → Act → World → Prop} (hg : o.guard = none) (s x : Operand) (hop : o.op = Op.call { callee := Callee.builtin Builtin.append, args := #[s, x], argTypes := #[55, 55] }) {base : Nat} {v : Value} {n : Nat} {xs : List Value} (y : ByteArray) (hs : a.eval s = v)
    {p : Nat} (hp : p = u.heap.size) (hx : a.eval x = .slice (some ⟨p, 0, none⟩) 1 1) (h : SRow u base 9 1 v n xs) (hn : n ≤ 1000) (hbase : base ≤ u.heap.size)
    (K : ∀ v' w', SRow w' base 9 1 v' (n + 1) (xs ++ [.string y]) → Turn (blks v) u w' → wpList Tryz.prog ops Q rest (a.put o.dst v') w') : wpList Tryz.prog ops Q (o :: rest) a (u.alloc (.cells #[.string y] 9)) := by
  subst hp
  exact app_key hg s x hop y hs hx h hn hbase K
set_option maxHeartbeats 4000000 in
set_option maxRecDepth 100000 in
theorem rget_hit {base b : Nat} {k : ByteArray} {T : List Value} {bud h m ev : Int} {A B : List REnt} {w : World} (hr : RefIs base b bud h m ev (A ++ (k, T) :: B) w) (hk : k ∉ A.map (·.1)) (hn : (A ++ (k, T) :: B).length ≤ 900) (hb : b < base) (hb0 : base ≤ w.heap.size)
    (he0 : 0 ≤ h) (he1 : h ≤ 1000000000000) :
    Calls Tryz.prog 29 #[.pointer (some ⟨b, 0, none⟩), .string k] w (GHitPost base b k T bud h m ev (A ++ B) w) := by
  obtain ⟨hT, ho⟩ : T.length = 256 ∧ T.all (·.oneCell') = true := hr.row (k, T) (by simp)
  have hW : RefIs base b bud h m ev (A ++ (k, T) :: B) (w.alloc (.cells Z66 66)) := hr.kept ((Turn.refl _ _).alloc _)
  have hsW : (w.alloc (.cells Z66 66)).heap.size = w.heap.size + 1 := by show (w.heap.push _).size = _; simp
  have hbW : (w.alloc (.cells Z66 66)).heap[w.heap.size]? = some (.cells Z66 66 (0, 0)) := heap_alloc_new w _
  have hTW : TurnA w.heap.size [b] w (w.alloc (.cells Z66 66)) := (TurnA.refl _ _ _).alloc _
  have h56 := take_hit (base' := w.heap.size + 1) hW hk (by omega) (by omega)
  have ha : ∀ u : World, (Instr.alloc 66 true (.tuple #[])).run Tryz.prog u = .ok (.pointer (some ⟨u.heap.size, 0, none⟩)) (u.alloc (.cells Z66 66)) := alloc66
  have hst := fun u q => store_new T hT ho u q
  have hlt : b < w.heap.size := by omega
  have hN : (A ++ B).length ≤ 900 := by simp at hn ⊢; omega
  generalize A ++ B = R1 at *
  have H56 := Lib.hid h56
  have HTW := Lib.hid hTW
  have HbW := Lib.hid hbW
  have HsW := Lib.hid hsW
  have HT := Lib.hid hT
  have HO := Lib.hid ho
  clear hr hW hk hn h56 hTW hbW hsW hT ho
  rw [z66] at *
  go_enter Tryz.func29, Tryz.ntmps29
  have hb1 : b < w.heap.size + 1 := by omega
  go_wp2_with (first
    | (go_at_call 56; refine H56.out.mono ?_; rintro e w1 ⟨rfl, hr1, ht1⟩; obtain ⟨A, c, A', c', q1, q2, q3, q4⟩ := after_take hr1; have ta := (Turn.refl [] w1).alloc (.cells ⟨T⟩ 66); have p1 := turn_cells q1 ta; have c3 := cR p1 3; have f3 := fR p1 3; have c1 := cR p1 1; simp only [cellsR, List.getElem?_toArray, List.getElem?_cons_succ, List.getElem?_cons_zero] at c3 c1
       have Q1 := Lib.hid (setCell_block (i := 3) (v := .int .i64 (h + 1)) p1); have Q2 := Lib.hid ((q2.kept ta).cell (b := b) (i := 3) hb1 (.int .i64 (h + 1))); have Q3 := Lib.hid ((q3.kept ta).cell (b := b) (i := 3) hb1 (.int .i64 (h + 1))); have Q3o := Lib.hid q3; have Q4 := Lib.hid q4; have HT1 := Lib.hid ht1; clear q1 q2 q3 q4 ht1 hr1 p1 ta)
    | (refine wpList_store_run rfl 66 (.tmp 6) (.tmp 12) rfl rfl rfl (hst _ _ (by simp)) ?_)
    | (refine app_key_at (v := .slice A R1.length c) (p := w1.heap.size + 1) rfl (.tmp 37) (.tmp 39) rfl k rfl (by simp [World.setCell]) rfl Q2.out (by omega) (by have := HT1.out.size; have := HsW.out; simp [World.setCell]; omega) ?_; intro v1 w2 k1 t1; have q1 := old_low t1 Q2.out hb1 Q1.out; have q3 := old_other t1 Q2.out Q3.out (by decide); obtain ⟨B, d, rfl⟩ := k1.form; have f1 := fR q1 1; have c1' := cR q1 1; simp [cellsR] at c1'; have K1 := Lib.hid k1; have T1 := Lib.hid t1; have Q1' := Lib.hid q1; have Q3' := Lib.hid q3; clear q1 q3 k1 t1))
  clear c1 c1' c3 f1 f3
  have hsz := HsW.out
  have hsz1 := HT1.out.size
  have hse : ∀ (u : World) (o : Obj), (u.alloc o).heap.size = u.heap.size + 1 := fun u o => by show (u.heap.push o).size = _; simp
  -- the world ahead of the drawn region
  have Xb := setCell_block (i := 1) (v := .slice B (R1.length + 1) d) Q1'.out
  have Xk := K1.out.cell (b := b) (i := 1) hb1 (.slice B (R1.length + 1) d)
  have Xt := Q3'.out.cell (b := b) (i := 1) hb1 (.slice B (R1.length + 1) d)
  have XT : TurnA w.heap.size [b] w (w2.setCell ⟨b, 1, none⟩ (.slice B (R1.length + 1) d)) := (((((HTW.out.step HT1.out (by simp)).alloc (.cells ⟨T⟩ 66)).setCell (a := ⟨b, 3, none⟩) (.int .i64 (h + 1)) (by simp)).step T1.out (fun g hg => .inl (by have := (Q2.out.lt g hg).1; omega)))).setCell _ (by simp)
  have X6 : (w2.setCell ⟨b, 1, none⟩ (.slice B (R1.length + 1) d)).heap[w1.heap.size]? = some (.cells ⟨T⟩ 66 (0, 0)) := by
    have e : ((w1.alloc (.cells ⟨T⟩ 66)).setCell ⟨b, 3, none⟩ (.int .i64 (h + 1))).heap[w1.heap.size]? = some (.cells ⟨T⟩ 66 (0, 0)) := by
      rw [heap_setCell_other _ _ _ _ (by show w1.heap.size ≠ b; omega)]; exact heap_alloc_new w1 _
    rw [heap_setCell_other _ _ _ _ (by show w1.heap.size ≠ b; omega), T1.out.old _ (by simp [World.setCell]) ?_]
    · exact e
    · intro hm
      obtain ⟨_, _, arr, h1⟩ := Q2.out.lt _ hm
      rw [e] at h1
      cases h1
  have XS : (w2.setCell ⟨b, 1, none⟩ (.slice B (R1.length + 1) d)).heap[w.heap.size]? = some (.cells Tryz.zeroCells66 66 (0, 0)) := by
    rw [heap_setCell_other _ _ _ _ (by show w.heap.size ≠ b; omega), T1.out.old _ (by simp [World.setCell]; omega) (fun hm => by have := (Q2.out.lt _ hm).1; omega), heap_setCell_other _ _ _ _ (by show w.heap.size ≠ b; omega), (MapKept.heap_alloc w1 _).2 _ (by omega), HT1.out.old _ (by omega) (by simp; omega)]
    exact HbW.out
  have l6 : ∀ g ∈ blks (.slice A' R1.length c'), g < w1.heap.size := fun g hg => (Q3o.out.lt g hg).2.1
  have XZ : w1.heap.size + 1 ≤ (w2.setCell ⟨b, 1, none⟩ (.slice B (R1.length + 1) d)).heap.size := by
    have := T1.out.size
    simp [World.setCell] at this ⊢; omega
  generalize w2.setCell ⟨b, 1, none⟩ (.slice B (R1.length + 1) d) = X at *
  refine AnyTill.start (fun u => u.cell? ⟨b, 2, none⟩ = some (.slice A' R1.length c')) 10 (by kernel_rfl) ?_
  have Yb : X.drew.heap[b]? = _ := Xb
  have YT : TurnA w.heap.size [b] w X.drew := XT.drawn 1
  have Y6 : X.drew.heap[w1.heap.size]? = _ := X6
  have YS : X.drew.heap[w.heap.size]? = _ := XS
  have YZ : w1.heap.size + 1 ≤ X.drew.heap.size := XZ
  have Yk := Xk.kept (w' := X.drew) ((Turn.refl [] X).drawn 1)
  have Yt := Xt.kept (w' := X.drew) ((Turn.refl [] X).drawn 1)
  clear Xb XT X6 XS Xk Xt XZ
  generalize X.drew = Y at *
  have hS : Y.cell? ⟨b, 2, none⟩ = some (.slice A' R1.length c') := cR Yb 2
  refine AnyTill.take (i := 0) (N := 11) (v := .pointer (some ⟨b, 0, none⟩)) (d := some 43) rfl rfl (by kernel_rfl) (fun _ _ _ h => h) rfl (fun w hw => by go_simp) hS ?_
  go_frame
  refine AnyTill.take (i := 1) (N := 11) (v := .pointer (some ⟨b, 0, none⟩)) (d := some 44) rfl rfl (by kernel_rfl) (fun _ _ _ h => h) rfl (fun w hw => by go_simp) hS ?_
  go_frame
  refine AnyTill.take (i := 2) (N := 11) (v := .pointer (some ⟨b, 0, none⟩)) (d := some 45) rfl rfl (by kernel_rfl) (fun _ _ _ h => h) rfl (fun w hw => by go_simp) hS ?_
  go_frame
  refine AnyTill.take (i := 3) (N := 11) (v := .pointer (some ⟨b, 2, none⟩)) (d := some 46) rfl rfl (by kernel_rfl) (fun _ _ _ h => h) rfl (fun w hw => by go_simp) hS ?_
  go_frame
  refine AnyTill.take (i := 4) (N := 11) (v := .slice A' R1.length c') (d := some 47) rfl rfl (by kernel_rfl) (fun _ _ _ h => h) rfl (fun w hw => by go_simp) hS ?_
  go_frame
  refine AnyTill.one (i := 5) rfl (by kernel_rfl) rfl (fun K hK => ?_)
  refine wp_load_at (d := some 48) rfl 66 (.tmp 6) rfl (p := ⟨w1.heap.size, 0, none⟩) rfl (run_loadVar_row Y _ 66 66 ⟨T⟩ (0, 0) _ Y6 Tryz.underlying66 rfl (info66.trans (congrArg some HT.out.symm))) ?_
  refine hK _ _ (fun _ => hS) ?_
  clear hK K
  go_frame
  refine AnyTill.one (i := 6) rfl (by kernel_rfl) rfl (fun K hK => ?_)
  refine wp_slice (d := some 49) rfl (.tmp 48) rfl HT.out rfl ?_
  refine hK _ _ (fun _ => cR ((MapKept.heap_alloc Y _).2 b (Array.getElem?_eq_some_iff.1 Yb).1 |>.trans Yb) 2) ?_
  clear hK K
  go_frame
  refine AnyTill.one (i := 7) rfl (by kernel_rfl) rfl (fun K hK => ?_)
  refine wp_tile (d := some 50) rfl (u := Y) (v := .slice A' R1.length c') rfl (.tmp 47) (.tmp 49) rfl T HT.out HO.out rfl rfl Yt (by omega) (by omega) ?_
  intro v2 w3 k2 t2
  have Zb := old_low t2 Yt hb1 Yb
  have Zk := old_other t2 Yt Yk (by decide)
  have ZT : TurnA w.heap.size [b] w w3 := YT.step t2 (fun g hg => .inl (by have := (Yt.lt g hg).1; omega))
  have Z6 := (t2.old _ (by omega) (fun hm => by have := l6 _ hm; omega)).trans Y6
  have ZS := (t2.old _ (by omega) (fun hm => by have := (Yt.lt _ hm).1; omega)).trans YS
  obtain ⟨B', d', rfl⟩ := k2.form
  refine hK _ _ (fun _ => cR Zb 2) ?_
  clear hK K
  go_frame
  refine AnyTill.one (i := 8) rfl (by kernel_rfl) rfl (fun K hK => ?_)
  refine wp_yield (d := some 51) rfl (v := .pointer (some ⟨b, 0, none⟩)) (by go_simp) ?_
  refine hK _ _ (fun _ => cR Zb 2) ?_
  clear hK K
  go_frame
  refine AnyTill.one (i := 9) rfl (by kernel_rfl) rfl (fun K hK => ?_)
  refine wp_yield (d := some 52) rfl (v := .pointer (some ⟨b, 2, none⟩)) (by go_simp) ?_
  refine hK _ _ (fun _ => cR Zb 2) ?_
  clear hK K
  go_frame
  clear Yb YT Y6 YS Yk Yt hS t2
  refine AnyTill.one (i := 10) rfl (by kernel_rfl) rfl (fun K hK => ?_)
  refine wp_store_at (d := none) rfl 56 (.tmp 52) (.tmp 50) rfl rfl rfl (store_slice info56 Zb (by simp [cellsR])) ?_
  refine hK _ _ (fun h => absurd rfl h) ?_
  clear hK K
  go_frame
  refine AnyTill.done (by kernel_rfl) ?_
  have Vb := setCell_block (i := 2) (v := .slice B' (R1.length + 1) d') Zb
  have Vk := Zk.cell (b := b) (i := 2) hb1 (.slice B' (R1.length + 1) d')
  have Vt := k2.cell (b := b) (i := 2) hb1 (.slice B' (R1.length + 1) d')
  have VT := ZT.setCell (a := ⟨b, 2, none⟩) (.slice B' (R1.length + 1) d') (by simp)
  have V6 : (w3.setCell ⟨b, 2, none⟩ (.slice B' (R1.length + 1) d')).heap[w1.heap.size]? = _ := (heap_setCell_other _ _ _ _ (by show w1.heap.size ≠ b; omega)).trans Z6
  have VS : (w3.setCell ⟨b, 2, none⟩ (.slice B' (R1.length + 1) d')).heap[w.heap.size]? = _ := (heap_setCell_other _ _ _ _ (by show w.heap.size ≠ b; omega)).trans ZS
  generalize w3.setCell ⟨b, 2, none⟩ (.slice B' (R1.length + 1) d') = V at *
  clear Zb Zk ZT k2 Z6 ZS
  have Vb : V.heap[b]? = some (.cells (cellsR bud (.slice B (R1.length + 1) d) (.slice B' (R1.length + 1) d') (h + 1) m ev) 58 (0, 0)) := Vb
  have hst' := store_row (ty := 66) VS (info66.trans (congrArg some HT.out.symm)) (show Tryz.zeroCells66.size = T.length by rw [HT.out, ← z66]; exact sizeZ66) (by simpa using HO.out)
  have hld := run_loadVar_row (P := Tryz.prog) V _ 66 66 ⟨T⟩ (0, 0) _ V6 Tryz.underlying66 rfl (info66.trans (congrArg some HT.out.symm))
  have VSS : (V.setRow w.heap.size ⟨T⟩).heap[w.heap.size]? = some (.cells ⟨T⟩ 66 (0, 0)) := by simp only [World.setRow, Array.getElem?_modify, if_true, VS]; rfl
  have hl2 := run_loadVar_row (P := Tryz.prog) (V.setRow w.heap.size ⟨T⟩) w.heap.size 66 66 ⟨T⟩ (0, 0) _ VSS Tryz.underlying66 rfl (info66.trans (congrArg some HT.out.symm))
  have Vo : ∀ g, g ≠ w.heap.size → (V.setRow w.heap.size ⟨T⟩).heap[g]? = V.heap[g]? := fun g hg => by
    simp only [World.setRow, Array.getElem?_modify, Ne.symm hg, if_false]
  have HP : Hid (RefIs base b bud (h + 1) m ev (R1 ++ [(k, T)]) (V.setRow w.heap.size ⟨T⟩)) := Lib.hid (refis_base (refis_snoc ((Vo b (by omega)).trans Vb) (Vk.keep fun g hg => Vo g (by have := (Vk.lt g hg).1; omega)) (Vt.keep fun g hg => Vo g (by have := (Vt.lt g hg).1; omega)) Q4.out HT.out HO.out) (by omega))
  have HV : Hid (TurnA w.heap.size [b] w (V.setRow w.heap.size ⟨T⟩)) := Lib.hid (VT.setRow _ (Nat.le_refl _))
  clear Vb Vk Vt VT V6 VS VSS Vo hse l6
  go_wp2_with (first
    | (refine wpList_load_at rfl 66 (.tmp 6) rfl rfl hld ?_)
    | (refine wpList_store_run rfl 66 (.tmp 4) (.tmp 53) rfl rfl rfl hst' ?_))
  refine bodyPost_ret (v := .tuple #[.agg ⟨T⟩, .bool true]) ?_ rfl ⟨rfl, HP.out, HV.out⟩
  simp [results, Tryz.results29, asAddr, hl2, Result.andThen]
end Go.Proofs.YtbpklgllihhgpaaGreat
