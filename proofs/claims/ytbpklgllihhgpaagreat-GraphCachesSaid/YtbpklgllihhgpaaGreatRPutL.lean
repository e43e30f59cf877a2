/- Parts for the reference's Put and Get: take by what it leaves, an append inside a drawn region, a cut, frames. -/
import Derived.Test.YtbpklgllihhgpaaGreatTakeX
import Derived.Deep.RegionHeld3
import Derived.Deep.DrawnRows
namespace Go.Proofs.YtbpklgllihhgpaaGreat
open Go.RowKit Go.Den

abbrev REnt := ByteArray × List Value
/-- the list without key k -/
def remR (k : ByteArray) (R : List REnt) : List REnt := R.filter fun x => decide (x.1 ≠ k)
theorem remR_none {k : ByteArray} {R : List REnt} (h : k ∉ R.map (·.1)) : remR k R = R := by
  refine List.filter_eq_self.2 fun x hx => decide_eq_true fun e => h ?_
  rw [← e]; exact List.mem_map_of_mem hx
theorem remR_split {k : ByteArray} {A B : List REnt} {T : List Value} (hA : k ∉ A.map (·.1)) (hB : k ∉ B.map (·.1)) : remR k (A ++ (k, T) :: B) = A ++ B := by
  have h1 := remR_none hA
  have h2 := remR_none hB
  unfold remR at *
  rw [List.filter_append, h1, List.filter_cons_of_neg (by simp), h2]
theorem split_key {k : ByteArray} {R : List REnt} (hk : k ∈ R.map (·.1)) (hn : (R.map (·.1)).Nodup) : ∃ A T B, R = A ++ (k, T) :: B ∧ k ∉ A.map (·.1) ∧ k ∉ B.map (·.1) := by
  obtain ⟨⟨k', T⟩, hx, rfl⟩ := List.mem_map.1 hk
  obtain ⟨A, B, rfl⟩ := List.append_of_mem hx
  refine ⟨A, T, B, rfl, ?_, ?_⟩
  · simp only [List.map_append, List.map_cons] at hn
    have := List.nodup_append.1 hn
    exact fun h => this.2.2 _ h _ (by simp) rfl
  · simp only [List.map_append, List.map_cons] at hn
    have := List.nodup_append.1 hn
    exact (List.nodup_cons.1 this.2.1).1
theorem remR_len (k : ByteArray) (R : List REnt) : (remR k R).length ≤ R.length := List.length_filter_le _ _
theorem remR_not {k : ByteArray} {R : List REnt} : k ∉ (remR k R).map (·.1) := by
  intro h
  obtain ⟨x, hx, rfl⟩ := List.mem_map.1 h
  have := (List.mem_filter.1 hx).2
  simp at this
theorem RefIs.kept {base b : Nat} {bud h m ev : Int} {R : List REnt} {w w' : World} (hr : RefIs base b bud h m ev R w) (t : Turn [] w w') : RefIs base b bud h m ev R w' := by
  obtain ⟨⟨vk, vt, q1, q2, q3⟩, q4⟩ := hr
  exact ⟨⟨vk, vt, turn_cells q1 t, q2.kept t, q3.kept t⟩, q4⟩
/-- take, by what it leaves -/
def TakePost (base b : Nat) (k : ByteArray) (bud h m ev : Int) (R : List REnt) (w : World) (e : Ending) (w' : World) : Prop :=
  (∃ v, e = .returned v) ∧ RefIs base b bud h m ev (remR k R) w' ∧ Turn [b] w w'
theorem take_any {base b : Nat} {k : ByteArray} {bud h m ev : Int} {R : List REnt} {w : World} (hr : RefIs base b bud h m ev R w) (hk : (R.map (·.1)).Nodup) (hn : R.length ≤ 1000) (hb0 : base ≤ w.heap.size) :
    Calls Tryz.prog 56 #[.pointer (some ⟨b, 0, none⟩), .string k] w (TakePost base b k bud h m ev R w) := by
  by_cases h1 : k ∈ R.map (·.1)
  · obtain ⟨A, T, B, rfl, hA, hB⟩ := split_key h1 hk
    refine (take_hit hr hA hn hb0).mono ?_
    rintro e w' ⟨rfl, p1, p2⟩
    exact ⟨⟨_, rfl⟩, by rw [remR_split hA hB]; exact p1, p2⟩
  · refine (take_miss hr h1 hn).mono ?_
    rintro e w' ⟨rfl, p⟩
    exact ⟨⟨_, rfl⟩, by rw [remR_none h1]; exact hr.kept p, p.mono (by simp)⟩

/-- what stands below base, but for bs, is as it was -/
structure TurnA (base : Nat) (bs : List Nat) (w w' : World) : Prop where
  size : w.heap.size ≤ w'.heap.size
  old : ∀ j, j < w.heap.size → j < base → j ∉ bs → w'.heap[j]? = w.heap[j]?
  os : w'.os = w.os
  tape : w'.tape = w.tape
  output : w'.output = w.output
namespace TurnA
variable {base : Nat} {bs : List Nat} {w u v : World}
theorem of {cs : List Nat} (h : Turn cs w u) (hc : ∀ g ∈ cs, base ≤ g ∨ g ∈ bs) : TurnA base bs w u :=
  ⟨h.size, fun j hj hb hn => h.old j hj fun hm => by rcases hc j hm with h1 | h1; omega; exact hn h1, h.os, h.tape, h.output⟩
theorem refl (base : Nat) (bs : List Nat) (w : World) : TurnA base bs w w := of (Turn.refl [] w) (by simp)
theorem trans (h : TurnA base bs w u) (k : TurnA base bs u v) : TurnA base bs w v :=
  ⟨Nat.le_trans h.size k.size, fun j hj hb hn => (k.old j (Nat.lt_of_lt_of_le hj h.size) hb hn).trans (h.old j hj hb hn), k.os.trans h.os, k.tape.trans h.tape, k.output.trans h.output⟩
theorem step {cs : List Nat} (h : TurnA base bs w u) (k : Turn cs u v) (hc : ∀ g ∈ cs, base ≤ g ∨ g ∈ bs) : TurnA base bs w v := h.trans (of k hc)
theorem setCell (h : TurnA base bs w u) {a : Addr} (x : Value) (ha : a.block ∈ bs) : TurnA base bs w (u.setCell a x) := h.step (cs := [a.block]) ((Turn.refl _ u).setCell x (.inl (by simp))) (by simp [ha])
theorem setRow (h : TurnA base bs w u) {g : Nat} (cs : Array Value) (hg : base ≤ g) : TurnA base bs w (u.setRow g cs) := h.step (cs := [g]) ((Turn.refl _ u).setRow cs (.inl (by simp))) (by simp [hg])
theorem drawn (h : TurnA base bs w u) (n : Nat) : TurnA base bs w (u.drewN n) := ⟨h.size, h.old, h.os, h.tape, h.output⟩
theorem alloc (h : TurnA base bs w u) (o : Obj) : TurnA base bs w (u.alloc o) := h.step (cs := []) ((Turn.refl _ u).alloc o) (by simp)
end TurnA
/-- a block's cells, one set -/
theorem setCell_block {w : World} {b i : Nat} {cs : Array Value} {t : TypeId} {v : Value} (h : w.heap[b]? = some (.cells cs t (0, 0))) : (w.setCell ⟨b, i, none⟩ v).heap[b]? = some (.cells (cs.setIfInBounds i v) t (0, 0)) := by
  simp only [World.setCell, Array.getElem?_modify, if_true, h]; rfl

section
variable {ops : Array Oper} {rest : List Oper} {o : Oper} {a : Act} {u : World} {Q : Exit → Act → World → Prop} {Kk : Act → World → Prop} {E : Prop}
set_option maxRecDepth 100000 in
theorem step_tile (hg : o.guard = none) (s x : Operand) (hop : o.op = Op.call { callee := Callee.builtin Builtin.append, args := #[s, x], argTypes := #[56, 56] }) {base : Nat} {v : Value} {n : Nat} {xs : List Value} (T : List Value) (hT : T.length = 256) (ho : T.all (·.oneCell') = true) (hs : a.eval s = v)
    (hx : a.eval x = .slice (some ⟨u.heap.size, 0, none⟩) 1 1) (h : SRow u base 66 256 v n xs) (hn : n ≤ 1000) (hbase : base ≤ u.heap.size)
    (K : ∀ v' w', SRow w' base 66 256 v' (n + 1) (xs ++ T) → Turn (blks v) u w' → Kk (a.put o.dst v') w') : if Region.wanted o (yielded ops a.tmps) = true then Oper.wp Tryz.prog o a ((u.alloc (.cells ⟨T⟩ 66)).drew) Kk Q else E := by
  obtain ⟨i, hi, hz0, hz1, hz2⟩ := info_parts info66b
  have hsz : (u.alloc (.cells ⟨T⟩ 66)).drew.heap.size = u.heap.size + 1 := by show (u.heap.push _).size = _; simp
  have hcz : (Value.agg Z66).cells.size = 256 := by
    have e : (Value.agg Z66).cells = Z66 := by simp only [Value.cells]
    rw [e]; exact sizeZ66
  refine step_srow _ hg s x 56 hop Tryz.underlying56 hi hz0 hz1 hz2 hcz (by decide) hs (h.keep fun g hg => (MapKept.heap_alloc u _).2 g (h.lt g hg).2.1) ⟨u.heap.size, 0, none⟩ 1 1 T hx (by omega) (news_alloc u T 66) (by simpa using ho) (by unfold maxLen; omega) (by omega) (by omega) ?_
  intro v' w' r1 r2 _
  exact K v' w' r1 ((((Turn.refl (blks v) u).alloc _).drawn 1).trans r2)
theorem wpList_cut (hg : o.guard = none) (t : TypeId) (x : Operand) (ho : o.op = .slice t x (some (.const (.int .i64 1))) none none) {v v' : Value} (hx : a.eval x = v) {w : World}
    (hr : (Instr.sliceAt t v (some (.int .i64 1)) none none).run Tryz.prog w = .ok v' w) (h : wpList Tryz.prog ops Q rest (a.put o.dst v') w) : wpList Tryz.prog ops Q (o :: rest) a w := by
  refine wpList_plain hg fun K hK => ?_
  unfold Oper.wp
  have e1 : (some (Operand.const (.int .i64 1))).map a.eval = some (.int .i64 1) := rfl
  have e2 : (none : Option Operand).map a.eval = none := rfl
  simp only [execOp, ho, hx, e1, e2, Sem.run_bind, hr, Result.andThen]
  exact hK _ _ h
end
/-- the cells of a tile -/
def rowOf : Value → Array Value | .agg c => c | _ => #[]
theorem rowOf_agg (c : Array Value) : rowOf (.agg c) = c := rfl
theorem wp_slice66 {d : Option Tmp} {x : Operand} {ty : TypeId} {pos : String} {af : Array Edge} {a : Act} {w : World} {K : Act → World → Prop} {Q : Exit → Act → World → Prop} (h1 : a.eval x = .agg (rowOf (a.eval x))) (h2 : (rowOf (a.eval x)).size = 256) :
    Oper.wp Tryz.prog { dst := d, op := .buildSlice 56 1 #[(0, x)], type := ty, pos := pos, after := af, guard := none } a w K Q = K (a.put d (.slice (some ⟨w.heap.size, 0, none⟩) 1 1)) (w.alloc (.cells (rowOf (a.eval x)) 66)) := by
  generalize hc : rowOf (a.eval x) = c at *
  obtain ⟨U⟩ := c
  unfold Oper.wp
  have e := slice66 U h2 w
  simp only [execOp, Sem.run_bind, List.map_toArray, List.map_cons, List.map_nil, h1, e, Result.andThen]
  rfl
end Go.Proofs.YtbpklgllihhgpaaGreat
namespace Go.Proofs.YtbpklgllihhgpaaGreat
open Go.RowKit Go.Den
section
variable {o : Oper} {a : Act} {w u : World} {Q : Exit → Act → World → Prop} {K : Act → World → Prop}
theorem wp_load_at {P : Program} {d : Option Tmp} (hd : o.dst = d) (t : TypeId) (x : Operand) (ho : o.op = .load t x) {p : Addr} {v : Value} (hx : a.eval x = .pointer (some p)) (hr : (loadVar t p).run P w = .ok v w) (h : K (a.put d v) w) : o.wp P a w K Q := by
  subst hd
  unfold Oper.wp
  have e : (Instr.loadAt t (.pointer (some p))).run P w = .ok v w := hr
  simp only [execOp, ho, hx, Sem.run_bind, e, Result.andThen]
  exact h
theorem wp_yield {P : Program} {d : Option Tmp} (hd : o.dst = d) {v : Value} (hr : (execOp a.eval o).run P w = .ok (.value v) w) (h : K (a.put d v) w) : o.wp P a w K Q := by
  subst hd
  unfold Oper.wp
  rw [hr]
  exact h
theorem wp_slice {d : Option Tmp} (hd : o.dst = d) (x : Operand) (ho : o.op = .buildSlice 56 1 #[(0, x)]) {U : List Value} (hU : U.length = 256) (hx : a.eval x = .agg ⟨U⟩) (h : K (a.put d (.slice (some ⟨w.heap.size, 0, none⟩) 1 1)) (w.alloc (.cells ⟨U⟩ 66))) : o.wp Tryz.prog a w K Q := by
  subst hd
  unfold Oper.wp
  have e := slice66 U hU w
  simp only [execOp, ho, Sem.run_bind, List.map_toArray, List.map_cons, List.map_nil, hx, e, Result.andThen]
  exact h
theorem wp_tile {d : Option Tmp} (hd : o.dst = d) (hg : o.guard = none) (s x : Operand) (hop : o.op = Op.call { callee := Callee.builtin Builtin.append, args := #[s, x], argTypes := #[56, 56] }) {base : Nat} {v : Value} {n : Nat} {xs : List Value} (T : List Value) (hT : T.length = 256) (ho : T.all (·.oneCell') = true) (hs : a.eval s = v)
    (hx : a.eval x = .slice (some ⟨u.heap.size, 0, none⟩) 1 1) (h : SRow u base 66 256 v n xs) (hn : n ≤ 1000) (hbase : base ≤ u.heap.size)
    (Kk : ∀ v' w', SRow w' base 66 256 v' (n + 1) (xs ++ T) → Turn (blks v) u w' → K (a.put d v') w') : o.wp Tryz.prog a (u.alloc (.cells ⟨T⟩ 66)) K Q := by
  subst hd
  obtain ⟨i, hi, hz0, hz1, hz2⟩ := info_parts info66b
  have hsz : (u.alloc (.cells ⟨T⟩ 66)).heap.size = u.heap.size + 1 := by show (u.heap.push _).size = _; simp
  have hcz : (Value.agg Z66).cells.size = 256 := by
    have e : (Value.agg Z66).cells = Z66 := by simp only [Value.cells]
    rw [e]; exact sizeZ66
  have := step_srow (P := Tryz.prog) (ops := #[]) (E := True) (Kk := K) (Q := Q) _ hg s x 56 hop Tryz.underlying56 hi hz0 hz1 hz2 hcz (by decide) hs (h.keep fun g hg => (MapKept.heap_alloc u _).2 g (h.lt g hg).2.1) ⟨u.heap.size, 0, none⟩ 1 1 T hx (by omega) (news_alloc u T 66) (by simpa using ho) (by unfold maxLen; omega) (by omega) (by omega)
    fun v' w' r1 r2 _ => Kk v' w' r1 (((Turn.refl (blks v) u).alloc _).trans r2)
  rw [if_pos (by unfold Region.wanted; rw [hg])] at this
  exact this
theorem wp_store_at {P : Program} {d : Option Tmp} (hd : o.dst = d) (t : TypeId) (x y : Operand) (ho : o.op = .store t x y) {p v : Value} {w' : World} (hx : a.eval x = p) (hy : a.eval y = v) (hr : (Instr.storeAt t p v).run P w = .ok () w') (h : K (a.put d undef) w') : o.wp P a w K Q := by
  subst hd
  unfold Oper.wp
  simp only [execOp, ho, hx, hy, Sem.run_bind, hr, Result.andThen]
  exact h
end
theorem info55 : (Tryz.prog.info? 55).map (·.size) = some 1 := by kernel_rfl
theorem info56 : (Tryz.prog.info? 56).map (·.size) = some 1 := by kernel_rfl
theorem store_slice {ty : TypeId} (hi : (Tryz.prog.info? ty).map (·.size) = some 1) {w : World} {b i : Nat} {cs : Array Value} {t : TypeId} {A : Option Addr} {n c : Nat} (h : w.heap[b]? = some (.cells cs t (0, 0))) (hlt : i < cs.size) :
    (Instr.storeAt ty (.pointer (some ⟨b, i, none⟩)) (.slice A n c)).run Tryz.prog w = .ok () (w.setCell ⟨b, i, none⟩ (.slice A n c)) := by
  have hc : w.cell? ⟨b, i, none⟩ = some cs[i] := by simp [World.cell?, h]
  have hf : w.frozen? ⟨b, i, none⟩ = false := by simp [World.frozen?, h]
  have hsz := fun w => run_sizeOf hi w
  have h1 : (Value.slice A n c).cells = #[.slice A n c] := rfl
  have h0 : (⟨b, i, none⟩ : Addr).add 0 = ⟨b, i, none⟩ := by rw [Addr.add_lit]; rfl
  simp only [Instr.storeAt, Instr.sureAddr, Sem.run_bind, Sem.run_pure, Result.andThen]
  unfold storeVar
  rw [Sem.run_bind, hsz]
  simp only [Result.andThen, h1]
  go_simp
theorem cR {w : World} {b : Nat} {cs : Array Value} {t : TypeId} (h : w.heap[b]? = some (.cells cs t (0, 0))) (i : Nat) : w.cell? ⟨b, i, none⟩ = cs[i]? := by simp [World.cell?, h]
theorem fR {w : World} {b : Nat} {cs : Array Value} {t : TypeId} (h : w.heap[b]? = some (.cells cs t (0, 0))) (i : Nat) : w.frozen? ⟨b, i, none⟩ = false := by simp [World.frozen?, h]
theorem after_take {base b : Nat} {bud h m ev : Int} {R : List REnt} {w : World} (hr : RefIs base b bud h m ev R w) : ∃ A c A' c', w.heap[b]? = some (.cells (cellsR bud (.slice A R.length c) (.slice A' R.length c') h m ev) 58 (0, 0)) ∧
    SRow w base 9 1 (.slice A R.length c) R.length (R.map fun x => .string x.1) ∧ SRow w base 66 256 (.slice A' R.length c') R.length (tileCells R) ∧ ∀ x ∈ R, x.2.length = 256 ∧ x.2.all (·.oneCell') = true := by
  obtain ⟨⟨vk, vt, q1, q2, q3⟩, q4⟩ := hr
  obtain ⟨A, c, rfl⟩ := q2.form
  obtain ⟨A', c', rfl⟩ := q3.form
  exact ⟨A, c, A', c', q1, q2, q3, q4⟩
/-- a block below base stands through an append -/
theorem old_low {w u : World} {base : Nat} {e : TypeId} {size n : Nat} {v : Value} {xs : List Value} (t : Turn (blks v) w u) (h : SRow w base e size v n xs) {b : Nat} {o : Obj} (hb : b < base) (ho : w.heap[b]? = some o) : u.heap[b]? = some o :=
  (t.old b (Array.getElem?_eq_some_iff.1 ho).1 fun hm => by have := (h.lt b hm).1; omega).trans ho
/-- a row of another type stands through an append -/
theorem old_other {w u : World} {base base' : Nat} {e e' : TypeId} {size n size' n' : Nat} {v v' : Value} {xs xs' : List Value} (t : Turn (blks v) w u) (h : SRow w base e size v n xs) (h' : SRow w base' e' size' v' n' xs') (he : e ≠ e') : SRow u base' e' size' v' n' xs' := by
  refine h'.keep fun g hg => t.old g (h'.lt g hg).2.1 fun hm => ?_
  obtain ⟨_, _, arr, h1⟩ := h.lt g hm
  obtain ⟨_, _, arr', h2⟩ := h'.lt g hg
  rw [h1] at h2
  cases h2
  exact he rfl
theorem SRow.cell {w : World} {base : Nat} {e : TypeId} {size n : Nat} {v : Value} {xs : List Value} (h : SRow w base e size v n xs) {b i : Nat} (hb : b < base) (x : Value) : SRow (w.setCell ⟨b, i, none⟩ x) base e size v n xs :=
  h.keep fun g hg => by
    have := (h.lt g hg).1
    exact heap_setCell_other _ _ _ _ (by show g ≠ b; omega)
theorem refis_snoc {base b : Nat} {bud h m ev : Int} {vk vt : Value} {R : List REnt} {k : ByteArray} {T : List Value} {w : World} (q1 : w.heap[b]? = some (.cells (cellsR bud vk vt h m ev) 58 (0, 0))) (q2 : SRow w base 9 1 vk (R.length + 1) (R.map (fun x => Value.string x.1) ++ [Value.string k]))
    (q3 : SRow w base 66 256 vt (R.length + 1) (tileCells R ++ T)) (q4 : ∀ x ∈ R, x.2.length = 256 ∧ x.2.all (·.oneCell') = true) (hT : T.length = 256) (ho : T.all (·.oneCell') = true) : RefIs base b bud h m ev (R ++ [(k, T)]) w := by
  refine ⟨⟨vk, vt, q1, ?_, ?_⟩, fun x hx => ?_⟩
  · simpa using q2
  · rw [tileCells_snoc]; simpa using q3
  · rcases List.mem_append.1 hx with hx | hx
    · exact q4 x hx
    · simp at hx; subst hx; exact ⟨hT, ho⟩
theorem refis_tail {base b : Nat} {bud h m ev : Int} {vk vt : Value} {R : List REnt} {k : ByteArray} {T : List Value} {w : World} (q1 : w.heap[b]? = some (.cells (cellsR bud vk vt h m ev) 58 (0, 0))) (q2 : SRow w base 9 1 vk R.length ((R.map (fun x => Value.string x.1) ++ [Value.string k]).drop 1))
    (q3 : SRow w base 66 256 vt R.length ((tileCells R ++ T).drop 256)) (q4 : ∀ x ∈ R, x.2.length = 256 ∧ x.2.all (·.oneCell') = true) (hT : T.length = 256) (ho : T.all (·.oneCell') = true) : RefIs base b bud h m ev (R ++ [(k, T)]).tail w := by
  have hrow : ∀ x ∈ (R ++ [(k, T)]).tail, x.2.length = 256 ∧ x.2.all (·.oneCell') = true := by
    intro x hx
    rcases List.mem_append.1 (List.mem_of_mem_tail hx) with hx | hx
    · exact q4 x hx
    · simp at hx; subst hx; exact ⟨hT, ho⟩
  refine ⟨⟨vk, vt, q1, ?_, ?_⟩, hrow⟩
  · have e1 : (R ++ [(k, T)]).tail.length = R.length := by simp
    have e2 : ((R ++ [(k, T)]).tail.map fun x => Value.string x.1) = (R.map (fun x => Value.string x.1) ++ [Value.string k]).drop 1 := by cases R <;> simp
    rw [e1, e2]; exact q2
  · have e1 : (R ++ [(k, T)]).tail.length = R.length := by simp
    have e2 : tileCells (R ++ [(k, T)]).tail = (tileCells R ++ T).drop 256 := by
      cases R with
      | nil =>
        have : T.drop 256 = [] := List.drop_of_length_le (by omega)
        simp [tileCells, this]
      | cons x R =>
        have hx := (q4 x (by simp)).1
        simp only [List.cons_append, List.tail_cons]
        rw [tileCells_snoc, List.drop_append_of_le_length (by rw [tileCells_len (fun y hy => (q4 y hy).1)]; simp; omega), tileCells_tail hx]
    rw [e1, e2]; exact q3
end Go.Proofs.YtbpklgllihhgpaaGreat
