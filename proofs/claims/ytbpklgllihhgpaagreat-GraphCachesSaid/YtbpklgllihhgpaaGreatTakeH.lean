/- ref18's take: a key that is there goes, its tile comes back. -/
import Derived.Test.YtbpklgllihhgpaaGreatTake
namespace Go.Proofs.YtbpklgllihhgpaaGreat
open Go.RowKit Go.Den

theorem info9 : (Tryz.prog.info? 9).map (fun i => (i.zero, i.size, i.bytes)) = some (some (.string ⟨#[]⟩), 1, 16) := by kernel_rfl
theorem info66b : (Tryz.prog.info? 66).map (fun i => (i.zero, i.size, i.bytes)) = some (some (.agg Z66), 256, 256) := by kernel_rfl
section
variable {ops : Array Oper} {rest : List Oper} {o : Oper} {a : Act} {u : World} {Q : Exit → Act → World → Prop}
theorem app_key (hg : o.guard = none) (s x : Operand) (hop : o.op = Op.call { callee := Callee.builtin Builtin.append, args := #[s, x], argTypes := #[55, 55] }) {base : Nat} {v : Value} {n : Nat} {xs : List Value} (y : ByteArray) (hs : a.eval s = v)
    (hx : a.eval x = .slice (some ⟨u.heap.size, 0, none⟩) 1 1) (h : SRow u base 9 1 v n xs) (hn : n ≤ 1000) (hbase : base ≤ u.heap.size)
    (K : ∀ v' w', SRow w' base 9 1 v' (n + 1) (xs ++ [.string y]) → Turn (blks v) u w' → wpList Tryz.prog ops Q rest (a.put o.dst v') w') : wpList Tryz.prog ops Q (o :: rest) a (u.alloc (.cells #[.string y] 9)) := by
  obtain ⟨i, hi, hz0, hz1, hz2⟩ := info_parts info9
  have hsz : (u.alloc (.cells #[.string y] 9)).heap.size = u.heap.size + 1 := by show (u.heap.push _).size = _; simp
  refine wpList_srow _ hg s x 55 hop Tryz.underlying55 hi hz0 hz1 hz2 rfl (by decide) hs (h.keep fun g hg => (MapKept.heap_alloc u _).2 g (h.lt g hg).2.1) ⟨u.heap.size, 0, none⟩ 1 1 [.string y] hx rfl (news_alloc u [.string y] 9) (by simp [Value.oneCell']) (by unfold maxLen; omega) (by omega) (by omega) ?_
  intro v' w' r1 r2 _
  exact K v' w' r1 (((Turn.refl (blks v) u).alloc _).trans r2)
set_option maxRecDepth 100000 in
theorem app_tile (hg : o.guard = none) (s x : Operand) (hop : o.op = Op.call { callee := Callee.builtin Builtin.append, args := #[s, x], argTypes := #[56, 56] }) {base : Nat} {v : Value} {n : Nat} {xs : List Value} (T : List Value) (hT : T.length = 256) (ho : T.all (·.oneCell') = true) (hs : a.eval s = v)
    (hx : a.eval x = .slice (some ⟨u.heap.size, 0, none⟩) 1 1) (h : SRow u base 66 256 v n xs) (hn : n ≤ 1000) (hbase : base ≤ u.heap.size)
    (K : ∀ v' w', SRow w' base 66 256 v' (n + 1) (xs ++ T) → Turn (blks v) u w' → wpList Tryz.prog ops Q rest (a.put o.dst v') w') : wpList Tryz.prog ops Q (o :: rest) a (u.alloc (.cells ⟨T⟩ 66)) := by
  obtain ⟨i, hi, hz0, hz1, hz2⟩ := info_parts info66b
  have hsz : (u.alloc (.cells ⟨T⟩ 66)).heap.size = u.heap.size + 1 := by show (u.heap.push _).size = _; simp
  have hcz : (Value.agg Z66).cells.size = 256 := by
    have e : (Value.agg Z66).cells = Z66 := by simp only [Value.cells]
    rw [e]; exact sizeZ66
  refine wpList_srow _ hg s x 56 hop Tryz.underlying56 hi hz0 hz1 hz2 hcz (by decide) hs (h.keep fun g hg => (MapKept.heap_alloc u _).2 g (h.lt g hg).2.1) ⟨u.heap.size, 0, none⟩ 1 1 T hx (by omega) (news_alloc u T 66) (by simpa using ho) (by unfold maxLen; omega) (by omega) (by omega) ?_
  intro v' w' r1 r2 _
  exact K v' w' r1 (((Turn.refl (blks v) u).alloc _).trans r2)
end

/-- the loop's state: the two new slices hold those before j but the one at i -/
structure Kept (W1 : World) (R : List (ByteArray × List Value)) (i j : Nat) (s8 s9 : Value) (wr : World) : Prop where
  k : SRow wr W1.heap.size 9 1 s8 (D R i j).length ((D R i j).map fun x => .string x.1)
  t : SRow wr W1.heap.size 66 256 s9 (D R i j).length (tileCells (D R i j))
  turn : Turn [] W1 wr
theorem Kept.zero (W1 : World) (R : List (ByteArray × List Value)) (i : Nat) : Kept W1 R i 0 (.slice none 0 0) (.slice none 0 0) W1 :=
  ⟨by rw [D_zero]; exact SRow.nil _ _ _ _, by rw [D_zero]; exact SRow.nil _ _ _ _, Turn.refl _ _⟩
theorem Kept.same {W1 : World} {R : List (ByteArray × List Value)} {i : Nat} {s8 s9 : Value} {wr : World} (h : Kept W1 R i i s8 s9 wr) {x : ByteArray × List Value} (hx : R[i]? = some x) : Kept W1 R i (i + 1) s8 s9 wr :=
  ⟨by rw [D_at hx]; exact h.k, by rw [D_at hx]; exact h.t, h.turn⟩
/-- behind the first append -/
theorem Kept.mid {W1 : World} {R : List (ByteArray × List Value)} {i j : Nat} {s8 s9 : Value} {wr w1 : World} (h : Kept W1 R i j s8 s9 wr) (t : Turn (blks s8) wr w1) : Turn [] W1 w1 ∧ SRow w1 W1.heap.size 66 256 s9 (D R i j).length (tileCells (D R i j)) := by
  refine ⟨h.turn.above t fun g hg => (h.k.lt g hg).1, h.t.keep fun g hg => t.old g (h.t.lt g hg).2.1 fun hg8 => ?_⟩
  obtain ⟨_, _, arr, h8⟩ := h.k.lt g hg8
  obtain ⟨_, _, arr', h9⟩ := h.t.lt g hg
  rw [h8] at h9
  cases h9
theorem Kept.next {W1 : World} {R : List (ByteArray × List Value)} {i j : Nat} {s8 s9 v1 v2 : Value} {wr w1 w2 : World} (h : Kept W1 R i j s8 s9 wr) {x : ByteArray × List Value} (hx : R[j]? = some x) (hne : j ≠ i) (t1 : Turn (blks s8) wr w1) (k1 : SRow w1 W1.heap.size 9 1 v1 ((D R i j).length + 1) ((D R i j).map (fun x => .string x.1) ++ [.string x.1]))
    (t2 : Turn (blks s9) w1 w2) (k2 : SRow w2 W1.heap.size 66 256 v2 ((D R i j).length + 1) (tileCells (D R i j) ++ x.2)) : Kept W1 R i (j + 1) v1 v2 w2 := by
  obtain ⟨m1, m2⟩ := h.mid t1
  have hD := D_succ hx hne
  refine ⟨?_, ?_, m1.above t2 fun g hg => (m2.lt g hg).1⟩
  · rw [hD]
    simp only [List.length_append, List.length_singleton, List.map_append, List.map_cons, List.map_nil]
    refine k1.keep fun g hg => t2.old g (k1.lt g hg).2.1 fun hg9 => ?_
    obtain ⟨_, _, arr, h8⟩ := k1.lt g hg
    obtain ⟨_, _, arr', h9⟩ := m2.lt g hg9
    rw [h8] at h9
    cases h9
  · rw [hD]
    simp only [List.length_append, List.length_singleton]
    have : tileCells (D R i j ++ [x]) = tileCells (D R i j) ++ x.2 := by simp [tileCells]
    rw [this]; exact k2

/-- what the loops read -/
structure Reads (b : Nat) (vk vt : Value) (R : List (ByteArray × List Value)) (V : World) : Prop where
  c1 : V.cell? ⟨b, 1, none⟩ = some vk
  c2 : V.cell? ⟨b, 2, none⟩ = some vt
  key : ∀ j x, R[j]? = some x → ∃ g off cap, vk = .slice (some ⟨g, off, none⟩) R.length cap ∧ V.cell? ⟨g, off + j, none⟩ = some (.string x.1)
  tile : ∀ j x, R[j]? = some x → ∃ g off cap, vt = .slice (some ⟨g, off, none⟩) R.length cap ∧ (loadVar 66 ⟨g, off + j * 256, none⟩).run Tryz.prog V = .ok (.agg ⟨x.2⟩) V
theorem reads_of {base b : Nat} {bud h m ev : Int} {vk vt : Value} {R : List (ByteArray × List Value)} {V : World} (q1 : V.heap[b]? = some (.cells (cellsR bud vk vt h m ev) 58 (0, 0))) (q2 : SRow V base 9 1 vk R.length (R.map fun x => .string x.1))
    (q3 : SRow V base 66 256 vt R.length (tileCells R)) (q4 : ∀ x ∈ R, x.2.length = 256 ∧ x.2.all (·.oneCell') = true) : Reads b vk vt R V := by
  refine ⟨by simp [World.cell?, q1, cellsR], by simp [World.cell?, q1, cellsR], fun j x hx => ?_, fun j x hx => ?_⟩
  · have hj := (List.getElem?_eq_some_iff.1 hx).1
    rcases q2.2 with ⟨_, e0⟩ | ⟨g, off, cap, arr, e, _, hh, _, _, _, h6⟩
    · omega
    · refine ⟨g, off, cap, e, ?_⟩
      rw [cell_of_row V g _ arr 9 (0, 0) hh]
      exact h6 j _ (by rw [List.getElem?_map, hx]; rfl)
  · have hj := (List.getElem?_eq_some_iff.1 hx).1
    rcases q3.2 with ⟨_, e0⟩ | ⟨g, off, cap, arr, e, _, hh, _, _, _, h6⟩
    · omega
    · refine ⟨g, off, cap, e, load_mid hh (q4 x (List.mem_of_getElem? hx)).1 fun i u hu => ?_⟩
      rw [Nat.add_assoc]
      exact h6 _ u (tileCells_at (fun x hx => (q4 x hx).1) hx i u hu)
theorem turn_cells {W V : World} {b : Nat} {o : Obj} (h : W.heap[b]? = some o) (t : Turn [] W V) : V.heap[b]? = some o :=
  (t.old b (Array.getElem?_eq_some_iff.1 h).1 (by simp)).trans h
end Go.Proofs.YtbpklgllihhgpaaGreat
