/- The cut of a slice behind its first element, and the reference's cache as a list of keys and tiles. -/
import Derived.Test.YtbpklgllihhgpaaGreatSRow
namespace Go.Proofs.YtbpklgllihhgpaaGreat
open Go.RowKit

theorem srow_cut {P : Program} {w : World} {base : Nat} {t e : TypeId} {i : TypeInfo} {size : Nat} (ht : P.underlying t = some (.slice e)) (hi : P.info? e = some i) (hsize : i.size = size) {v : Value} {n : Nat} {xs : List Value}
    (h : SRow w base e size v (n + 1) xs) :
    ∃ v', (Instr.sliceAt t v (some (.int .i64 1)) none none).run P w = .ok v' w ∧ SRow w base e size v' n (xs.drop size) ∧ blks v' = blks v := by
  have hx := h.1
  rcases h.2 with ⟨_, h0⟩ | ⟨g, off, cap, arr, rfl, hb, hh, h3, h4, h5, h6⟩
  · cases h0
  · have hbd := Go.Den.run_sliceBounds (P := P) (w := w) (len := n + 1) (cap := cap) (l := 1) (h := n + 1) (lo := some (.int .i64 1)) (hi := none) (.inr ⟨.i64, rfl⟩) (.inl ⟨rfl, rfl⟩) (by omega) h3
    have hrun : (Instr.sliceAt t (.slice (some ⟨g, off, none⟩) (n + 1) cap) (some (.int .i64 1)) none none).run P w = .ok (.slice (some (if cap = 1 then ⟨g, off, none⟩ else (⟨g, off, none⟩ : Addr).add (1 * i.size))) (n + 1 - 1) (cap - 1)) w := by
      unfold Instr.sliceAt
      simp only [Sem.run_bind, run_underlying ht, Result.andThen]
      unfold Instr.slice
      simp [run_underlying ht, hbd, sizeOf, typeInfo, hi]
      split <;> rfl
    have hl : (xs.drop size).length = n * size := by rw [List.length_drop, hx, Nat.add_mul]; omega
    have hn : n + 1 - 1 = n := rfl
    rw [hn] at hrun
    have hcap : cap * size = (cap - 1) * size + size := by
      obtain ⟨c, rfl⟩ : ∃ c, cap = c + 1 := ⟨cap - 1, by omega⟩
      rw [Nat.add_sub_cancel, Nat.add_mul, Nat.one_mul]
    by_cases hc : cap = 1
    · rw [if_pos hc] at hrun
      have hn0 : n = 0 := by omega
      subst hn0
      have hnil : xs.drop size = [] := List.eq_nil_of_length_eq_zero (by simpa using hl)
      refine ⟨_, hrun, ⟨hl, .inr ⟨g, off, cap - 1, arr, rfl, hb, hh, by omega, by omega, by omega, fun j u hu => ?_⟩⟩, rfl⟩
      rw [hnil] at hu; simp at hu
    · rw [if_neg hc, Addr.add_lit, hsize, Nat.one_mul] at hrun
      refine ⟨_, hrun, ⟨hl, .inr ⟨g, off + size, cap - 1, arr, rfl, hb, hh, by omega, by omega, by omega, fun j u hu => ?_⟩⟩, rfl⟩
      rw [List.getElem?_drop] at hu
      rw [← h6 _ u hu]; congr 1; omega

/-- the reference's cache: budget, keys, tiles, counts -/
def cellsR (bud : Int) (vk vt : Value) (h m ev : Int) : Array Value := #[.int .i64 bud, vk, vt, .int .i64 h, .int .i64 m, .int .i64 ev]
/-- the tiles' cells, one behind the other -/
def tileCells (R : List (ByteArray × List Value)) : List Value := (R.map (·.2)).flatten
structure RefIs (base b : Nat) (bud h m ev : Int) (R : List (ByteArray × List Value)) (w : World) : Prop where
  ex : ∃ vk vt, w.heap[b]? = some (.cells (cellsR bud vk vt h m ev) 58 (0, 0)) ∧ SRow w base 9 1 vk R.length (R.map fun x => .string x.1) ∧ SRow w base 66 256 vt R.length (tileCells R)
  row : ∀ x ∈ R, x.2.length = 256 ∧ x.2.all (·.oneCell') = true
theorem tileCells_len {R : List (ByteArray × List Value)} (h : ∀ x ∈ R, x.2.length = 256) : (tileCells R).length = R.length * 256 := by
  induction R with
  | nil => rfl
  | cons x R ih =>
    unfold tileCells at *
    rw [List.map_cons, List.flatten_cons, List.length_append, ih fun y hy => h y (List.mem_cons_of_mem _ hy), h x List.mem_cons_self, List.length_cons]; omega
theorem tileCells_tail {x : ByteArray × List Value} {R : List (ByteArray × List Value)} (h : x.2.length = 256) : (tileCells (x :: R)).drop 256 = tileCells R := by
  unfold tileCells
  rw [List.map_cons, List.flatten_cons, ← h, List.drop_left]
theorem tileCells_snoc (R : List (ByteArray × List Value)) (k : ByteArray) (T : List Value) : tileCells (R ++ [(k, T)]) = tileCells R ++ T := by simp [tileCells]
/-- the cells of the tile i -/
theorem tileCells_at : ∀ {R : List (ByteArray × List Value)} {i : Nat} {x : ByteArray × List Value}, (∀ x ∈ R, x.2.length = 256) → R[i]? = some x → ∀ j u, x.2[j]? = some u → (tileCells R)[i * 256 + j]? = some u
  | y :: R, 0, x, h, hx, j, u, hu => by
    rw [List.getElem?_cons_zero] at hx
    injection hx with hx
    subst hx
    have hj := (List.getElem?_eq_some_iff.1 hu).1
    unfold tileCells
    rw [List.map_cons, List.flatten_cons, List.getElem?_append_left (by omega), ← hu]; congr 1; omega
  | y :: R, i + 1, x, h, hx, j, u, hu => by
    rw [List.getElem?_cons_succ] at hx
    have h0 := h y List.mem_cons_self
    have ih := tileCells_at (fun x hx => h x (List.mem_cons_of_mem _ hx)) hx j u hu
    unfold tileCells at ih ⊢
    rw [List.map_cons, List.flatten_cons, List.getElem?_append_right (by omega), ← ih]; congr 1; omega
end Go.Proofs.YtbpklgllihhgpaaGreat
