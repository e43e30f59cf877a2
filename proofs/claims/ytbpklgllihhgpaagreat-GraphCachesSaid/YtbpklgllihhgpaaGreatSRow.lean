/- A slice that may start inside its block, and what an append of a few elements makes of it: laws over any program, at the level of a run. -/
import Derived.Test.YtbpklgllihhgpaaGreatHit
import Derived.ArgAppend
namespace Go.Proofs.YtbpklgllihhgpaaGreat
open Go.RowKit

def SRow (w : World) (base : Nat) (e : TypeId) (size : Nat) (v : Value) (n : Nat) (xs : List Value) : Prop :=
  xs.length = n * size ∧ ((v = .slice none 0 0 ∧ n = 0) ∨ ∃ g off cap arr, v = .slice (some ⟨g, off, none⟩) n cap ∧ base ≤ g ∧ w.heap[g]? = some (.cells arr e (0, 0)) ∧ n ≤ cap ∧ cap ≤ maxLen ∧
    off + cap * size ≤ arr.size ∧ ∀ j u, xs[j]? = some u → arr[off + j]? = some u)
/-- the blocks of a slice -/
def blks (v : Value) : List Nat := v.ownBlock.toList

theorem SRow.of_own {w : World} {base : Nat} {e : TypeId} {size n : Nat} {v : Value} {xs : List Value} (h : w.ownsRow base e size v n xs) : SRow w base e size v n xs := by
  refine ⟨h.1, ?_⟩
  rcases h.2 with h2 | ⟨g, cap, cur, rfl, hb, hh, h3, h4, h5, h6⟩
  · exact .inl h2
  · refine .inr ⟨g, 0, cap, cur, rfl, hb, hh, h3, h4, by omega, fun j u hu => ?_⟩
    rw [← h6, List.getElem?_take] at hu
    split at hu
    · rw [Nat.zero_add, ← Array.getElem?_toList]; exact hu
    · cases hu
theorem SRow.nil (w : World) (base : Nat) (e : TypeId) (size : Nat) : SRow w base e size (.slice none 0 0) 0 [] := ⟨by simp, .inl ⟨rfl, rfl⟩⟩
theorem SRow.keep {w w' : World} {base : Nat} {e : TypeId} {size n : Nat} {v : Value} {xs : List Value} (h : SRow w base e size v n xs) (hk : ∀ g ∈ blks v, w'.heap[g]? = w.heap[g]?) : SRow w' base e size v n xs := by
  refine ⟨h.1, ?_⟩
  rcases h.2 with h2 | ⟨g, off, cap, arr, rfl, hb, hh, h3⟩
  · exact .inl h2
  · exact .inr ⟨g, off, cap, arr, rfl, hb, (hk g (by simp [blks, Value.ownBlock])).trans hh, h3⟩
theorem SRow.lt {w : World} {base : Nat} {e : TypeId} {size n : Nat} {v : Value} {xs : List Value} (h : SRow w base e size v n xs) : ∀ g ∈ blks v, base ≤ g ∧ g < w.heap.size ∧ ∃ arr, w.heap[g]? = some (.cells arr e (0, 0)) := by
  rcases h.2 with ⟨rfl, _⟩ | ⟨g, off, cap, arr, rfl, hb, hh, h3⟩
  · simp [blks, Value.ownBlock]
  · intro k hk
    obtain rfl : k = g := by simpa [blks, Value.ownBlock] using hk
    refine ⟨hb, ?_, arr, hh⟩
    rcases Nat.lt_or_ge k w.heap.size with hlt | hge
    · exact hlt
    · rw [Array.getElem?_eq_none hge] at hh; cases hh
theorem turn_of_grown {w w' : World} {v : Value} (h : w.grownBy w' v.ownBlock) : Turn (blks v) w w' :=
  ⟨h.size, fun j hj hn => h.block j hj fun e => hn (by simp [blks, ← e]), h.os, h.tape, h.output⟩

theorem heap_setCells (b : Nat) : ∀ (vs : List Value) (o : Nat) (w : World) (arr : Array Value) (e : TypeId) (fz : Nat × Nat), w.heap[b]? = some (.cells arr e fz) → o + vs.length ≤ arr.size →
    ∃ arr', (w.setCells b o vs).heap[b]? = some (.cells arr' e fz) ∧ arr'.size = arr.size ∧ (∀ j, j < o → arr'[j]? = arr[j]?) ∧ (∀ j u, vs[j]? = some u → arr'[o + j]? = some u) ∧ Turn [b] w (w.setCells b o vs)
  | [], o, w, arr, e, fz, h, _ => ⟨arr, h, rfl, fun _ _ => rfl, by simp, Turn.refl _ _⟩
  | v :: vs, o, w, arr, e, fz, h, hl => by
    have h1 : (w.setCell ⟨b, o, none⟩ v).heap[b]? = some (.cells (arr.setIfInBounds o v) e fz) := by simp [World.setCell, Array.getElem?_modify, h]
    rw [List.length_cons] at hl
    obtain ⟨arr', a1, a2, a3, a4, a5⟩ := heap_setCells b vs (o + 1) (w.setCell ⟨b, o, none⟩ v) _ e fz h1 (by rw [Array.size_setIfInBounds]; omega)
    refine ⟨arr', a1, by rw [a2, Array.size_setIfInBounds], fun j hj => ?_, fun j u hu => ?_, ?_⟩
    · rw [a3 j (by omega), Array.getElem?_setIfInBounds_ne (by omega)]
    · cases j with
      | zero =>
        rw [List.getElem?_cons_zero] at hu
        injection hu with hu
        subst hu
        rw [Nat.add_zero, a3 o (by omega), Array.getElem?_setIfInBounds_self_of_lt (by omega)]
      | succ j =>
        rw [List.getElem?_cons_succ] at hu
        rw [← a4 j u hu]; congr 1; omega
    · have b1 : Turn [b] w (w.setCell ⟨b, o, none⟩ v) := ⟨by simp [World.setCell], fun j _ hj => by
        simp only [List.mem_singleton] at hj
        simp only [World.setCell, Array.getElem?_modify, Ne.symm hj, if_false], rfl, rfl, rfl⟩
      exact b1.trans a5

theorem srow_append {P : Program} {w : World} {base : Nat} {t ty e : TypeId} {i : TypeInfo} {z : Value} {size bytes : Nat} (ht : P.underlying t = some (.slice e)) (hi : P.info? e = some i) (hz : i.zero = some z)
    (hsize : i.size = size) (hby : i.bytes = bytes) (hzs : z.cells.size = size) (hsz : 0 < size) {v : Value} {n : Nat} {xs : List Value} (h : SRow w base e size v n xs)
    (a : Addr) (m c : Nat) (news : List Value) (hl : news.length = m * size) (hnews : ∀ j u, news[j]? = some u → w.cell? (a.add j) = some u) (h1 : ∀ u ∈ news, u.oneCell' = true)
    (h63 : n + m ≤ maxLen) (hbytes : (n + m) * bytes ≤ 140737488355328) (hbase : base ≤ w.heap.size) :
    ∃ v' w', (Builtin.append_ #[t, t] ty #[v, .slice (some a) m c]).run P w = .ok v' w' ∧ SRow w' base e size v' (n + m) (xs ++ news) ∧ Turn (blks v) w w' ∧ (∀ g ∈ blks v', g ∈ blks v ∨ w.heap.size ≤ g) := by
  have hnew : ∀ {w' : World} {v' : Value} {k : Nat} {ys : List Value}, w'.ownsRow w.heap.size e size v' k ys → ∀ g ∈ blks v', g ∈ blks v ∨ w.heap.size ≤ g := fun h g hg => .inr ((SRow.of_own h).lt g hg).1
  rcases h.2 with ⟨rfl, rfl⟩ | ⟨g, off, cap, arr, rfl, hb, hh, h3, h4, h5, h6⟩
  · have hx : xs = [] := List.eq_nil_of_length_eq_zero (by simpa using h.1)
    subst hx
    obtain ⟨v', w', e1, e2, e3, _⟩ := run_append_own w w.heap.size t ty e i z size bytes ht hi hz hsize hby hzs hsz (.slice none 0 0) 0 [] ⟨by simp, .inl ⟨rfl, rfl⟩⟩ a m c news hl hnews h1 h63 hbytes (Nat.le_refl _)
    have e4 := SRow.of_own e2
    refine ⟨v', w', e1, ⟨e4.1, ?_⟩, turn_of_grown (v := .slice none 0 0) e3, hnew e2⟩
    rcases e4.2 with q | ⟨g, off, cap, arr, q1, q2, q3⟩
    · exact .inl q
    · exact .inr ⟨g, off, cap, arr, q1, by omega, q3⟩
  · have holds : ∀ j u, xs[j]? = some u → w.cell? ((⟨g, off, none⟩ : Addr).add j) = some u := by
      intro j u hu
      rw [Addr.add_lit, cell_of_row w g (off + j) arr e (0, 0) hh]
      exact h6 j u hu
    by_cases hroom : n + m ≤ cap
    · have hm : n * size + m * size ≤ cap * size := by rw [← Nat.add_mul]; exact Nat.mul_le_mul_right _ hroom
      have e1 := run_append_room_cells (P := P) w t ty e i ht hi g off n cap a m c news (by rw [hsize]; exact hl) hnews h1 hroom (fun j hj => by
          rw [cell_of_row w g _ arr e (0, 0) hh, hsize, Array.getElem?_eq_getElem (by omega)]; rfl) (fun j hj => by simp [World.frozen?, hh])
      rw [hsize] at e1
      obtain ⟨arr', a1, a2, a3, a4, a5⟩ := heap_setCells g news (off + n * size) w arr e (0, 0) hh (by omega)
      refine ⟨_, _, e1, ⟨by rw [List.length_append, h.1, hl, Nat.add_mul], .inr ⟨g, off, cap, arr', rfl, hb, a1, hroom, h4, by omega, fun j u hu => ?_⟩⟩, ?_, fun k hk => .inl (by simpa [blks, Value.ownBlock] using hk)⟩
      · have hx := h.1
        by_cases hj : j < xs.length
        · rw [List.getElem?_append_left hj] at hu
          rw [a3 _ (by omega)]
          exact h6 j u hu
        · rw [List.getElem?_append_right (by omega)] at hu
          rw [← a4 _ u hu]; congr 1; omega
      · simpa [blks, Value.ownBlock] using a5
    · obtain ⟨v', w', e1, e2, e3⟩ := run_append_arg_grows (P := P) w t ty e i z size bytes ht hi hz hsize hby hzs hsz ⟨g, off, none⟩ n cap xs h.1 holds a m c news hl hnews (by omega) h63 hbytes
      have e4 := SRow.of_own e2
      refine ⟨v', w', e1, ⟨e4.1, ?_⟩, ⟨e3.size, fun j hj _ => e3.block j hj (by simp), e3.os, e3.tape, e3.output⟩, hnew e2⟩
      rcases e4.2 with q | ⟨g, off, cap, arr, q1, q2, q3⟩
      · exact .inl q
      · exact .inr ⟨g, off, cap, arr, q1, by omega, q3⟩
end Go.Proofs.YtbpklgllihhgpaaGreat
