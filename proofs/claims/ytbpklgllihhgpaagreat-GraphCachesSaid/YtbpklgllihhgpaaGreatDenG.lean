/- append: what it does, whatever the capacity that the tape gave. -/
import Derived.Test.YtbpklgllihhgpaaGreatDenF
import Derived.WalkKit
namespace Go.Den
noncomputable section
variable {P : Program} {α : AM}

/-- The source of an append: its length, and its cells in any world whose heap is this one's. -/
structure Src (P : Program) (w : World) (size : Nat) (x : Value) (n : Nat) (news : List Value) : Prop where
  len : Builtin.lenOf x = pure n
  cells : ∀ w' : World, w'.heap = w.heap → (Builtin.firstCells size n x).run P w' = .ok news.toArray w'
  size : news.length = n * size

theorem run_append_room {ts : Array TypeId} {t u ty e : TypeId} {d : TypeDesc} {i : TypeInfo} (ht0 : ts[0]? = some t) (ht1 : ts[1]? = some u) (hu : P.underlying u = some d) (hd : (∃ e2, d = .slice e2) ∨ d = .string)
    (ht : P.underlying t = some (.slice e)) (hi : P.info? e = some i) {w : World} {base : Addr} {sLen sCap n : Nat} {x : Value} {news : List Value}
    (hx : Src P w i.size x n news) (hr : sLen + n ≤ sCap) {w' : World} (hs : (storeCells (base.add (sLen * i.size)) news).run P w = .ok () w') :
    (Builtin.append_ ts ty #[.slice (some base) sLen sCap, x]).run P w = .ok (.slice (some base) (sLen + n) sCap) w' := by
  have hc := hx.cells w rfl
  rcases hd with ⟨e2, rfl⟩ | rfl <;>
  simp [Builtin.append_, ht0, ht1, run_underlying ht, run_underlying hu, sizeOf, typeInfo, hi, hx.len, hr, hc, hs]

theorem run_append_grows {ts : Array TypeId} {t u ty e : TypeId} {d : TypeDesc} {i : TypeInfo} {z : Value} (ht0 : ts[0]? = some t) (ht1 : ts[1]? = some u) (hu : P.underlying u = some d) (hd : (∃ e2, d = .slice e2) ∨ d = .string)
    (ht : P.underlying t = some (.slice e)) (hi : P.info? e = some i) (hz : i.zero = some z) {w : World} {base : Option Addr} {sLen sCap n : Nat} {x : Value} {olds news : List Value}
    (hx : Src P w i.size x n news) (ho : ∀ w' : World, w'.heap = w.heap → (Builtin.firstCells i.size sLen (.slice base sLen sCap)).run P w' = .ok olds.toArray w') (hg : sCap < sLen + n) (h63 : sLen + n < 4611686018427387904)
    (hfit : (sLen + n) * i.bytes ≤ 140737488355328) :
    (Builtin.append_ ts ty #[.slice base sLen sCap, x]).run P w = .ok (.slice (some ⟨w.heap.size, 0, none⟩) (sLen + n) (grownCap w (sLen + n) sCap e))
      (w.drew.alloc (.cells (olds.toArray ++ news.toArray ++ Builtin.zeroCells z.cells (grownCap w (sLen + n) sCap e - (sLen + n))) e)) := by
  have hn : ¬ (sLen + n ≤ sCap) := by omega
  have h63' : ¬ (9223372036854775807 < ((sLen : Int) + (n : Int))) := by omega
  have hfit' := growslice_fits hg hfit
  have h48' : ¬ (281474976710656 < Builtin.nextslicecap (sLen + n) sCap * i.bytes) := by omega
  have hc := hx.cells w.drew rfl
  have hoc := ho w.drew rfl
  rcases hd with ⟨e2, rfl⟩ | rfl <;>
  simp [Builtin.append_, ht0, ht1, run_underlying ht, run_underlying hu, sizeOf, typeInfo, zeroValue, hi, hz, hx.len, hn, h63', h48', Question.forced, hc, hoc, newRow, grownCap] <;>
  (congr 2; apply Array.ext'; simp [List.append_assoc])

theorem grownCap_ge (w : World) {need old : Nat} (e : TypeId) : need ≤ grownCap w need old e := by
  show need ≤ need + _
  omega
theorem zeroCells_size (z : Array Value) (n : Nat) : (Builtin.zeroCells z n).size = n * z.size := by simp [Builtin.zeroCells]

/-- Nothing appended: nothing done. -/
theorem run_append_none {ts : Array TypeId} {t u ty e : TypeId} {d : TypeDesc} {i : TypeInfo} (ht0 : ts[0]? = some t) (ht1 : ts[1]? = some u) (hu : P.underlying u = some d) (hd : (∃ e2, d = .slice e2) ∨ d = .string)
    (ht : P.underlying t = some (.slice e)) (hi : P.info? e = some i) {w : World} {base : Option Addr} {sLen sCap : Nat} {x : Value}
    (hx : Src P w i.size x 0 []) (hr : sLen ≤ sCap) : (Builtin.append_ ts ty #[.slice base sLen sCap, x]).run P w = .ok (.slice base sLen sCap) w := by
  have hc := hx.cells w rfl
  rcases hd with ⟨e2, rfl⟩ | rfl <;> cases base <;>
  simp [Builtin.append_, ht0, ht1, run_underlying ht, run_underlying hu, sizeOf, typeInfo, hi, hx.len, hr, hc, storeCells]
end
end Go.Den
