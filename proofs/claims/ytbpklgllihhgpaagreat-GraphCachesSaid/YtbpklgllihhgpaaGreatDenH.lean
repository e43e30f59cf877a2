/- append in our memory. -/
import Derived.Test.YtbpklgllihhgpaaGreatDenG
namespace Go.Den
noncomputable section
variable {P : Program} {α : AM}

def loadN (m : Mem) (b : Nat) : Nat → Nat → Option (List Value)
  | _, 0 => some []
  | off, k + 1 => match m.cell ⟨b, off, none⟩ with
    | some v => match loadN m b (off + 1) k with
      | some l => some (v :: l)
      | none => none
    | none => none
theorem Rel.loadN {m : Mem} {w : World} (h : Rel P α m w) {b : Nat} {L : Loc} (hb : α b = some L) : ∀ (k off : Nat) (l : List Value), Den.loadN m b off k = some l →
    ∃ l' : List Value, l.length = k ∧ l'.length = k ∧ F2 (VR α) l l' ∧ ∀ j v, l'[j]? = some v → w.cell? ⟨L.blk, L.sh + off + j, none⟩ = some v
  | 0, off, l, e => by
    simp only [Den.loadN, Option.some.injEq] at e
    subst e
    exact ⟨[], rfl, rfl, .nil, fun j v hv => by simp at hv⟩
  | k + 1, off, l, e => by
    simp only [Den.loadN] at e
    cases hc : m.cell ⟨b, off, none⟩ with
    | none => rw [hc] at e; cases e
    | some v =>
      rw [hc] at e
      cases hl : Den.loadN m b (off + 1) k with
      | none => rw [hl] at e; cases e
      | some l2 =>
        rw [hl] at e
        cases e
        obtain ⟨v', h1, h2⟩ := h.cell hb hc
        obtain ⟨l', h3, h4, h5, h6⟩ := h.loadN hb k (off + 1) l2 hl
        refine ⟨v' :: l', by simp [h3], by simp [h4], .cons h2 h5, fun j u hu => ?_⟩
        cases j with
        | zero => simp at hu; subst hu; exact h1
        | succ j =>
          have := h6 j u (by simpa using hu)
          rw [show L.sh + off + (j + 1) = L.sh + (off + 1) + j from by omega]
          exact this

theorem addr_add (b o j : Nat) : (⟨b, o, none⟩ : Addr).add j = ⟨b, o + j, none⟩ := by
  unfold Addr.add
  split
  · rename_i h; subst h; rfl
  · rfl
theorem cell_heap {w w' : World} (h : w'.heap = w.heap) (a : Addr) : w'.cell? a = w.cell? a := by simp only [World.cell?, h]

def bytesOf (s : ByteArray) : List Value := s.data.toList.map fun b => .int .u8 b.toNat
def srcOf (m : Mem) (size : Nat) : Value → Option (Nat × List Value)
  | .slice none l _ => bif Nat.beq l 0 then some (0, []) else none
  | .slice (some ⟨b, off, none⟩) n _ => match loadN m b off (n * size) with
    | some l => some (n, l)
    | none => none
  | .string s => bif Nat.beq size 1 then some (s.size, bytesOf s) else none
  | _ => none
theorem F2.len {A B : Type} {R : A → B → Prop} : ∀ {l l'}, F2 R l l' → l.length = l'.length
  | _, _, .nil => rfl
  | _, _, .cons _ k => by simp [F2.len k]
theorem F2.refl {A : Type} {R : A → A → Prop} : ∀ {l : List A}, (∀ a ∈ l, R a a) → F2 R l l
  | [], _ => .nil
  | a :: l, h => .cons (h a (by simp)) (F2.refl fun b hb => h b (by simp [hb]))
theorem Rel.src {m : Mem} {w : World} (h : Rel P α m w) {size n : Nat} {x x' : Value} {l : List Value} (hx : VR α x x') (e : srcOf m size x = some (n, l)) :
    l.length = n * size ∧ ∃ l', F2 (VR α) l l' ∧ Src P w size x' n l' := by
  cases hx with
  | sliceN k c =>
    simp only [srcOf] at e
    cases hk : Nat.beq k 0 with
    | false => rw [hk] at e; cases e
    | true =>
      rw [hk, cond_true] at e
      have : k = 0 := Nat.eq_of_beq_eq_true hk
      subst this
      cases e
      exact ⟨by simp, [], .nil, ⟨rfl, fun w' _ => by simp [run_firstCells_none], by simp⟩⟩
  | @sliceX b off len cap L hb hc =>
    simp only [srcOf] at e
    cases hl : Den.loadN m b off (len * size) with
    | none => rw [hl] at e; cases e
    | some l2 =>
      rw [hl] at e; cases e
      obtain ⟨l', h1, h2, h3, h4⟩ := h.loadN hb _ _ _ hl
      exact ⟨h1, l', h3, ⟨rfl, fun w' hw => run_firstCells_some w' size _ _ _ _ l' h2 fun j v hv => by rw [addr_add, cell_heap hw]; exact h4 j v hv, h2⟩⟩
  | @sliceG b off len cap es L hb hl' ht =>
    simp only [srcOf] at e
    cases hl : Den.loadN m b off (len * size) with
    | none => rw [hl] at e; cases e
    | some l2 =>
      rw [hl] at e; cases e
      obtain ⟨l', h1, h2, h3, h4⟩ := h.loadN hb _ _ _ hl
      exact ⟨h1, l', h3, ⟨rfl, fun w' hw => run_firstCells_some w' size _ _ _ _ l' h2 fun j v hv => by rw [addr_add, cell_heap hw]; exact h4 j v hv, h2⟩⟩
  | sliceE hb =>
    simp only [srcOf, Nat.zero_mul, Den.loadN] at e
    cases e
    refine ⟨by simp, [], .nil, ⟨rfl, fun w' _ => ?_, by simp⟩⟩
    exact run_firstCells_some w' size 0 _ 0 0 [] (by simp) (by simp)
  | string s =>
    simp only [srcOf] at e
    cases hk : Nat.beq size 1 with
    | false => rw [hk] at e; cases e
    | true =>
      rw [hk, cond_true] at e
      have : size = 1 := Nat.eq_of_beq_eq_true hk
      subst this
      cases e
      have hs : (bytesOf s).length = s.size * 1 := by simp [bytesOf]
      refine ⟨hs, bytesOf s, .refl fun a ha => ?_, ⟨rfl, fun w' _ => ?_, hs⟩⟩
      · simp only [bytesOf, List.mem_map] at ha
        obtain ⟨b, _, rfl⟩ := ha
        exact .int _ _
      · simp [Builtin.firstCells, bytesOf]
        apply Array.ext'; simp
  | _ => simp [srcOf] at e

/-- storing cells one behind the other -/
theorem run_storeCells {blk : Nat} {e : TypeId} {lo hi : Nat} : ∀ (l : List Value) (w : World) (off i : Nat) (cc : Array Value), w.heap[blk]? = some (.cells cc e (lo, hi)) → (∀ v ∈ l, notCell v = false) → off + i + l.length ≤ cc.size →
    (∀ j, j < cc.size → ¬(lo ≤ j ∧ j < hi)) →
    ∃ w' cc', (storeCells ⟨blk, off, none⟩ l i).run P w = .ok () w' ∧ w'.os = w.os ∧ w'.tape = w.tape ∧ w'.output = w.output ∧ w'.heap.size = w.heap.size ∧ (∀ k, k ≠ blk → w'.heap[k]? = w.heap[k]?) ∧
      w'.heap[blk]? = some (.cells cc' e (lo, hi)) ∧ cc'.size = cc.size ∧ ∀ j, cc'[j]? = if off + i ≤ j ∧ j < off + i + l.length then l[j - (off + i)]? else cc[j]?
  | [], w, off, i, cc, hw, _, _, _ => ⟨w, cc, rfl, rfl, rfl, rfl, rfl, fun _ _ => rfl, hw, rfl, fun j => by rw [if_neg (by simp)]⟩
  | v :: l, w, off, i, cc, hw, hn, hs, hf => by
    have hlt : off + i < cc.size := by simp at hs; omega
    have h1 : w.cell? ⟨blk, off + i, none⟩ = some cc[off + i] := by simp [World.cell?, hw, hlt]
    have h2 : w.frozen? ⟨blk, off + i, none⟩ = false := by
      have := hf (off + i) hlt
      simp only [World.frozen?, hw]
      simpa using this
    have hw1 : (w.setCell ⟨blk, off + i, none⟩ v).heap[blk]? = some (.cells (cc.setIfInBounds (off + i) v) e (lo, hi)) := by
      simp [World.setCell, Array.getElem?_modify, hw]
    obtain ⟨w', cc', r1, r2, r3, r4, r5, r6, r7, r8, r9⟩ := run_storeCells l (w.setCell ⟨blk, off + i, none⟩ v) off (i + 1) _ hw1 (fun u hu => hn u (by simp [hu])) (by simp at hs ⊢; omega) (by simpa using hf)
    refine ⟨w', cc', ?_, r2, r3, r4, by rw [r5]; simp [World.setCell], fun k hk => (r6 k hk).trans (heap_setCell _ _ _ _ hk), r7, by rw [r8]; simp, fun j => ?_⟩
    · unfold storeCells
      rw [Sem.run_bind, addr_add]
      have : (store ⟨blk, off + i, none⟩ v).run P w = .ok () (w.setCell ⟨blk, off + i, none⟩ v) := run_store (hn v (by simp)) h1 h2
      rw [this]; exact r1
    · rw [r9]
      by_cases hj : off + i + 1 ≤ j ∧ j < off + i + 1 + l.length
      · rw [if_pos (by omega), if_pos (by simp; omega)]
        rw [show j - (off + i) = (j - (off + (i + 1))) + 1 from by omega]; simp
      · rw [if_neg (by omega)]
        by_cases he : j = off + i
        · subst he
          rw [if_pos (by simp)]
          simp [hlt]
        · rw [if_neg (by simp; omega), Array.getElem?_setIfInBounds, if_neg (by omega)]

/-! ## new names -/
theorem Rel.kill {m : Mem} {w : World} (h : Rel P α m w) {b : Nat} {L : Loc} {ob : Ob} (hb : α b = some L) (hg : m.t.get b = some ob) : Stp P α m w α ⟨Tr.set (b + 1) m.t b .dead, m.next⟩ w := by
  have key : ∀ {b' o'}, (Tr.set (b + 1) m.t b .dead).get b' = some o' → Live o' → b' ≠ b ∧ m.t.get b' = some o' := by
    intro b' o' hx hl
    rw [get_put] at hx
    by_cases e : b' = b
    · subst e; rw [if_pos rfl] at hx; cases hx; exact absurd hl (by simp [Live])
    · rw [if_neg e] at hx; exact ⟨e, hx⟩
  refine ⟨.refl _, fun _ _ => rfl, Nat.le_refl _, ⟨h.dom, ?_, ?_, fun b' hb' => by rw [get_put, if_neg (fun e => by have h1 := (h.dom _ _ hb).1; have h2 : m.next ≤ b' := hb'; omega)]; exact h.top b' hb'⟩, rfl, rfl, rfl, Nat.le_refl _, fun _ _ _ => rfl, ?_, fun b' _ hn => ?_⟩
  · intro b' o' L' hx hL
    cases o' with
    | dead => trivial
    | _ => exact h.obj _ _ _ (key hx trivial).2 hL
  · intro b1 b2 o1 o2 L1 L2 g1 l1 x1 g2 l2 x2 he
    exact h.inj _ _ _ _ _ _ (key g1 l1).2 l1 x1 (key g2 l2).2 l2 x2 he
  · rintro cb ⟨b', o', L', hx, hl, hL, he⟩
    exact .inl ⟨b', o', L', (key hx hl).2, hl, hL, he⟩
  · rw [get_put, if_neg (fun e => by rw [e, hb, hg] at hn; rcases hn with hn | hn <;> cases hn)]

/-- A name for what an append has made in place: the old name goes. -/
theorem Rel.inplace {m : Mem} {w w' : World} (h : Rel P α m w) {b : Nat} {L L' : Loc} {ob o : Ob} (hb : α b = some L) (hg : m.t.get b = some ob) (hlv : Live ob) (hbn : b < m.next)
    (hs : w'.heap.size = w.heap.size) (hos : w'.os = w.os) (ht : w'.tape = w.tape) (hu : w'.output = w.output) (hk : ∀ cb, cb ≠ L.blk → w'.heap[cb]? = w.heap[cb]?) (hL' : L'.blk = L.blk)
    (ho : ObR P (ext α m.next L') L' w' o) :
    Stp P α m w (ext α m.next L') ⟨Tr.set (m.next + 1) (Tr.set (b + 1) m.t b .dead) m.next o, m.next + 1⟩ w' := by
  have hle := h.le_ext L'
  have hd := (h.kill hb hg).rel
  have dead : ∀ {b' o' L2}, (Tr.set (b + 1) m.t b .dead).get b' = some o' → Live o' → α b' = some L2 → L2.blk ≠ L.blk ∧ m.t.get b' = some o' := by
    intro b' o' L2 hx hl hy
    rw [get_put] at hx
    by_cases e : b' = b
    · subst e; rw [if_pos rfl] at hx; cases hx; exact absurd hl (by simp [Live])
    · rw [if_neg e] at hx; exact ⟨fun he => e (h.inj _ _ _ _ _ _ hx hl hy hg hlv hb he), hx⟩
  have back : ∀ {b' o' L2}, (Tr.set (m.next + 1) (Tr.set (b + 1) m.t b .dead) m.next o).get b' = some o' → ext α m.next L' b' = some L2 → (b' = m.next ∧ o' = o ∧ L2 = L') ∨ (b' ≠ m.next ∧ (Tr.set (b + 1) m.t b .dead).get b' = some o' ∧ α b' = some L2) := by
    intro b' o' L2 hx hy
    rw [get_put] at hx
    by_cases e1 : b' = m.next
    · subst e1; rw [if_pos rfl] at hx; rw [ext_self] at hy; cases hx; cases hy; exact .inl ⟨rfl, rfl, rfl⟩
    · rw [if_neg e1] at hx; rw [ext_ne _ _ e1] at hy; exact .inr ⟨e1, hx, hy⟩
  refine ⟨hle, fun b hb => ext_ne _ _ (by omega), Nat.le_succ _, ⟨?_, ?_, ?_, fun b' hb' => by have h2 : m.next + 1 ≤ b' := hb'; rw [get_put, if_neg (by omega), get_put, if_neg (by omega)]; exact h.top b' (by omega)⟩, hos, ht, hu, by omega, ?_, ?_, fun b' hb' hn => by rw [get_put, if_neg (by omega), get_put, if_neg (fun e => by rw [e, hb, hg] at hn; rcases hn with hn | hn <;> cases hn)]⟩
  · intro b' L2 hb'
    by_cases e1 : b' = m.next
    · subst e1; rw [ext_self] at hb'; cases hb'; exact ⟨Nat.lt_succ_self _, by rw [hs, hL']; exact (h.dom _ _ hb).2⟩
    · rw [ext_ne _ _ e1] at hb'
      have := h.dom _ _ hb'
      exact ⟨Nat.lt_succ_of_lt this.1, by rw [hs]; exact this.2⟩
  · intro b' o' L2 hx hy
    rcases back hx hy with ⟨rfl, rfl, rfl⟩ | ⟨e1, hx, hy⟩
    · exact ho
    · by_cases hl : Live o'
      · exact ((h.obj _ _ _ (dead hx hl hy).2 hy).heap (hk _ (dead hx hl hy).1)).mono hle
      · cases o' with
        | dead => trivial
        | _ => exact absurd trivial hl
  · intro b1 b2 o1 o2 L1 L2 g1 l1 x1 g2 l2 x2 he
    rcases back g1 x1 with ⟨p1, _, q1⟩ | ⟨e1, y1, z1⟩ <;> rcases back g2 x2 with ⟨p2, _, q2⟩ | ⟨e2, y2, z2⟩
    · exact p1.trans p2.symm
    · subst q1; exact absurd (he.symm.trans hL') (dead y2 l2 z2).1
    · subst q2; exact absurd (he.trans hL') (dead y1 l1 z1).1
    · exact h.inj _ _ _ _ _ _ (dead y1 l1 z1).2 l1 z1 (dead y2 l2 z2).2 l2 z2 he
  · intro cb hcb hn
    exact hk cb fun e => hn ⟨b, _, L, hg, hlv, hb, e.symm⟩
  · rintro cb ⟨b', o', L2, hx, hl, hy, rfl⟩
    rcases back hx hy with ⟨_, _, rfl⟩ | ⟨e1, hx, hy⟩
    · exact .inl ⟨b, ob, L, hg, hlv, hb, hL'.symm⟩
    · exact .inl ⟨b', o', L2, (dead hx hl hy).2, hl, hy, rfl⟩

theorem F2.get {A B : Type} {R : A → B → Prop} : ∀ {l : List A} {l' : List B}, F2 R l l' → ∀ (i : Nat), i < l.length → ∃ a b, l[i]? = some a ∧ l'[i]? = some b ∧ R a b
  | _, _, .nil, i, h => absurd h (by simp)
  | _, _, .cons h _, 0, _ => ⟨_, _, rfl, rfl, h⟩
  | _, _, .cons _ k, i + 1, hi => by
    obtain ⟨a, b, h1, h2, h3⟩ := k.get i (by simpa using hi)
    exact ⟨a, b, by simpa using h1, by simpa using h2, h3⟩
theorem F2.append {A B : Type} {R : A → B → Prop} : ∀ {l k : List A} {l' k' : List B}, F2 R l l' → F2 R k k' → F2 R (l ++ k) (l' ++ k')
  | _, _, _, _, .nil, h => h
  | _, _, _, _, .cons a b, h => .cons a (F2.append b h)

/-- A new row that the tape has made longer than was asked. -/
theorem Rel.grown {m : Mem} {w : World} (h : Rel P α m w) {l l' : List Value} (hl : F2 (VR α) l l') (rest : Array Value) (e e' : TypeId) (n : Nat) (hn : l.length = n) :
    Stp P α m w (ext α m.next ⟨w.heap.size, 0, l.length + rest.size⟩) ⟨Tr.set (m.next + 1) m.t m.next (.cells (ofList l) n e true), m.next + 1⟩
      (w.drew.alloc (.cells (l'.toArray ++ rest) e')) := by
  have hs := hl.len
  have hh : (w.drew.alloc (.cells (l'.toArray ++ rest) e')).heap = w.heap.push (.cells (l'.toArray ++ rest) e') := rfl
  refine h.new (L := ⟨w.heap.size, 0, l.length + rest.size⟩) (by rw [hh]; simp) rfl rfl rfl (fun cb h1 h2 => by rw [hh]; simp [Array.getElem?_push]; omega) (by rw [hh]; simp) (fun ⟨b, o, L, _, _, h3, h4⟩ => ?_) (Nat.le_refl _) ?_
  · have := (h.dom _ _ h3).2; simp at h4; omega
  · refine ⟨l'.toArray ++ rest, e', 0, 0, by rw [hh]; simp, by simp [hs], by simp; omega, fun i _ => by omega, (fun hf => by cases hf), fun i hi => ?_⟩
    obtain ⟨a, b, h1, h2, h3⟩ := hl.get i (by omega)
    refine ⟨a, b, ?_, ?_, h3.mono (h.le_ext _)⟩
    · rw [get_ofList, if_pos (by omega)]; simpa using h1
    · have : i < l'.length := by omega
      simp only [Nat.zero_add]
      rw [Array.getElem?_append_left (by simpa using this)]
      simpa using h2
end
end Go.Den
