/- The relation kept by the steps of an operation; operations that do the same on related values. -/
import Derived.Test.YtbpklgllihhgpaaGreatDenA
namespace Go.Den
noncomputable section
variable {P : Program}

theorem Mem.put_eq {B : Type} (m : Mem) (b : Nat) (o : Ob) (c : Mem → B) : m.put b o c = c ⟨Tr.set (b + 1) m.t b o, m.next⟩ := by obtain ⟨t, n⟩ := m; simp [Mem.put, Tr.setK_eq]
theorem Mem.push_eq {B : Type} (m : Mem) (o : Ob) (c : Mem → B) : m.push o c = c ⟨Tr.set (m.next + 1) m.t m.next o, m.next + 1⟩ := by obtain ⟨t, n⟩ := m; simp [Mem.push, Tr.setK_eq, forceNat_eq]
theorem get_put (t : Tr Ob) (b : Nat) (o : Ob) (j : Nat) : (Tr.set (b + 1) t b o).get j = if j = b then some o else t.get j := Tr.get_set _ _ _ _ _ (by omega)

theorem blt_iff {a b : Nat} : Nat.blt a b = true ↔ a < b := by simp [Nat.blt_eq]

theorem Rel.cells {α : AM} {m : Mem} {w : World} (h : Rel P α m w) {b : Nat} {L : Loc} (hb : α b = some L) {c : Tr Value} {n : Nat} {e : TypeId} {g : Bool} (hg : m.t.get b = some (.cells c n e g)) :
    ObR P α L w (.cells c n e g) := h.obj _ _ _ hg hb

theorem Rel.cell {α : AM} {m : Mem} {w : World} (h : Rel P α m w) {b off : Nat} {L : Loc} (hb : α b = some L) {v : Value} (hc : m.cell ⟨b, off, none⟩ = some v) :
    ∃ v', w.cell? ⟨L.blk, L.sh + off, none⟩ = some v' ∧ VR α v v' := by
  simp only [Mem.cell] at hc
  split at hc
  · rename_i c n e g hg
    cases ho : Nat.blt off n with
    | false => rw [ho] at hc; simp at hc
    | true =>
      rw [ho, cond_true] at hc
      obtain ⟨cc, e', lo, hi, h1, h2, h3, h4, h5, h7⟩ := h.cells hb hg
      obtain ⟨u, u', a1, a2, a3⟩ := h7 off (blt_iff.1 ho)
      rw [hc] at a1
      cases a1
      exact ⟨u', by simp [World.cell?, h1, a2], a3⟩
  · cases hc

theorem heap_setCell (w : World) (a : Addr) (v : Value) (k : Nat) (h : k ≠ a.block) : (w.setCell a v).heap[k]? = w.heap[k]? := by
  simp only [World.setCell, Array.getElem?_modify]
  rw [if_neg (by omega)]

theorem Rel.store {α : AM} {m : Mem} {w : World} (h : Rel P α m w) {b off : Nat} {L : Loc} (hb : α b = some L) {c : Tr Value} {n : Nat} {e : TypeId} {g : Bool}
    (hg : m.t.get b = some (.cells c n e g)) (ho : off < n) {v v' : Value} (hv : VR α v v') :
    (∃ old, w.cell? ⟨L.blk, L.sh + off, none⟩ = some old) ∧ w.frozen? ⟨L.blk, L.sh + off, none⟩ = false ∧
      Stp P α m w α ⟨Tr.set (b + 1) m.t b (.cells (Tr.set (off + 1) c off v) n e g), m.next⟩ (w.setCell ⟨L.blk, L.sh + off, none⟩ v') := by
  obtain ⟨cc, e', lo, hi, h1, h2, h3, h4, h5, h7⟩ := h.cells hb hg
  obtain ⟨u, u', a1, a2, a3⟩ := h7 off ho
  refine ⟨⟨u', by simp [World.cell?, h1, a2]⟩, ?_, ?_⟩
  · have := h4 (L.sh + off) (by omega)
    simp only [World.frozen?, h1]
    simpa using this
  have hsz : (w.setCell ⟨L.blk, L.sh + off, none⟩ v').heap.size = w.heap.size := by simp [World.setCell]
  have hat : (w.setCell ⟨L.blk, L.sh + off, none⟩ v').heap[L.blk]? = some (.cells (cc.setIfInBounds (L.sh + off) v') e' (lo, hi)) := by
    simp [World.setCell, Array.getElem?_modify, h1]
  refine ⟨.refl _, fun _ _ => rfl, Nat.le_refl _, ⟨?_, ?_, ?_, fun b' hb' => by rw [get_put, if_neg (fun e => by have h1 := (h.dom _ _ hb).1; have h2 : m.next ≤ b' := hb'; omega)]; exact h.top b' hb'⟩, rfl, rfl, rfl, by omega, ?_, ?_, fun b' _ hn' => by rw [get_put, if_neg (fun e => by rw [e, hb, hg] at hn'; rcases hn' with hn' | hn' <;> cases hn')]⟩
  · intro b' L' hb'
    have := h.dom b' L' hb'
    exact ⟨this.1, by rw [hsz]; exact this.2⟩
  · intro b' o' L' hg' hb'
    rw [get_put] at hg'
    by_cases e1 : b' = b
    · subst e1
      rw [if_pos rfl] at hg'
      cases hg'
      rw [hb] at hb'
      cases hb'
      refine ⟨_, e', lo, hi, hat, by simpa using h2, h3, h4, h5, fun i hi' => ?_⟩
      by_cases e2 : i = off
      · subst e2
        refine ⟨v, v', by rw [Tr.get_set _ _ _ _ _ (by omega), if_pos rfl], ?_, hv⟩
        rw [Array.getElem?_setIfInBounds, if_pos rfl, if_pos (by omega)]
      · obtain ⟨x, x', b1, b2, b3⟩ := h7 i hi'
        refine ⟨x, x', by rw [Tr.get_set _ _ _ _ _ (by omega), if_neg e2]; exact b1, ?_, b3⟩
        rw [Array.getElem?_setIfInBounds, if_neg (by omega)]; exact b2
    · rw [if_neg e1] at hg'
      by_cases hl : Live o'
      · have hne : L'.blk ≠ L.blk := fun e3 => e1 (h.inj b' b o' _ L' L hg' hl hb' hg trivial hb e3)
        exact (h.obj _ _ _ hg' hb').heap (heap_setCell _ _ _ _ hne)
      · cases o' with
        | dead => trivial
        | _ => exact absurd trivial hl
  · intro b1 b2 o1 o2 L1 L2 g1 l1 x1 g2 l2 x2 he
    have key : ∀ {b' o'}, (Tr.set (b + 1) m.t b (.cells (Tr.set (off + 1) c off v) n e g)).get b' = some o' → Live o' → ∃ o'', m.t.get b' = some o'' ∧ Live o'' := by
      intro b' o' hx hl
      rw [get_put] at hx
      by_cases e1 : b' = b
      · subst e1; exact ⟨_, hg, trivial⟩
      · rw [if_neg e1] at hx; exact ⟨_, hx, hl⟩
    obtain ⟨p1, q1, r1⟩ := key g1 l1
    obtain ⟨p2, q2, r2⟩ := key g2 l2
    exact h.inj _ _ _ _ _ _ q1 r1 x1 q2 r2 x2 he
  · intro cb hcb hn
    refine heap_setCell _ _ _ _ fun e3 => hn ⟨b, _, L, hg, trivial, hb, e3.symm⟩
  · rintro cb ⟨b', o', L', hx, hl, hL, he⟩
    refine .inl ?_
    rw [get_put] at hx
    by_cases e1 : b' = b
    · subst e1; exact ⟨b', _, L', hg, trivial, hL, he⟩
    · rw [if_neg e1] at hx; exact ⟨b', o', L', hx, hl, hL, he⟩

/-- α with one name more. -/
def ext (α : AM) (b : Nat) (L : Loc) : AM := fun j => if j = b then some L else α j
theorem ext_self (α : AM) (b : Nat) (L : Loc) : ext α b L b = some L := by simp [ext]
theorem ext_ne (α : AM) {b j : Nat} (L : Loc) (h : j ≠ b) : ext α b L j = α j := by simp [ext, h]
theorem Rel.fresh {α : AM} {m : Mem} {w : World} (h : Rel P α m w) : α m.next = none := by
  cases e : α m.next with
  | none => rfl
  | some L => have := (h.dom _ _ e).1; omega
theorem Rel.le_ext {α : AM} {m : Mem} {w : World} (h : Rel P α m w) (L : Loc) : Le α (ext α m.next L) := by
  intro b L' hb
  rw [ext_ne _ _ (fun e => by subst e; rw [h.fresh] at hb; cases hb)]
  exact hb

/-- A new block. 'L' may name a block that is there already (an append in place), if no live name has it. -/
theorem Rel.new {α : AM} {m : Mem} {w w' : World} (h : Rel P α m w) {L : Loc} {o : Ob} (hs : w.heap.size ≤ w'.heap.size) (hos : w'.os = w.os) (ht : w'.tape = w.tape) (hu : w'.output = w.output)
    (hk : ∀ cb, cb < w.heap.size → cb ≠ L.blk → w'.heap[cb]? = w.heap[cb]?) (hL : L.blk < w'.heap.size) (hn : ¬ InR α m L.blk) (hr : w.heap.size ≤ L.blk)
    (ho : ObR P (ext α m.next L) L w' o) :
    Stp P α m w (ext α m.next L) ⟨Tr.set (m.next + 1) m.t m.next o, m.next + 1⟩ w' := by
  have hle := h.le_ext L
  have back : ∀ {b o' L'}, (Tr.set (m.next + 1) m.t m.next o).get b = some o' → ext α m.next L b = some L' → (b = m.next ∧ o' = o ∧ L' = L) ∨ (b ≠ m.next ∧ m.t.get b = some o' ∧ α b = some L') := by
    intro b o' L' hx hy
    rw [get_put] at hx
    by_cases e1 : b = m.next
    · subst e1; rw [if_pos rfl] at hx; rw [ext_self] at hy; cases hx; cases hy; exact .inl ⟨rfl, rfl, rfl⟩
    · rw [if_neg e1] at hx; rw [ext_ne _ _ e1] at hy; exact .inr ⟨e1, hx, hy⟩
  have lt : ∀ {b L'}, α b = some L' → L'.blk ≠ L.blk := fun hb he => by have := (h.dom _ _ hb).2; omega
  refine ⟨hle, fun b hb => ext_ne _ _ (by omega), Nat.le_succ _, ⟨?_, ?_, ?_, fun b' hb' => by rw [get_put, if_neg (fun e => by have h2 : m.next + 1 ≤ b' := hb'; omega)]; exact h.top b' (by have h2 : m.next + 1 ≤ b' := hb'; omega)⟩, hos, ht, hu, hs, ?_, ?_, fun b hb _ => by rw [get_put, if_neg (by omega)]⟩
  · intro b L' hb
    by_cases e1 : b = m.next
    · subst e1; rw [ext_self] at hb; cases hb; exact ⟨Nat.lt_succ_self _, hL⟩
    · rw [ext_ne _ _ e1] at hb
      have := h.dom _ _ hb
      exact ⟨Nat.lt_succ_of_lt this.1, Nat.lt_of_lt_of_le this.2 hs⟩
  · intro b o' L' hx hy
    rcases back hx hy with ⟨rfl, rfl, rfl⟩ | ⟨e1, hx, hy⟩
    · exact ho
    · exact ((h.obj _ _ _ hx hy).heap (hk _ (h.dom _ _ hy).2 (lt hy))).mono hle
  · intro b1 b2 o1 o2 L1 L2 g1 l1 x1 g2 l2 x2 he
    rcases back g1 x1 with ⟨p1, _, q1⟩ | ⟨e1, y1, z1⟩ <;> rcases back g2 x2 with ⟨p2, _, q2⟩ | ⟨e2, y2, z2⟩
    · exact p1.trans p2.symm
    · subst q1; exact absurd he.symm (lt z2)
    · subst q2; exact absurd he (lt z1)
    · exact h.inj _ _ _ _ _ _ y1 l1 z1 y2 l2 z2 he
  · intro cb hcb hn'
    exact hk cb hcb (by omega)
  · rintro cb ⟨b, o', L', hx, hl, hy, rfl⟩
    rcases back hx hy with ⟨rfl, rfl, rfl⟩ | ⟨e1, hx, hy⟩
    · exact .inr hr
    · exact .inl ⟨b, o', L', hx, hl, hy, rfl⟩

theorem Rel.newCells {α : AM} {m : Mem} {w : World} (h : Rel P α m w) {cs cs' : Array Value} (hv : VRs α cs cs') (e e' : TypeId) :
    Stp P α m w (ext α m.next ⟨w.heap.size, 0, cs.size⟩) ⟨Tr.set (m.next + 1) m.t m.next (.cells (ofList cs.toList) cs.size e false), m.next + 1⟩
      { w with heap := w.heap.push (.cells cs' e' (0, 0)) } := by
  refine h.new (L := ⟨w.heap.size, 0, cs.size⟩) (by simp) rfl rfl rfl (fun cb h1 h2 => by simp [Array.getElem?_push]; omega) (by simp) (fun ⟨b, o, L, _, _, h3, h4⟩ => ?_) (Nat.le_refl _) ?_
  · have := (h.dom _ _ h3).2; simp at h4; omega
  · refine ⟨cs', e', 0, 0, by simp, by simp [hv.1], by simp, fun i _ => by omega, fun _ => ⟨rfl, rfl⟩, fun i hi => ?_⟩
    refine ⟨cs[i], cs'[i]'(by rw [← hv.1]; exact hi), ?_, ?_, (hv.2 i hi (by rw [← hv.1]; exact hi)).mono (h.le_ext _)⟩
    · rw [get_ofList, if_pos (by simpa using hi)]; simp [hi]
    · rw [Array.getElem?_eq_getElem (by rw [← hv.1]; simpa using hi)]; simp

theorem Rel.newObj {α : AM} {m : Mem} {w : World} (h : Rel P α m w) {o o' : Obj} (hv : ObjR α o o') :
    Stp P α m w (ext α m.next ⟨w.heap.size, 0, 0⟩) ⟨Tr.set (m.next + 1) m.t m.next (.obj o), m.next + 1⟩ { w with heap := w.heap.push o' } := by
  refine h.new (L := ⟨w.heap.size, 0, 0⟩) (by simp) rfl rfl rfl (fun cb h1 h2 => by simp [Array.getElem?_push]; omega) (by simp) (fun ⟨b, o, L, _, _, h3, h4⟩ => ?_) (Nat.le_refl _) ?_
  · have := (h.dom _ _ h3).2; simp at h4; omega
  · exact ⟨rfl, o', by simp, hv.mono (h.le_ext _)⟩

theorem Rel.setObj {α : AM} {m : Mem} {w : World} (h : Rel P α m w) {r : Nat} {L : Loc} (hb : α r = some L) {o0 o o' : Obj} (hg : m.t.get r = some (.obj o0)) (hv : ObjR α o o') :
    (∃ x, ObjR α o0 x ∧ w.heap[L.blk]? = some x) ∧ Stp P α m w α ⟨Tr.set (r + 1) m.t r (.obj o), m.next⟩ { w with heap := w.heap.setIfInBounds L.blk o' } := by
  obtain ⟨h00, x, hx, hox⟩ := h.obj _ _ _ hg hb
  refine ⟨⟨x, hox, hx⟩, .refl _, fun _ _ => rfl, Nat.le_refl _, ⟨?_, ?_, ?_, fun b' hb' => by rw [get_put, if_neg (fun e => by have h1 := (h.dom _ _ hb).1; have h2 : m.next ≤ b' := hb'; omega)]; exact h.top b' hb'⟩, rfl, rfl, rfl, by simp, ?_, ?_, fun b' _ hn' => by rw [get_put, if_neg (fun e => by rw [e, hb, hg] at hn'; rcases hn' with hn' | hn' <;> cases hn')]⟩
  · intro b' L' hb'
    have := h.dom b' L' hb'
    exact ⟨this.1, by simpa using this.2⟩
  · intro b' o' L' hg' hb'
    rw [get_put] at hg'
    by_cases e1 : b' = r
    · subst e1
      rw [if_pos rfl] at hg'
      cases hg'
      rw [hb] at hb'
      cases hb'
      exact ⟨h00, o', by simp [(h.dom _ _ hb).2], hv⟩
    · rw [if_neg e1] at hg'
      by_cases hl : Live o'
      · have hne : L'.blk ≠ L.blk := fun e3 => e1 (h.inj b' r o' _ L' L hg' hl hb' hg trivial hb e3)
        exact (h.obj _ _ _ hg' hb').heap (by simp [Ne.symm hne])
      · cases o' with
        | dead => trivial
        | _ => exact absurd trivial hl
  · intro b1 b2 o1 o2 L1 L2 g1 l1 x1 g2 l2 x2 he
    have key : ∀ {b' o'}, (Tr.set (r + 1) m.t r (.obj o)).get b' = some o' → Live o' → ∃ o'', m.t.get b' = some o'' ∧ Live o'' := by
      intro b' o' hx hl
      rw [get_put] at hx
      by_cases e1 : b' = r
      · subst e1; exact ⟨_, hg, trivial⟩
      · rw [if_neg e1] at hx; exact ⟨_, hx, hl⟩
    obtain ⟨p1, q1, r1⟩ := key g1 l1
    obtain ⟨p2, q2, r2⟩ := key g2 l2
    exact h.inj _ _ _ _ _ _ q1 r1 x1 q2 r2 x2 he
  · intro cb hcb hn
    have hne : L.blk ≠ cb := fun e3 => hn ⟨r, _, L, hg, trivial, hb, e3⟩
    simp [hne]
  · rintro cb ⟨b', o', L', hx, hl, hL, he⟩
    refine .inl ?_
    rw [get_put] at hx
    by_cases e1 : b' = r
    · subst e1; exact ⟨b', _, L', hg, trivial, hL, he⟩
    · rw [if_neg e1] at hx; exact ⟨b', o', L', hx, hl, hL, he⟩

/-! ## Operations that do the same -/
inductive Sim (P : Program) {A B : Type} (R : AM → A → B → Prop) : AM → Sem A → Sem B → Prop where
  | pure {α : AM} {a : A} {b : B} (h : R α a b) : Sim P R α (.pure a) (.pure b)
  | load {α : AM} {md md' : Mode} {k : Value → Sem A} {k' : Value → Sem B} {b off : Nat} {L : Loc} (h : α b = some L) (hk : ∀ v v', VR α v v' → Sim P R α (k v) (k' v')) :
      Sim P R α (.load md ⟨b, off, none⟩ k) (.load md' ⟨L.blk, L.sh + off, none⟩ k')
  | store {α : AM} {md md' : Mode} {k : Sem A} {k' : Sem B} {b off : Nat} {L : Loc} {v v' : Value} (h : α b = some L) (hv : VR α v v') (hk : Sim P R α k k') :
      Sim P R α (.store md ⟨b, off, none⟩ v k) (.store md' ⟨L.blk, L.sh + off, none⟩ v' k')
  | newCells {α : AM} {cs cs' : Array Value} {e e' : TypeId} {k : Nat → Sem A} {k' : Nat → Sem B} (h : VRs α cs cs')
      (hk : ∀ (β : AM) (b : Nat) (L : Loc), Le α β → β b = some L → L.sh = 0 → L.tot = cs.size → Sim P R β (k b) (k' L.blk)) :
      Sim P R α (.new (.cells cs e (0, 0)) k) (.new (.cells cs' e' (0, 0)) k')
  | newObj {α : AM} {o o' : Obj} {k : Nat → Sem A} {k' : Nat → Sem B} (h : ObjR α o o')
      (hk : ∀ (β : AM) (b : Nat) (L : Loc), Le α β → β b = some L → L.sh = 0 → Sim P R β (k b) (k' L.blk)) : Sim P R α (.new o k) (.new o' k')
  | getObj {α : AM} {k : Obj → Sem A} {k' : Obj → Sem B} {r : Nat} {L : Loc} (h : α r = some L) (hk : ∀ o o', ObjR α o o' → Sim P R α (k o) (k' o')) :
      Sim P R α (.getObj r k) (.getObj L.blk k')
  | getBad {α : AM} {k : Obj → Sem A} {s' : Sem B} {r : Nat} {L : Loc} (h : α r = some L) (hs : L.sh ≠ 0) : Sim P R α (.getObj r k) s'
  | setObj {α : AM} {k : Sem A} {k' : Sem B} {r : Nat} {L : Loc} {o o' : Obj} (h : α r = some L) (he : ObjR α o o') (hk : Sim P R α k k') :
      Sim P R α (.setObj r o k) (.setObj L.blk o' k')
  | program {α : AM} {k : Program → Sem A} {k' : Program → Sem B} (hk : Sim P R α (k P) (k' P)) : Sim P R α (.program k) (.program k')
  | mark {α : AM} {x x' : Mark} {k : Sem A} {k' : Sem B} (hk : Sim P R α k k') : Sim P R α (.mark x k) (.mark x' k')
  | dead {α : AM} {s : Sem A} {s' : Sem B} (h : ∀ m, arun P s m = none) : Sim P R α s s'

theorem arun_bind {A C : Type} (f : A → Sem C) : ∀ (s : Sem A) (m : Mem), arun P (s.bind f) m = (arun P s m).bind fun x => arun P (f x.1) x.2 := by
  intro s
  induction s with
  | pure a => intro m; rfl
  | load md a k ih => intro m; simp only [Sem.bind, arun]; cases m.cell a with
    | none => rfl
    | some v => exact ih v m
  | store md a v k ih =>
    intro m
    simp only [Sem.bind, arun, force_eq, Tr.setK_eq, Mem.put_eq]
    cases notCell v with
    | true => rfl
    | false =>
      simp only [cond_false]
      cases a.spot with
      | some _ => rfl
      | none =>
        cases m.t.get a.block with
        | none => rfl
        | some o => cases o with
          | cells c n e g =>
            simp only []
            cases hb : Nat.blt a.off n
            · rfl
            · exact ih _
          | _ => rfl
  | new o k ih =>
    intro m
    cases o with
    | cells c e fz =>
      simp only [Sem.bind, arun, ofListK_eq, forceNat_eq, Mem.push_eq]
      split
      · exact ih _ _
      · rfl
    | map es cl => simp only [Sem.bind, arun, Mem.push_eq]; exact ih _ _
    | stringIter x p => simp only [Sem.bind, arun, Mem.push_eq]; exact ih _ _
    | _ => rfl
  | shape r k ih => intro m; rfl
  | freeze a n k ih => intro m; rfl
  | frozen a k ih => intro m; rfl
  | getObj r k ih =>
    intro m
    simp only [Sem.bind, arun]
    cases m.t.get r with
    | none => rfl
    | some o => cases o with
      | obj o => exact ih _ _
      | _ => rfl
  | setObj r o k ih =>
    intro m
    simp only [Sem.bind, arun, forceL_eq, forceNat_eq, Mem.put_eq]
    cases m.t.get r with
    | none => rfl
    | some x => cases x with
      | obj x => cases o with
        | map es' cl' => exact ih _
        | stringIter x p => exact ih _
        | _ => rfl
      | _ => rfl
  | choose q k ih => intro m; rfl
  | sys c k ih => intro m; rfl
  | program k ih => intro m; exact ih P m
  | mark x k ih => intro m; exact ih m
  | halt h => intro m; rfl

theorem Sim.bind {A B C D : Type} {R : AM → A → B → Prop} {S : AM → C → D → Prop} {α : AM} {s : Sem A} {s' : Sem B} {f : A → Sem C} {f' : B → Sem D} (h : Sim P R α s s') :
    (∀ β a b, Le α β → R β a b → Sim P S β (f a) (f' b)) → Sim P S α (s.bind f) (s'.bind f') := by
  induction h with
  | pure h => intro k; exact k _ _ _ (.refl _) h
  | load h _ ih => intro k; exact .load h fun v v' hv => ih v v' hv k
  | store h hv _ ih => intro k; exact .store h hv (ih k)
  | newCells h _ ih => intro k; exact .newCells h fun β b L h1 h2 h3 h4 => ih β b L h1 h2 h3 h4 fun γ a b h5 => k γ a b (h1.trans h5)
  | newObj h _ ih => intro k; exact .newObj h fun β b L h1 h2 h3 => ih β b L h1 h2 h3 fun γ a b h5 => k γ a b (h1.trans h5)
  | getObj h _ ih => intro k; exact .getObj h fun o o' he => ih o o' he k
  | getBad h hs => intro k; exact .getBad h hs
  | setObj h he _ ih => intro k; exact .setObj h he (ih k)
  | program _ ih => intro k; exact .program (ih k)
  | mark _ ih => intro k; exact .mark (ih k)
  | dead h => intro _; exact .dead fun m => by rw [arun_bind, h]; rfl

theorem Sim.mono {A B : Type} {R S : AM → A → B → Prop} {α : AM} {s : Sem A} {s' : Sem B} (h : Sim P R α s s') (hr : ∀ β a b, Le α β → R β a b → S β a b) : Sim P S α s s' := by
  have := h.bind (f := Sem.pure) (f' := Sem.pure) (S := S) fun β a b h1 h2 => .pure (hr β a b h1 h2)
  rwa [Sem.bind_pure', Sem.bind_pure'] at this

theorem notCell_VR {α : AM} {v v' : Value} (h : VR α v v') (hn : notCell v = false) : notCell v' = false := by
  cases h <;> first | rfl | (simp [notCell] at hn)

theorem run_store {B : Type} {md : Mode} {a : Addr} {v : Value} {k : Sem B} {w : World} (hn : notCell v = false) {old : Value} (hc : w.cell? a = some old) (hf : w.frozen? a = false) :
    (Sem.store md a v k).run P w = k.run P (w.setCell a v) := by
  cases v <;> first | (simp [notCell] at hn; done) | simp [Sem.run, hc, hf]

theorem sim_run {A B : Type} {R : AM → A → B → Prop} {α : AM} {s : Sem A} {s' : Sem B} (h : Sim P R α s s') :
    ∀ (m : Mem) (w : World) (a : A) (m1 : Mem), Rel P α m w → arun P s m = some (a, m1) → ∃ β b w1, R β a b ∧ Stp P α m w β m1 w1 ∧ s'.run P w = .ok b w1 := by
  induction h with
  | pure h =>
    intro m w a m1 hr he
    simp only [arun, Option.some.injEq, Prod.mk.injEq] at he
    obtain ⟨rfl, rfl⟩ := he
    exact ⟨_, _, w, h, .refl hr, rfl⟩
  | @load α md md' k k' b off L h _ ih =>
    intro m w a m1 hr he
    simp only [arun] at he
    cases hc : m.cell ⟨b, off, none⟩ with
    | none => rw [hc] at he; cases he
    | some v =>
      rw [hc] at he
      obtain ⟨v', hv1, hv2⟩ := hr.cell h hc
      obtain ⟨β, b, w1, r1, r2, r3⟩ := ih v v' hv2 m w a m1 hr he
      exact ⟨β, b, w1, r1, r2, by simp only [Sem.run, hv1]; exact r3⟩
  | @store α md md' k k' b off L v v' h hv _ ih =>
    intro m w a m1 hr he
    simp only [arun, force_eq, Tr.setK_eq, Mem.put_eq] at he
    cases hn : notCell v with
    | true => rw [hn] at he; cases he
    | false =>
      rw [hn, cond_false] at he
      split at he
      · rename_i c n e g hg
        cases ho : Nat.blt off n with
        | false => rw [ho] at he; cases he
        | true =>
          rw [ho, cond_true] at he
          obtain ⟨⟨old, h1⟩, h2, h3⟩ := hr.store h hg (blt_iff.1 ho) hv
          obtain ⟨β, b, w1, r1, r2, r3⟩ := ih _ _ a m1 h3.rel he
          exact ⟨β, b, w1, r1, h3.trans r2, by rw [run_store (notCell_VR hv hn) h1 h2]; exact r3⟩
      · cases he
  | @newCells α cs cs' e e' k k' h _ ih =>
    intro m w a m1 hr he
    simp only [arun, ofListK_eq, forceNat_eq, Mem.push_eq] at he
    have hs := hr.newCells h e e'
    obtain ⟨β, b, w1, r1, r2, r3⟩ := ih _ m.next ⟨w.heap.size, 0, cs.size⟩ hs.le (ext_self _ _ _) rfl rfl _ _ a m1 hs.rel he
    exact ⟨β, b, w1, r1, hs.trans r2, r3⟩
  | @newObj α o o' k k' h _ ih =>
    intro m w a m1 hr he
    have hs := hr.newObj h
    have he' : arun P (k m.next) ⟨Tr.set (m.next + 1) m.t m.next (.obj o), m.next + 1⟩ = some (a, m1) := by
      cases h <;> (simp only [arun, Mem.push_eq] at he; exact he)
    obtain ⟨β, b, w1, r1, r2, r3⟩ := ih _ m.next ⟨w.heap.size, 0, 0⟩ hs.le (ext_self _ _ _) rfl _ _ a m1 hs.rel he'
    exact ⟨β, b, w1, r1, hs.trans r2, r3⟩
  | @getObj α k k' r L h _ ih =>
    intro m w a m1 hr he
    simp only [arun] at he
    split at he
    · rename_i o hg
      obtain ⟨h0, o', h1, h2⟩ := hr.obj _ _ _ hg h
      obtain ⟨β, b, w1, r1, r2, r3⟩ := ih o o' h2 m w a m1 hr he
      exact ⟨β, b, w1, r1, r2, by cases h2 <;> (simp only [Sem.run, h1]; exact r3)⟩
    · cases he
  | @getBad α k s' r L h hs =>
    intro m w a m1 hr he
    simp only [arun] at he
    split at he
    · rename_i o hg
      obtain ⟨h0, _⟩ := hr.obj _ _ _ hg h
      exact absurd h0 hs
    · cases he
  | @setObj α k k' r L o o' h he' _ ih =>
    intro m w a m1 hr he
    simp only [arun, forceL_eq, forceNat_eq, Mem.put_eq] at he
    split at he
    · rename_i o0 hg
      obtain ⟨⟨x, hx, h1⟩, h2⟩ := hr.setObj h hg he'
      have he2 : arun P k ⟨Tr.set (r + 1) m.t r (.obj o), m.next⟩ = some (a, m1) := by
        cases he' <;> exact he
      obtain ⟨β, b, w1, r1, r2, r3⟩ := ih _ _ a m1 h2.rel he2
      exact ⟨β, b, w1, r1, h2.trans r2, by cases hx <;> (simp only [Sem.run, h1]; exact r3)⟩
    · cases he
  | program _ ih => intro m w a m1 hr he; exact ih m w a m1 hr he
  | mark _ ih => intro m w a m1 hr he; exact ih m w a m1 hr he
  | dead h => intro m w a m1 _ he; rw [h] at he; cases he

end
end Go.Den
