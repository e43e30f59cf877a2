/- append in our memory, and what it answers to. -/
import Derived.Test.YtbpklgllihhgpaaGreatDenH
namespace Go.Den
noncomputable section
variable {P : Program} {α : AM}

def isSrc : TypeDesc → Bool
  | .slice _ | .string => true
  | _ => false
theorem isSrc_or {d : TypeDesc} (h : isSrc d = true) : (∃ e2, d = .slice e2) ∨ d = .string := by
  cases d <;> first | (simp [isSrc] at h; done) | exact .inl ⟨_, rfl⟩ | exact .inr rfl

/-- behind the source: 'l' cells of the old slice are kept -/
def pushG {B : Type} (m : Mem) (cells : List Value) (n : Nat) (e : TypeId) (c : Value → Mem → B) (len es : Nat) : B :=
  ofListK cells fun t => forceNat n fun n => m.push (.cells t n e true) fun m' => c (.slice (some ⟨m.next, 0, none⟩) len (G + es)) m'

def appendTo (i : TypeInfo) (e : TypeId) (s : Value) (n : Nat) (news : List Value) (m : Mem) : Option (Value × Mem) :=
  match s with
  | .slice none l c => bif Nat.beq l 0 && Nat.beq c 0 && Nat.ble (n * i.bytes) 140737488355328 && Nat.blt n 4611686018427387904 then pushG m news (n * i.size) e (fun v m => some (v, m)) n i.size else none
  | .slice (some ⟨b, off, none⟩) l c =>
    match m.t.get b with
    | some (.cells _ cn _ g) =>
      bif Nat.ble ((l + n) * i.bytes) 140737488355328 && Nat.blt (l + n) 4611686018427387904 && Nat.blt b m.next then
        match loadN m b off (l * i.size) with
        | some olds =>
          bif Nat.ble G c then
            bif Nat.beq (c - G) i.size then m.put b .dead fun m => pushG m (olds ++ news) ((l + n) * i.size) e (fun v m => some (v, m)) (l + n) i.size else none
          else bif Nat.ble (l + n) c then
            bif !g && Nat.ble (off + i.size * c) cn && Nat.blt c G then m.put b .dead fun m => pushG m (olds ++ news) ((l + n) * i.size) e (fun v m => some (v, m)) (l + n) i.size else none
          else pushG m (olds ++ news) ((l + n) * i.size) e (fun v m => some (v, m)) (l + n) i.size
        | none => none
      else none
    | _ => none
  | _ => none

def aAppend (P : Program) (ts : Array TypeId) (s x : Value) (m : Mem) : Option (Value × Mem) :=
  match ts[0]? with
  | none => none
  | some t => match ts[1]? with
    | none => none
    | some u => match P.underlying t with
      | some (.slice e) => (match P.underlying u with
        | some d => bif isSrc d then
            (match P.info? e with
            | some i => (match i.zero with
              | some z => bif Nat.beq z.cells.size i.size then
                  (match srcOf m i.size x with
                  | some (n, news) => bif news.all (fun v => !(notCell v)) then bif Nat.beq n 0 then
                      (match s with
                      | .slice _ l c => bif Nat.ble l c then some (s, m) else none
                      | _ => none)
                    else appendTo i e s n news m else none
                  | none => none)
                else none
              | none => none)
            | none => none)
          else none
        | none => none)
      | _ => none

theorem cond_none {A : Type} {b : Bool} {x : Option A} {y : A} (h : (bif b then x else none) = some y) : b = true ∧ x = some y := by
  cases b
  · cases h
  · exact ⟨rfl, h⟩

theorem F2.notCell' {l l' : List Value} (h : F2 (VR α) l l') (hn : ∀ v ∈ l, notCell v = false) : ∀ v ∈ l', notCell v = false := by
  induction h with
  | nil => intro v hv; simp at hv
  | cons h k ih =>
    intro v hv
    rcases List.mem_cons.1 hv with rfl | hv
    · exact notCell_VR h (hn _ (by simp))
    · exact ih (fun u hu => hn u (by simp [hu])) v hv

theorem aAppend_sound {ts : Array TypeId} {ty : TypeId} {s s' x x' v : Value} {m m1 : Mem} {w : World} (hr : Rel P α m w) (hs : VR α s s') (hx : VR α x x')
    (h : aAppend P ts s x m = some (v, m1)) : ∃ β v' w1, VR β v v' ∧ Stp P α m w β m1 w1 ∧ (Builtin.append_ ts ty #[s', x']).run P w = .ok v' w1 := by
  unfold aAppend at h
  cases ht0 : ts[0]? with
  | none => rw [ht0] at h; cases h
  | some t =>
  cases ht1 : ts[1]? with
  | none => rw [ht0, ht1] at h; cases h
  | some u =>
  rw [ht0, ht1] at h
  simp only [] at h
  split at h
  case h_2 => cases h
  rename_i e ht
  split at h
  case h_2 => cases h
  rename_i d hu
  have h0 := cond_none h
  clear h
  obtain ⟨hd, h⟩ := h0
  have hd := isSrc_or hd
  split at h
  case h_2 => cases h
  rename_i i hi
  split at h
  case h_2 => cases h
  rename_i z hz
  have h0 := cond_none h
  clear h
  obtain ⟨hzs, h⟩ := h0
  have hzs : z.cells.size = i.size := Nat.eq_of_beq_eq_true hzs
  split at h
  case h_2 => cases h
  rename_i n news hsrc
  have h0 := cond_none h
  clear h
  obtain ⟨hnc, h⟩ := h0
  obtain ⟨hln, news', hnews, hX⟩ := hr.src hx hsrc
  have hnc : ∀ v ∈ news', notCell v = false := hnews.notCell' fun v hv => by simpa using List.all_eq_true.1 hnc v hv
  cases hn0 : Nat.beq n 0 with
  | true =>
    rw [hn0, cond_true] at h
    have hn : n = 0 := Nat.eq_of_beq_eq_true hn0
    subst hn
    have hnil : news' = [] := by have := hX.size; simpa using this
    subst hnil
    split at h
    case h_2 => cases h
    have h0 := cond_none h
    clear h
    obtain ⟨hc, h⟩ := h0
    cases h
    refine ⟨α, s', w, hs, .refl hr, ?_⟩
    cases hs with
    | sliceN l c => exact run_append_none ht0 ht1 hu hd ht hi hX (Nat.le_of_ble_eq_true hc)
    | sliceX hb hcap => exact run_append_none ht0 ht1 hu hd ht hi hX (Nat.le_of_ble_eq_true hc)
    | sliceG hb hl htot => exact run_append_none ht0 ht1 hu hd ht hi hX hl
    | sliceE hb => exact run_append_none ht0 ht1 hu hd ht hi hX (Nat.le_refl _)
  | false =>
    rw [hn0, cond_false] at h
    have hn : 0 < n := by
      rcases Nat.eq_zero_or_pos n with e | e
      · subst e; cases hn0
      · exact e
    -- a new row
    have grow : ∀ {base : Option Addr} {l c : Nat} {olds olds' : List Value} {m0 : Mem} (hr0 : Rel P α m0 w), F2 (VR α) olds olds' → olds.length = l * i.size → c < l + n → l + n < 4611686018427387904 →
        (l + n) * i.bytes ≤ 140737488355328 → (∀ w' : World, w'.heap = w.heap → (Builtin.firstCells i.size l (.slice base l c)).run P w' = .ok olds'.toArray w') →
        pushG m0 (olds ++ news) ((l + n) * i.size) e (fun v m => some (v, m)) (l + n) i.size = some (v, m1) →
        ∃ β v' w1, VR β v v' ∧ Stp P α m0 w β m1 w1 ∧ (Builtin.append_ ts ty #[.slice base l c, x']).run P w = .ok v' w1 := by
      intro base l c olds olds' m0 hr0 ho hol hg h63 hfit hrun he
      simp only [pushG, ofListK_eq, forceNat_eq, Mem.push_eq, Option.some.injEq, Prod.mk.injEq] at he
      obtain ⟨rfl, rfl⟩ := he
      have hcap := grownCap_ge w (need := l + n) (old := c) e
      have hlen : (olds ++ news).length = (l + n) * i.size := by rw [List.length_append, hol, hln, Nat.add_mul]
      have hstp := hr0.grown (ho.append hnews) (Builtin.zeroCells z.cells (grownCap w (l + n) c e - (l + n))) e e ((l + n) * i.size) hlen
      have hrun := run_append_grows (ty := ty) ht0 ht1 hu hd ht hi hz hX hrun hg h63 hfit
      refine ⟨_, .slice (some ⟨w.heap.size, 0, none⟩) (l + n) (grownCap w (l + n) c e), _, ?_, hstp, by rw [hrun]; simp only [List.append_toArray]⟩
      have hv := VR.sliceG (α := ext α m0.next ⟨w.heap.size, 0, (olds ++ news).length + (Builtin.zeroCells z.cells (grownCap w (l + n) c e - (l + n))).size⟩) (off := 0) (len := l + n) (cap := grownCap w (l + n) c e) (es := i.size) (ext_self _ _ _) hcap
        (by rw [zeroCells_size, hlen, hzs, ← Nat.add_mul, Nat.add_sub_cancel' hcap, Nat.mul_comm]; simp)
      simpa using hv
    -- in place
    have place : ∀ {b off l cap : Nat} {L : Loc} {cc : Tr Value} {cn ce : Nat} {g : Bool} {olds : List Value}, α b = some L → m.t.get b = some (.cells cc cn ce g) → b < m.next → Den.loadN m b off (l * i.size) = some olds →
        l + n ≤ cap → L.sh + off + i.size * cap ≤ L.tot →
        pushG ⟨Tr.set (b + 1) m.t b .dead, m.next⟩ (olds ++ news) ((l + n) * i.size) e (fun v m => some (v, m)) (l + n) i.size = some (v, m1) →
        ∃ β v' w1, VR β v v' ∧ Stp P α m w β m1 w1 ∧ (Builtin.append_ ts ty #[.slice (some ⟨L.blk, L.sh + off, none⟩) l cap, x']).run P w = .ok v' w1 := by
      intro b off l cap L cc cn ce g olds hb hg hbn hol hcap htot he
      simp only [pushG, ofListK_eq, forceNat_eq, Mem.push_eq, Option.some.injEq, Prod.mk.injEq] at he
      obtain ⟨rfl, rfl⟩ := he
      obtain ⟨olds', ho1, ho2, ho3, ho4⟩ := hr.loadN hb _ _ _ hol
      obtain ⟨cells, e', lo, hi', h1, h2, h3, h4, h5, h7⟩ := hr.cells hb hg
      have hlen : (olds ++ news).length = (l + n) * i.size := by rw [List.length_append, ho1, hln, Nat.add_mul]
      have hmul : i.size * cap = cap * i.size := Nat.mul_comm _ _
      have hmul2 : (l + n) * i.size ≤ cap * i.size := Nat.mul_le_mul_right _ hcap
      have hadd : (l + n) * i.size = l * i.size + n * i.size := Nat.add_mul _ _ _
      have hn2 : news'.length = n * i.size := hX.size
      · obtain ⟨w', cells', r1, r2, r3, r4, r5, r6, r7, r8, r9⟩ := run_storeCells (P := P) news' w (L.sh + off + l * i.size) 0 cells h1 hnc (by omega) (by rw [h2]; exact h4)
        have hstp := hr.inplace (L' := ⟨L.blk, L.sh + off, L.tot⟩) (o := .cells (ofList (olds ++ news)) ((l + n) * i.size) e true) hb hg trivial hbn r5 r2 r3 r4 r6 rfl
          ⟨cells', e', lo, hi', r7, by rw [r8]; exact h2, by show L.sh + off + (l + n) * i.size ≤ L.tot; omega, h4, (fun hf => by cases hf), fun j hj => by
            obtain ⟨a, b', g1, g2, g3⟩ := (ho3.append hnews).get j (by omega)
            refine ⟨a, b', ?_, ?_, g3.mono (hr.le_ext _)⟩
            · rw [get_ofList, if_pos (by omega)]; simpa using g1
            · show cells'[L.sh + off + j]? = some b'
              rw [r9]
              by_cases hj2 : j < l * i.size
              · rw [if_neg (by omega)]
                rw [List.getElem?_append_left (by omega)] at g2
                have := ho4 j b' g2
                simpa [World.cell?, h1] using this
              · rw [if_pos (by omega)]
                rw [List.getElem?_append_right (by omega), ho2] at g2
                rw [show L.sh + off + j - (L.sh + off + l * i.size + 0) = j - l * i.size from by omega]; exact g2⟩
        refine ⟨_, _, w', ?_, hstp, run_append_room (ty := ty) ht0 ht1 hu hd ht hi hX hcap (by rw [addr_add]; exact r1)⟩
        have hv := VR.sliceG (α := ext α m.next ⟨L.blk, L.sh + off, L.tot⟩) (off := 0) (len := l + n) (cap := cap) (es := i.size) (ext_self _ _ _) hcap (by simpa using htot)
        simpa using hv
    cases hs with
    | sliceN l c =>
      simp only [appendTo] at h
      cases hc : (Nat.beq l 0 && Nat.beq c 0 && Nat.ble (n * i.bytes) 140737488355328 && Nat.blt n 4611686018427387904) with
      | false => rw [hc] at h; cases h
      | true =>
        rw [hc, cond_true] at h
        simp only [Bool.and_eq_true, Nat.beq_eq, Nat.ble_eq, Nat.blt_eq] at hc
        obtain ⟨⟨⟨rfl, rfl⟩, h1⟩, h2⟩ := hc
        refine grow (base := none) (l := 0) (c := 0) (olds := []) (olds' := []) hr .nil (by simp) (by omega) (by omega) (by simpa using h1) (fun w' _ => by simp [run_firstCells_none]) ?_
        simpa using h
    | @sliceX b off l cap L hb hcap =>
      simp only [appendTo, Mem.put_eq] at h
      split at h
      case h_2 => cases h
      rename_i cc cn ce g hg
      cases hc : (Nat.ble ((l + n) * i.bytes) 140737488355328 && Nat.blt (l + n) 4611686018427387904 && Nat.blt b m.next) with
      | false => rw [hc] at h; cases h
      | true =>
      rw [hc, cond_true] at h
      simp only [Bool.and_eq_true, Nat.ble_eq, Nat.blt_eq] at hc
      obtain ⟨⟨c1, c2⟩, c3⟩ := hc
      split at h
      case h_2 => cases h
      rename_i olds hol
      obtain ⟨olds', ho1, ho2, ho3, ho4⟩ := hr.loadN hb _ _ _ hol
      have hG : Nat.ble G cap = false := by
        cases hh : Nat.ble G cap with
        | false => rfl
        | true => have := Nat.le_of_ble_eq_true hh; omega
      rw [hG, cond_false] at h
      cases hle : Nat.ble (l + n) cap with
      | true =>
        rw [hle, cond_true] at h
        cases hc2 : (!g && Nat.ble (off + i.size * cap) cn && Nat.blt cap G) with
        | false => rw [hc2] at h; cases h
        | true =>
          rw [hc2, cond_true] at h
          simp only [Bool.and_eq_true, Nat.ble_eq, Bool.not_eq_true'] at hc2
          obtain ⟨⟨rfl, c4⟩, -⟩ := hc2
          obtain ⟨cells, e', lo, hi', h1, h2, h3, h4, h5, h7⟩ := hr.cells hb hg
          have h5' := h5 rfl
          exact place hb hg c3 hol (Nat.le_of_ble_eq_true hle) (by omega) h
      | false =>
        rw [hle, cond_false] at h
        have hg2 : cap < l + n := by
          rcases Nat.lt_or_ge cap (l + n) with h' | h'
          · exact h'
          · have : Nat.ble (l + n) cap = true := by rw [Nat.ble_eq]; exact h'
            rw [this] at hle; cases hle
        exact grow (base := some _) hr ho3 ho1 hg2 c2 c1 (fun w' hw => run_firstCells_some w' i.size _ _ _ _ olds' ho2 fun j v hv => by rw [addr_add, cell_heap hw]; exact ho4 j v hv) h
    | @sliceG b off l cap es L hb hl htot =>
      simp only [appendTo, Mem.put_eq] at h
      split at h
      case h_2 => cases h
      rename_i cc cn ce g hg
      cases hc : (Nat.ble ((l + n) * i.bytes) 140737488355328 && Nat.blt (l + n) 4611686018427387904 && Nat.blt b m.next) with
      | false => rw [hc] at h; cases h
      | true =>
      rw [hc, cond_true] at h
      simp only [Bool.and_eq_true, Nat.ble_eq, Nat.blt_eq] at hc
      obtain ⟨⟨c1, c2⟩, c3⟩ := hc
      split at h
      case h_2 => cases h
      rename_i olds hol
      obtain ⟨olds', ho1, ho2, ho3, ho4⟩ := hr.loadN hb _ _ _ hol
      have hG : Nat.ble G (G + es) = true := by rw [Nat.ble_eq]; omega
      rw [hG, cond_true, Nat.add_sub_cancel_left] at h
      cases hc2 : (Nat.beq es i.size) with
      | false => rw [hc2] at h; cases h
      | true =>
        rw [hc2, cond_true] at h
        obtain rfl : es = i.size := Nat.eq_of_beq_eq_true hc2
        by_cases hle : l + n ≤ cap
        · exact place hb hg c3 hol hle htot h
        · have hk := hr.kill hb hg
          obtain ⟨β, v', w1, r1, r2, r3⟩ := grow (base := some ⟨L.blk, L.sh + off, none⟩) (l := l) (c := cap) hk.rel ho3 ho1 (by omega) c2 c1 (fun w' hw => run_firstCells_some w' i.size _ _ _ _ olds' ho2 fun j v hv => by rw [addr_add, cell_heap hw]; exact ho4 j v hv) h
          exact ⟨β, v', w1, r1, hk.trans r2, r3⟩
    | @sliceE b off es a L hb =>
      simp only [appendTo, Mem.put_eq] at h
      split at h
      case h_2 => cases h
      rename_i cc cn ce g hg
      cases hc : (Nat.ble ((0 + n) * i.bytes) 140737488355328 && Nat.blt (0 + n) 4611686018427387904 && Nat.blt b m.next) with
      | false => rw [hc] at h; cases h
      | true =>
      rw [hc, cond_true] at h
      simp only [Bool.and_eq_true, Nat.ble_eq, Nat.blt_eq] at hc
      obtain ⟨⟨c1, c2⟩, c3⟩ := hc
      simp only [Nat.zero_mul, Den.loadN] at h
      have hG : Nat.ble G (G + es) = true := by rw [Nat.ble_eq]; omega
      rw [hG, cond_true, Nat.add_sub_cancel_left] at h
      cases hc2 : (Nat.beq es i.size) with
      | false => rw [hc2] at h; cases h
      | true =>
        rw [hc2, cond_true] at h
        have hk := hr.kill hb hg
        obtain ⟨β, v', w1, r1, r2, r3⟩ := grow (base := some a) (l := 0) (c := 0) (olds := []) (olds' := []) hk.rel .nil (by simp) (by omega) c2 c1 (fun w' _ => run_firstCells_some w' i.size 0 _ 0 0 [] (by simp) (by simp)) h
        exact ⟨β, v', w1, r1, hk.trans r2, r3⟩
    | _ => simp [appendTo] at h
end
end Go.Den
