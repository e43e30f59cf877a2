/- One operation in our memory, whole. -/
import Derived.Test.YtbpklgllihhgpaaGreatDenJ
namespace Go.Den
noncomputable section
variable {P : Program} {α : AM}

/-! ### a slice expression at a capacity that the tape gave -/
def bnd : Option Value → Nat → Option Nat
  | none, d => some d
  | some (.int _ (.ofNat n)), _ => some n
  | _, _ => none
def aSlice (P : Program) (t : TypeId) (x : Value) (lo hi mx : Option Value) : Option Value :=
  match x, mx with
  | .slice (some ⟨b, off, none⟩) len cap, none => bif Nat.ble G cap then
      match P.underlying t with
      | some (.slice elem) => match P.info? elem with
        | some i => bif Nat.beq (cap - G) i.size then
            match bnd lo 0 with
            | some l => match bnd hi len with
              | some h => bif Nat.ble l h && Nat.ble h len then some (.slice (some ⟨b, off + l * i.size, none⟩) (h - l) cap) else none
              | none => none
            | none => none
          else none
        | none => none
      | _ => none
    else none
  | _, _ => none

theorem run_sliceBound {v : Value} {n y : Nat} {c : BoundsCode} {w : World} {k : IntKind} (hv : v = .int k n) (h : n ≤ y) : (Instr.sliceBound v y c).run P w = .ok n w := by
  subst hv
  simp [Instr.sliceBound, asIntOf, h]
theorem run_sliceBounds {len cap l h : Nat} {lo hi : Option Value} {w : World} (hl : (lo = none ∧ l = 0) ∨ ∃ k, lo = some (.int k l)) (hh : (hi = none ∧ h = len) ∨ ∃ k, hi = some (.int k h)) (h1 : l ≤ h) (h2 : h ≤ cap) :
    (Instr.sliceBounds true len cap lo hi none).run P w = .ok (l, h, cap) w := by
  unfold Instr.sliceBounds
  rcases hh with ⟨rfl, rfl⟩ | ⟨k, rfl⟩ <;> rcases hl with ⟨rfl, rfl⟩ | ⟨k', rfl⟩ <;> simp [run_sliceBound (P := P) rfl h2, run_sliceBound (P := P) rfl h1]

theorem bnd_rel {x x' : Option Value} {d n : Nat} (h : OR α x x') (e : bnd x d = some n) : (x' = none ∧ n = d) ∨ ∃ k, x' = some (.int k n) := by
  rcases h with ⟨rfl, rfl⟩ | ⟨v, v', rfl, rfl, hv⟩
  · cases e; exact .inl ⟨rfl, rfl⟩
  · cases hv with
    | int k i =>
      cases i with
      | ofNat j => cases e; exact .inr ⟨k, rfl⟩
      | negSucc j => cases e
    | _ => cases e

theorem aSlice_sound {t : TypeId} {x x' v : Value} {lo lo' hi hi' mx mx' : Option Value} {w : World} (hx : VR α x x') (hl : OR α lo lo') (hh : OR α hi hi') (hm : OR α mx mx')
    (h : aSlice P t x lo hi mx = some v) : ∃ v', VR α v v' ∧ (Instr.sliceAt t x' lo' hi' mx').run P w = .ok v' w := by
  unfold aSlice at h
  split at h
  case h_2 => cases h
  rename_i b off len cap
  have h0 := cond_none h
  clear h
  obtain ⟨hG, h⟩ := h0
  have hG := Nat.le_of_ble_eq_true hG
  have hmx : mx' = none := by rcases hm with ⟨_, rfl⟩ | ⟨_, _, h, _⟩ <;> first | rfl | cases h
  subst hmx
  split at h
  case h_2 => cases h
  rename_i elem ht
  split at h
  case h_2 => cases h
  rename_i i hi2
  have h0 := cond_none h
  clear h
  obtain ⟨hes, h⟩ := h0
  have hes := Nat.eq_of_beq_eq_true hes
  split at h
  case h_2 => cases h
  rename_i l hbl
  split at h
  case h_2 => cases h
  rename_i u hbh
  have h0 := cond_none h
  clear h
  obtain ⟨hc, h⟩ := h0
  cases h
  simp only [Bool.and_eq_true, Nat.ble_eq] at hc
  obtain ⟨h1, h2⟩ := hc
  have hL := bnd_rel hl hbl
  have hU := bnd_rel hh hbh
  have run : ∀ (a : Addr) (cap' : Nat), len ≤ cap' → (Instr.sliceAt t (.slice (some a) len cap') lo' hi' none).run P w = .ok (.slice (some (if cap' = l then a else a.add (l * i.size))) (u - l) (cap' - l)) w := by
    intro a cap' hcap
    have hb := run_sliceBounds (P := P) (w := w) (len := len) (cap := cap') hL hU h1 (by omega)
    unfold Instr.sliceAt
    simp only [Sem.run_bind, run_underlying ht, Result.andThen]
    unfold Instr.slice
    simp [run_underlying ht, hb, sizeOf, typeInfo, hi2]
    split <;> rfl
  cases hx with
  | sliceX hb hc => exact absurd hc (by omega)
  | @sliceG _ _ _ cap' es L hb hlc htot =>
    have hes' : es = i.size := by omega
    subst hes'
    refine ⟨_, ?_, run ⟨L.blk, L.sh + off, none⟩ cap' hlc⟩
    by_cases e : cap' = l
    · have e1 : u - l = 0 := by omega
      have e2 : cap' - l = 0 := by omega
      rw [if_pos e, e1, e2]
      exact .sliceE hb
    · rw [if_neg e, addr_add]
      have hv := VR.sliceG (α := α) (off := off + l * i.size) (len := u - l) (cap := cap' - l) (es := i.size) hb (by omega) (by
        have e3 : l * i.size + i.size * (cap' - l) = i.size * cap' := by rw [Nat.mul_comm l, ← Nat.mul_add, Nat.add_sub_cancel' (by omega)]
        omega)
      rw [show L.sh + (off + l * i.size) = L.sh + off + l * i.size from by omega] at hv
      exact hv
  | @sliceE _ _ es a L hb =>
    have e1 : l = 0 := by omega
    have e2 : u = 0 := by omega
    subst e1 e2
    refine ⟨_, ?_, run a 0 (Nat.le_refl _)⟩
    simp only [if_true]
    exact .sliceE hb

/-! ### bytes and strings -/
def toBytes : List Value → Option (List UInt8)
  | [] => some []
  | .int .u8 n :: l => match toBytes l with
    | some bs => some (UInt8.ofNat n.toNat :: bs)
    | none => none
  | _ => none
theorem toBytes_rel : ∀ {l l' : List Value} {bs : List UInt8}, F2 (VR α) l l' → toBytes l = some bs → ∃ ns : List Int, l' = ns.map (Value.int .u8) ∧ bs = ns.map fun n => UInt8.ofNat n.toNat
  | _, _, _, .nil, h => by cases h; exact ⟨[], rfl, rfl⟩
  | _, _, bs, @F2.cons _ _ _ a b l l' hab k, h => by
    unfold toBytes at h
    split at h
    · cases ‹_ :: _ = []›
    · rename_i n l2 e
      cases e
      split at h
      · rename_i bs2 hb
        cases h
        obtain ⟨ns, rfl, rfl⟩ := toBytes_rel k hb
        cases hab
        exact ⟨n :: ns, rfl, rfl⟩
      · cases h
    · cases h
theorem foldl_push : ∀ (ns : List Int) (s : ByteArray), ns.foldl (fun r n => r.push (UInt8.ofNat n.toNat)) s = ⟨s.data ++ (ns.map fun n => UInt8.ofNat n.toNat).toArray⟩
  | [], s => by simp
  | n :: ns, s => by
    rw [List.foldl_cons, foldl_push ns]
    congr 1
    apply Array.ext'
    simp [ByteArray.push]
def aConv (P : Program) (s d : TypeId) (x : Value) (m : Mem) : Option (Value × Mem) :=
  match P.underlying s, P.underlying d with
  | some (.slice e), some .string => (match P.underlying e with
    | some (.int .u8) => (match x with
      | .slice (some ⟨b, off, none⟩) len _ => match loadN m b off len with
        | some l => match toBytes l with
          | some bs => some (.string ⟨⟨bs⟩⟩, m)
          | none => none
        | none => none
      | _ => none)
    | _ => none)
  | _, _ => none
theorem aConv_sound {s d : TypeId} {x x' v : Value} {m m1 : Mem} {w : World} (hr : Rel P α m w) (hx : VR α x x') (h : aConv P s d x m = some (v, m1)) :
    ∃ v', VR α v v' ∧ m1 = m ∧ (convert s d x').run P w = .ok v' w := by
  unfold aConv at h
  split at h
  case h_2 => cases h
  rename_i e hs hd
  split at h
  case h_2 => cases h
  rename_i he
  split at h
  case h_2 => cases h
  rename_i b off len cap
  split at h
  case h_2 => cases h
  rename_i l hl
  split at h
  case h_2 => cases h
  rename_i bs hb
  cases h
  have fin : ∀ (a : Addr) (cap' : Nat) (l' : List Value), F2 (VR α) l l' → (loadCells a len).run P w = .ok l'.toArray w → (convert s d (.slice (some a) len cap')).run P w = .ok (.string ⟨⟨bs⟩⟩) w := by
    intro a cap' l' hf hrun
    obtain ⟨ns, rfl, rfl⟩ := toBytes_rel hf hb
    rw [run_convert_bytes_string w s d e _ _ _ hs he hd, run_bytesToString w a len cap' ns hrun, foldl_push]
    simp
  have cells : ∀ {L : Loc}, α b = some L → ∃ l', F2 (VR α) l l' ∧ (loadCells ⟨L.blk, L.sh + off, none⟩ len).run P w = .ok l'.toArray w := by
    intro L hL
    obtain ⟨l', h1, h2, h3, h4⟩ := hr.loadN hL _ _ _ hl
    refine ⟨l', h3, ?_⟩
    have := run_firstCells_some (P := P) w 1 len ⟨L.blk, L.sh + off, none⟩ len 0 l' (by omega) fun j v hv => by rw [addr_add]; exact h4 j v hv
    simpa [Builtin.firstCells] using this
  cases hx with
  | sliceX hL hc => obtain ⟨l', h1, h2⟩ := cells hL; exact ⟨_, .string _, rfl, fin _ _ l' h1 h2⟩
  | sliceG hL hc ht => obtain ⟨l', h1, h2⟩ := cells hL; exact ⟨_, .string _, rfl, fin _ _ l' h1 h2⟩
  | sliceE hL =>
    simp only [Den.loadN] at hl
    cases hl
    exact ⟨_, .string _, rfl, fin _ _ [] .nil rfl⟩
end
end Go.Den
