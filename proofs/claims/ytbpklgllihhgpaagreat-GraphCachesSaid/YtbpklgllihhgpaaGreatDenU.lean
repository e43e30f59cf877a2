/- From the evaluator's checks to the rule for a region that draws its order. -/
import Derived.Test.YtbpklgllihhgpaaGreatDenT
namespace Go.Den
variable {P : Program} {α : AM}

theorem evOp_put {self : Self} {E E' : Env} {o : Oper} {m m' : Mem} (h : evOp P self E o m = some (E', m')) : ∃ v, E' = E.put' o.dst v := by
  unfold evOp at h
  cases ho : aopG P E o m with
  | none => rw [ho] at h; cases h
  | some r =>
    obtain ⟨nx, m2⟩ := r
    rw [ho] at h
    cases nx with
    | value v => simp only [Env.put_eq, Option.some.injEq, Prod.mk.injEq] at h; exact ⟨v, h.1.symm⟩
    | skip => simp only [Env.put_eq, Option.some.injEq, Prod.mk.injEq] at h; exact ⟨undef, h.1.symm⟩
    | enter f x =>
      simp only at h
      cases hs : self f x m2 with
      | none => rw [hs] at h; cases h
      | some q => rw [hs] at h; simp only [Env.put_eq, Option.some.injEq, Prod.mk.injEq] at h; exact ⟨q.1, h.1.symm⟩
    | _ => cases h

theorem dStep_spec {self : Self} {ops : Array Oper} {o : Oper} {id : Nat} {E : Env} {m : Mem} {r : Row} (h : dStep P self ops o id E m = some r) :
    r.o = o ∧ r.E = E ∧ r.m = m ∧ Stepd P self ops o id E m r.k r.E' r.m' := by
  unfold dStep at h
  cases hw : wantE ops E o with
  | false =>
    rw [hw, cond_false, Env.put_eq] at h
    cases h
    exact ⟨rfl, rfl, rfl, .skip hw⟩
  | true =>
    rw [hw, cond_true] at h
    cases hq : quietV P E o m with
    | some v =>
      rw [hq] at h
      simp only [Env.put_eq] at h
      cases h
      exact ⟨rfl, rfl, rfl, .quiet hw hq⟩
    | none =>
      rw [hq] at h
      simp only at h
      cases hn : newV P E o id with
      | some q =>
        obtain ⟨v, ob⟩ := q
        rw [hn] at h
        simp only [Env.put_eq, Mem.put_eq] at h
        cases h
        exact ⟨rfl, rfl, rfl, .new hw hn⟩
      | none =>
        rw [hn] at h
        simp only at h
        cases he : evOp P self E o m with
        | none => rw [he] at h; cases h
        | some q =>
          obtain ⟨E', m'⟩ := q
          rw [he] at h
          simp only at h
          obtain ⟨hle, h⟩ := cond_none h
          cases h
          obtain ⟨v, hv⟩ := evOp_put he
          subst hv
          exact ⟨rfl, rfl, rfl, .eff hw he (Nat.le_of_ble_eq_true hle)⟩

def fE (rs : List Row) (x : Env) (i : Nat) : Env := match rs[i]? with | some r => r.E | none => x
def fM (rs : List Row) (x : Mem) (i : Nat) : Mem := match rs[i]? with | some r => r.m | none => x
def fK (rs : List Row) (i : Nat) : Kd := match rs[i]? with | some r => r.k | none => .skip
theorem dRun_spec {self : Self} {ops : Array Oper} : ∀ (l : List Oper) (id : Nat) (E : Env) (m : Mem) (rs : List Row) (En : Env) (Mn : Mem), dRun P self ops l id E m = some (rs, En, Mn) →
    rs.length = l.length ∧ fE rs En 0 = E ∧ fM rs Mn 0 = m ∧ fE rs En l.length = En ∧ fM rs Mn l.length = Mn ∧
    ∀ i o, l[i]? = some o → Stepd P self ops o (id + i) (fE rs En i) (fM rs Mn i) (fK rs i) (fE rs En (i + 1)) (fM rs Mn (i + 1)) ∧ ∃ r, rs[i]? = some r ∧ r.o = o ∧ r.m = fM rs Mn i ∧ r.m' = fM rs Mn (i + 1)
  | [], id, E, m, rs, En, Mn, h => by
    simp only [dRun, Option.some.injEq, Prod.mk.injEq] at h
    obtain ⟨rfl, rfl, rfl⟩ := h
    exact ⟨rfl, rfl, rfl, rfl, rfl, fun i o h => by simp at h⟩
  | o :: rest, id, E, m, rs, En, Mn, h => by
    unfold dRun at h
    cases hd : dStep P self ops o id E m with
    | none => rw [hd] at h; cases h
    | some r =>
      rw [hd] at h
      simp only at h
      cases hr : dRun P self ops rest (id + 1) r.E' r.m' with
      | none => rw [hr] at h; cases h
      | some q =>
        obtain ⟨rs', E', M'⟩ := q
        rw [hr] at h
        cases h
        obtain ⟨h1, h2, h3, h4⟩ := dStep_spec hd
        obtain ⟨g1, g2, g3, g4, g5, g6⟩ := dRun_spec rest (id + 1) r.E' r.m' rs' _ _ hr
        have s1 : ∀ i, fE (r :: rs') En (i + 1) = fE rs' En i := fun i => by simp [fE]
        have s2 : ∀ i, fM (r :: rs') Mn (i + 1) = fM rs' Mn i := fun i => by simp [fM]
        have s3 : ∀ i, fK (r :: rs') (i + 1) = fK rs' i := fun i => by simp [fK]
        have z1 : fE (r :: rs') En 0 = E := by simp [fE, h2]
        have z2 : fM (r :: rs') Mn 0 = m := by simp [fM, h3]
        refine ⟨by simp [g1], z1, z2, by rw [List.length_cons, s1]; exact g4, by rw [List.length_cons, s2]; exact g5, fun i q hq => ?_⟩
        cases i with
        | zero =>
          simp only [List.getElem?_cons_zero, Option.some.injEq] at hq
          subst hq
          rw [z1, z2, s1, s2, g2, g3]
          have hk : fK (r :: rs') 0 = r.k := by simp [fK]
          rw [hk]
          exact ⟨h4, r, rfl, h1, h3, rfl⟩
        | succ i =>
          rw [s1, s2, s3, s1, s2]
          have := g6 i q (by simpa using hq)
          rw [show id + (i + 1) = id + 1 + i from by omega]
          simpa using this

/-! ### the closure of the edges -/
theorem maskOf_spec {o : Oper} {acc : List Nat} {i : Nat} (h : (maskOf o acc).testBit i = true) : ∃ e ∈ o.after.toList, Region.binds .any e = true ∧ (e.on = i ∨ (acc.getD e.on 0).testBit i = true) := by
  unfold maskOf at h
  have : ∀ (l : List Edge) (s : Nat), (l.foldl (fun s e => bif Region.binds .any e then (s ||| 2 ^ e.on) ||| acc.getD e.on 0 else s) s).testBit i = true →
      s.testBit i = true ∨ ∃ e ∈ l, Region.binds .any e = true ∧ (e.on = i ∨ (acc.getD e.on 0).testBit i = true) := by
    intro l
    induction l with
    | nil => intro s h; exact .inl h
    | cons e l ih =>
      intro s h
      rw [List.foldl_cons] at h
      rcases ih _ h with h | ⟨e', h1, h2⟩
      · cases hb : Region.binds .any e with
        | false => rw [hb] at h; exact .inl h
        | true =>
          rw [hb, cond_true, Nat.testBit_or, Nat.testBit_or] at h
          simp only [Bool.or_eq_true] at h
          rcases h with (h | h) | h
          · exact .inl h
          · rw [Nat.testBit_two_pow] at h
            exact .inr ⟨e, by simp, hb, .inl (by simpa using h)⟩
          · exact .inr ⟨e, by simp, hb, .inr h⟩
      · exact .inr ⟨e', by simp [h1], h2⟩
  rcases this o.after.toList 0 h with h | h
  · simp at h
  · exact h
def Good (ops : Array Oper) (acc : List Nat) : Prop := ∀ j i, (acc.getD j 0).testBit i = true → Path ops j i
theorem cloL_good {ops : Array Oper} : ∀ (l : List Oper) (acc : List Nat), (∀ j, l[j]? = ops[acc.length + j]?) → Good ops acc → Good ops (cloL l acc)
  | [], acc, _, h => h
  | o :: l, acc, hl, h => by
    simp only [cloL, forceNat_eq]
    have ho : ops[acc.length]? = some o := by simpa using (hl 0).symm
    refine cloL_good l _ (fun j => ?_) fun j i hj => ?_
    · have := hl (j + 1)
      rw [List.length_append, List.length_singleton, show acc.length + 1 + j = acc.length + (j + 1) from by omega]
      simpa using this
    · by_cases e : j < acc.length
      · have e1 : (acc ++ [maskOf o acc]).getD j 0 = acc.getD j 0 := by simp [List.getD_eq_getElem?_getD, List.getElem?_append_left e]
        rw [e1] at hj
        exact h j i hj
      · by_cases e2 : j = acc.length
        · subst e2
          have e1 : (acc ++ [maskOf o acc]).getD acc.length 0 = maskOf o acc := by simp [List.getD_eq_getElem?_getD]
          rw [e1] at hj
          obtain ⟨ed, h1, h2, h3⟩ := maskOf_spec hj
          rcases h3 with rfl | h3
          · exact .one ho h1 h2
          · exact .step (.one ho h1 h2) (h _ _ h3)
        · have e1 : (acc ++ [maskOf o acc]).getD j 0 = 0 := by
            rw [List.getD_eq_getElem?_getD, List.getElem?_eq_none (by simp; omega)]; rfl
          rw [e1] at hj
          simp at hj
theorem path_of {ops : Array Oper} {j i : Nat} (h : hasPath (cloL ops.toList []) j i = true) : Path ops j i :=
  cloL_good ops.toList [] (fun j => by simp) (fun j i h => by simp at h) j i h

theorem chainOK_spec {ops : Array Oper} : ∀ (rs : List Row) (k : Nat) (last : Option Nat), chainOK (cloL ops.toList []) rs k last = true →
    (∀ j, fK rs j = .eff → ∀ e, last = some e → Path ops (k + j) e) ∧ ∀ i j, i < j → fK rs i = .eff → fK rs j = .eff → Path ops (k + j) (k + i)
  | [], _, _, _ => ⟨fun j h => by simp [fK] at h, fun i j _ h => by simp [fK] at h⟩
  | r :: rs, k, last, h => by
    have s3 : ∀ i, fK (r :: rs) (i + 1) = fK rs i := fun i => by simp [fK]
    have z3 : fK (r :: rs) 0 = r.k := by simp [fK]
    unfold chainOK at h
    have other : chainOK (cloL ops.toList []) rs (k + 1) last = true → r.k ≠ .eff → _ := fun h hne => by
      obtain ⟨h1, h2⟩ := chainOK_spec rs (k + 1) last h
      refine (⟨fun j hj e he => ?_, fun i j hij hi hj => ?_⟩ : (∀ j, fK (r :: rs) j = .eff → ∀ e, last = some e → Path ops (k + j) e) ∧ ∀ i j, i < j → fK (r :: rs) i = .eff → fK (r :: rs) j = .eff → Path ops (k + j) (k + i))
      · cases j with
        | zero => rw [z3] at hj; exact absurd hj hne
        | succ j => rw [s3] at hj; have := h1 j hj e he; rwa [show k + (j + 1) = k + 1 + j from by omega]
      · cases i with
        | zero => rw [z3] at hi; exact absurd hi hne
        | succ i => cases j with
          | zero => omega
          | succ j => rw [s3] at hi hj; have := h2 i j (by omega) hi hj; rwa [show k + (j + 1) = k + 1 + j from by omega, show k + (i + 1) = k + 1 + i from by omega]
    cases hk : r.k with
    | eff =>
      rw [hk] at h
      simp only [Bool.and_eq_true] at h
      obtain ⟨h1, h2⟩ := chainOK_spec rs (k + 1) (some k) h.2
      have hlast : ∀ e, last = some e → Path ops k e := by
        intro e he
        rw [he] at h
        exact path_of h.1
      refine ⟨fun j hj e he => ?_, fun i j hij hi hj => ?_⟩
      · cases j with
        | zero => exact hlast e he
        | succ j =>
          rw [s3] at hj
          have := h1 j hj k rfl
          rw [show k + (j + 1) = k + 1 + j from by omega]
          exact .step this (hlast e he)
      · cases j with
        | zero => omega
        | succ j =>
          rw [s3] at hj
          rw [show k + (j + 1) = k + 1 + j from by omega]
          cases i with
          | zero => exact h1 j hj k rfl
          | succ i => rw [s3] at hi; rw [show k + (i + 1) = k + 1 + i from by omega]; exact h2 i j (by omega) hi hj
    | skip => rw [hk] at h; exact other h (by rw [hk]; intro h; cases h)
    | quiet f => rw [hk] at h; exact other h (by rw [hk]; intro h; cases h)
    | new => rw [hk] at h; exact other h (by rw [hk]; intro h; cases h)

/-! ### what looks the same is the same -/
theorem sameV_eq {x y : Value} (h : sameV x y = true) : x = y := by
  unfold sameV at h
  split at h <;> first | (cases h; done) | rfl | skip
  case h_3 a b =>
    have h1 : a.data.toList = b.data.toList := by simpa using h
    have : a = b := by
      apply ByteArray.ext
      exact Array.ext' h1
    rw [this]
  all_goals simp_all
theorem sameCells_eq {c d : Tr Value} : ∀ {n : Nat}, sameCells c d n = true → ∀ i, i < n → ∃ v, c.get i = some v ∧ d.get i = some v
  | 0, _, i, hi => absurd hi (Nat.not_lt_zero _)
  | n + 1, h, i, hi => by
    unfold sameCells at h
    simp only [Bool.and_eq_true] at h
    by_cases e : i = n
    · subst e
      have h1 := h.1
      split at h1
      · rename_i x y hx hy
        rw [sameV_eq h1] at hx
        exact ⟨y, hx, hy⟩
      · cases h1
    · exact sameCells_eq h.2 i (by omega)
theorem sameEnts_eq : ∀ {x y : List MapEntry}, sameEnts x y = true → x = y
  | [], [], _ => rfl
  | [], _ :: _, h => by cases h
  | _ :: _, [], h => by cases h
  | ⟨k, v, b⟩ :: x, ⟨k', v', b'⟩ :: y, h => by
    unfold sameEnts at h
    simp only [Bool.and_eq_true, Nat.beq_eq] at h
    rw [sameV_eq h.1.1.1, sameV_eq h.1.1.2, h.1.2, sameEnts_eq h.2]
theorem sameOb_eq {a b : Option Ob} (h : sameOb a b = true) : EqOb P a b := by
  unfold sameOb at h
  split at h
  · rename_i c n e g d k e' g'
    simp only [Bool.and_eq_true, Nat.beq_eq, beq_iff_eq] at h
    obtain ⟨⟨rfl, rfl⟩, h⟩ := h
    have hc := sameCells_eq h
    refine ⟨⟨_, rfl⟩, ⟨_, rfl⟩, fun α L w => ?_⟩
    constructor
    · rintro ⟨o, ho, hob⟩
      cases ho
      obtain ⟨cc, e2, lo, hi, h1, h2, h3, h4, h5, h7⟩ := hob
      refine ⟨_, rfl, cc, e2, lo, hi, h1, h2, h3, h4, h5, fun i hi' => ?_⟩
      obtain ⟨v, v', r1, r2, r3⟩ := h7 i hi'
      obtain ⟨u, s1, s2⟩ := hc i hi'
      rw [s1] at r1; cases r1
      exact ⟨_, v', s2, r2, r3⟩
    · rintro ⟨o, ho, hob⟩
      cases ho
      obtain ⟨cc, e2, lo, hi, h1, h2, h3, h4, h5, h7⟩ := hob
      refine ⟨_, rfl, cc, e2, lo, hi, h1, h2, h3, h4, h5, fun i hi' => ?_⟩
      obtain ⟨v, v', r1, r2, r3⟩ := h7 i hi'
      obtain ⟨u, s1, s2⟩ := hc i hi'
      rw [s2] at r1; cases r1
      exact ⟨_, v', s1, r2, r3⟩
  · rename_i x c y d
    simp only [Bool.and_eq_true, Nat.beq_eq] at h
    obtain ⟨rfl, h⟩ := h
    have : x = y := by
      have := sameEnts_eq h
      exact Array.ext' this
    subst this
    exact ⟨⟨_, rfl⟩, ⟨_, rfl⟩, fun _ _ _ => Iff.rfl⟩
  · cases h
theorem stableAt_spec {ops : Array Oper} {i b : Nat} : ∀ (rs : List Row) (k : Nat), stableAt (cloL ops.toList []) i b rs k = true → ∀ e r, rs[e]? = some r → r.k = .eff → k + e ≠ i →
    (i < k + e ∧ Path ops (k + e) i) ∨ (k + e < i ∧ Path ops i (k + e)) ∨ r.m.next ≤ b ∨ EqOb P (r.m.t.get b) (r.m'.t.get b)
  | [], _, _, e, r, h, _, _ => by simp at h
  | q :: rs, k, h, e, r, hr, hk, hne => by
    unfold stableAt at h
    simp only [Bool.and_eq_true] at h
    cases e with
    | zero =>
      simp only [List.getElem?_cons_zero, Option.some.injEq] at hr
      subst hr
      have h1 := h.1
      rw [hk] at h1
      simp only [Bool.or_eq_true, Bool.and_eq_true, Nat.beq_eq, Nat.blt_eq, Nat.ble_eq] at h1
      rcases h1 with (((h1 | h1) | h1) | h1) | h1
      · omega
      · exact .inl ⟨h1.1, path_of h1.2⟩
      · exact .inr (.inl ⟨h1.1, path_of h1.2⟩)
      · exact .inr (.inr (.inl h1))
      · exact .inr (.inr (.inr (sameOb_eq h1)))
    | succ e =>
      have := stableAt_spec rs (k + 1) h.2 e r (by simpa using hr) hk (by omega)
      rw [show k + (e + 1) = k + 1 + e from by omega]
      exact this
theorem stableOK_spec {ops : Array Oper} {all : List Row} : ∀ (rs : List Row) (k : Nat), stableOK (cloL ops.toList []) all rs k = true → ∀ i r b, rs[i]? = some r → r.k = .quiet (some b) → stableAt (cloL ops.toList []) (k + i) b all 0 = true
  | [], _, _, i, r, b, h, _ => by simp at h
  | q :: rs, k, h, i, r, b, hr, hk => by
    unfold stableOK at h
    simp only [Bool.and_eq_true] at h
    cases i with
    | zero =>
      simp only [List.getElem?_cons_zero, Option.some.injEq] at hr
      subst hr
      have h1 := h.1
      rw [hk] at h1
      exact h1
    | succ i =>
      have := stableOK_spec rs (k + 1) h.2 i r b (by simpa using hr) hk
      rw [show k + (i + 1) = k + 1 + i from by omega]
      exact this
theorem statList_spec {ops : List Oper} : ∀ (l : List Oper) (k : Nat), statList ops l k = true → ∀ i o, l[i]? = some o → statOp ops o (k + i) = true
  | [], _, _, i, o, h => by simp at h
  | q :: l, k, h, i, o, ho => by
    unfold statList at h
    simp only [Bool.and_eq_true] at h
    cases i with
    | zero => simp only [List.getElem?_cons_zero, Option.some.injEq] at ho; subst ho; exact h.1
    | succ i =>
      have := statList_spec l (k + 1) h.2 i o (by simpa using ho)
      rw [show k + (i + 1) = k + 1 + i from by omega]
      exact this

theorem evDraw_sound (hz : ZeroOK P) (hn : CallOK P) (hm : P.follows .mixedOrders = true) {self : Self} (hself : SelfOK P self) {id : Nat} {ops : Array Oper} (hT : (ops.toList.all fun o => opT P o.op) = true) (hst : statList ops.toList ops.toList 0 = true) {E E1 : Env} {a : Act} {m m1 : Mem} {w : World}
    (hr : Rel P α m w) (hE : EnvR α E a.tmps) (h : evDraw P self ops E m = some (E1, m1)) {Q : Exit → Act → World → Prop} (k : ∀ a1 w1, Done P α m w a.defers E1 m1 a1 w1 → Q .normal a1 w1) :
    (Code.region id ops true).wp P Q a w := by
  unfold evDraw at h
  simp only [forceNat_eq] at h
  cases hd : dRun P self ops ops.toList m.next E ⟨m.t, m.next + ops.toList.length⟩ with
  | none => rw [hd] at h; cases h
  | some q =>
    obtain ⟨rs, En, Mn⟩ := q
    rw [hd] at h
    simp only [forceL_eq] at h
    obtain ⟨hc, h⟩ := cond_none h
    cases h
    simp only [Bool.and_eq_true] at hc
    obtain ⟨g1, g2, g3, g4, g5, g6⟩ := dRun_spec _ _ _ _ _ _ _ hd
    have hlen : ops.toList.length = ops.size := by simp
    rw [hlen] at g1 g4 g5
    have rowAt : ∀ {i}, fK rs i ≠ .skip → ∃ r o, rs[i]? = some r ∧ r.k = fK rs i ∧ ops[i]? = some o ∧ r.o = o ∧ r.m = fM rs m1 i ∧ r.m' = fM rs m1 (i + 1) := by
      intro i hi
      cases hri : rs[i]? with
      | none => rw [fK, hri] at hi; exact absurd rfl hi
      | some r =>
        have hlt : i < ops.size := by rw [← g1]; exact (List.getElem?_eq_some_iff.1 hri).1
        obtain ⟨o, ho⟩ := opAt hlt
        obtain ⟨_, r', h1, h2, h3, h4⟩ := g6 i o (by simpa using ho)
        rw [hri] at h1; cases h1
        exact ⟨r, o, rfl, by rw [fK, hri], ho, h2, h3, h4⟩
    have D : DR P self ops m.next (fE rs E1) (fM rs m1) (fK rs) :=
      { step := fun i o ho => (g6 i o (by simpa using ho)).1
        far := fun i hi => by rw [fK, List.getElem?_eq_none (by omega)]
        stat := fun i o ho => by have := statList_spec ops.toList 0 hst i o (by simpa using ho); simpa using this
        chain := fun i j hij hi hj => by have := (chainOK_spec rs 0 none hc.1).2 i j hij hi hj; simpa using this
        stable := fun i b hi e he hne => by
          obtain ⟨r, o, r1, r2, r3, r4, r5, r6⟩ := rowAt (i := i) (by rw [hi]; intro h; cases h)
          obtain ⟨q, o2, q1, q2, q3, q4, q5, q6⟩ := rowAt (i := e) (by rw [he]; intro h; cases h)
          have h1 := stableOK_spec rs 0 hc.2 i r b r1 (by rw [r2, hi])
          have h2 := stableAt_spec (P := P) rs 0 h1 e q q1 (by rw [q2, he]) (by omega)
          simp only [Nat.zero_add] at h2
          rw [q5, q6] at h2
          exact h2
        next0 := by rw [g3]; simp }
    refine wp_region_any hm ?_
    have hr' := ((Stp.refl hr).drawn (w.drawn + 1)).rel
    have h0 : m.t = (fM rs m1 0).t := by rw [g3]
    obtain ⟨p, I⟩ := Inv.start D h0 rfl hr' (a := a) (by rw [g2]; exact hE)
    refine draw_any D hz hn hself (fun i o ho => List.all_eq_true.1 hT o (by rw [← Array.getElem?_toList] at ho; exact List.mem_of_getElem? ho)) h0 rfl (fun a1 w1 hdone => ?_) ops.size _ a _ α p I ?_
    · rw [g4, g5] at hdone
      obtain ⟨β, h1, h2, h3⟩ := hdone
      exact k a1 w1 ⟨β, ((Stp.refl hr).drawn (w.drawn + 1)).trans h1, h2, h3⟩
    · unfold unl
      exact Nat.le_trans (List.countP_le_length) (by simp)
end Go.Den
