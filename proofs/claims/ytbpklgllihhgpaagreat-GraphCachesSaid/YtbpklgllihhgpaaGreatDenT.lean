/- A region that draws its order: the rule. -/
import Derived.Test.YtbpklgllihhgpaaGreatDenS
namespace Go.Den
variable {P : Program}

def unl (n : Nat) (S : Array Bool) : Nat := (List.range n).countP fun i => !(S.getD i false)
theorem unl_set {n : Nat} {S : Array Bool} {i : Nat} (hi : i < n) (hS : i < S.size) (h : S.getD i false = false) : unl n (S.setIfInBounds i true) + 1 = unl n S := by
  unfold unl
  have : ∀ (l : List Nat), l.Nodup → (l.countP fun j => !((S.setIfInBounds i true).getD j false)) + (if i ∈ l then 1 else 0) = l.countP fun j => !(S.getD j false) := by
    intro l
    induction l with
    | nil => intro _; rfl
    | cons x l ih =>
      intro hn
      have hn' := List.nodup_cons.1 hn
      have := ih hn'.2
      rw [List.countP_cons, List.countP_cons]
      by_cases e : x = i
      · subst e
        have h1 : (S.setIfInBounds x true).getD x false = true := by rw [set_eq S x x hS, if_pos rfl]
        rw [if_neg hn'.1] at this
        simp only [h1, h, List.mem_cons, true_or, if_true]
        simpa using this
      · have h1 : (S.setIfInBounds i true).getD x false = S.getD x false := by rw [set_eq S i x hS, if_neg e]
        have h2 : (i ∈ x :: l) ↔ (i ∈ l) := by simp [Ne.symm e]
        rw [h1]
        simp only [h2]
        omega
  have := this (List.range n) List.nodup_range
  rw [if_pos (List.mem_range.2 hi)] at this
  exact this
theorem unl_zero {n : Nat} {S : Array Bool} (h : unl n S = 0) : ∀ i, i < n → S.getD i false = true := by
  intro i hi
  unfold unl at h
  rw [List.countP_eq_zero] at h
  have := h i (List.mem_range.2 hi)
  simpa using this


section
variable {self : Self} {ops : Array Oper} {base : Nat} {E : Nat → Env} {M : Nat → Mem} {kd : Nat → Kd} (D : DR P self ops base E M kd)
  {α0 : AM} {w0 : World} {ds : List Deferred}
include D

theorem draw_any (hz : ZeroOK P) (hn : CallOK P) (hself : SelfOK P self) (hT : ∀ (i : Nat) (o : Oper), ops[i]? = some o → opT P o.op = true) {m0 : Mem} (h0 : m0.t = (M 0).t) (hb : m0.next = base) {Q : Exit → Act → World → Prop}
    (k : ∀ a1 w1, Done P α0 m0 w0 ds (E ops.size) (M ops.size) a1 w1 → Q .normal a1 w1) :
    ∀ (fuel : Nat) (S : Array Bool) (a : Act) (w : World) (α : AM) (p : Nat), Inv P ops base E M kd α0 w0 ds S a w α p → unl ops.size S ≤ fuel → wpAny P .any ops Q fuel S a w := by
  intro fuel
  induction fuel with
  | zero =>
    intro S a w α p I hu
    have hall := unl_zero (Nat.le_zero.1 hu)
    refine ⟨?_, k a w (I.end D hall h0 hb)⟩
    cases hr : Region.ready .any ops S with
    | nil => rfl
    | cons i l =>
      have hm : i ∈ Region.ready .any ops S := by rw [hr]; simp
      rw [mem_ready] at hm
      obtain ⟨h1, o, ho, _⟩ := hm
      have hi := (Array.getElem?_eq_some_iff.1 ho).1
      have := hall i hi
      have hiS : i < S.size := by rw [I.size]; exact hi
      simp [hiS] at h1 this
      rw [h1] at this
      cases this
  | succ fuel ih =>
    intro S a w α p I hu
    refine ⟨fun hr => k a w (I.end D (I.all D hr) h0 hb), fun i hi => ?_⟩
    rw [mem_ready] at hi
    obtain ⟨h1, o, ho, hrd⟩ := hi
    have hin := (Array.getElem?_eq_some_iff.1 ho).1
    have hiS : i < S.size := by rw [I.size]; exact hin
    have hni : S.getD i false = false := by simpa [hiS] using h1
    have hrd' : ∀ e ∈ o.after.toList, Region.binds .any e = true → S.getD e.on false = true := fun e he => hrd e (by simpa using he)
    have hun : unl ops.size (S.setIfInBounds i true) ≤ fuel := by have := unl_set hin hiS hni; omega
    have hops := I.operands D ho hni hrd'
    have hwant := I.want D ho hni hrd'
    have hst := D.step i o ho
    unfold wpOp
    rw [ho]
    simp only []
    rw [← hwant]
    generalize hk : kd i = kk at hst
    generalize hEE : E (i + 1) = ee at hst
    generalize hMM : M (i + 1) = mm at hst
    cases hst with
    | skip hw =>
      rw [hw]
      simp only [Bool.false_eq_true, if_false]
      exact ih _ _ _ _ p (I.quiet D ho hrd' (by rw [hk]; intro h; cases h) (by rw [hk]; intro h; cases h) hEE undef_rel) hun
    | @quiet v hw hq =>
      rw [hw]
      simp only [if_true]
      refine .inl ?_
      obtain ⟨v', r1, r2⟩ := quietV_sound hz hops (fun b ob L hf hb' hL => by
        cases hft : foot (E i) o.op with
        | none => rw [hft] at hf; cases hf
        | some c =>
          rw [hft] at hf hk
          have : b = c := Nat.eq_of_beq_eq_true hf
          subst this
          exact I.foot D ho hni hrd' hk hb' hL) (w := w) (hT _ _ ho) hq
      unfold Oper.wp
      rw [r2]
      exact ih _ _ _ _ p (I.quiet D ho hrd' (by rw [hk]; intro h; cases h) (by rw [hk]; intro h; cases h) hEE r1) hun
    | @new v ob hw hq =>
      rw [hw]
      simp only [if_true]
      refine .inl ?_
      obtain ⟨v', o', L, r1, r2, r3, r4, r5⟩ := newV_sound hz hops (I.gone i hk hni) (w := w) (hT _ _ ho) hq
      unfold Oper.wp
      rw [r3]
      refine ih _ _ _ _ p (I.new D ho hni hrd' hk hEE ?_ r1 r2 r4 r5) hun
      rw [hMM]
      dsimp only
      rw [get_put, if_pos rfl]
    | @eff v m' hw hq hle =>
      rw [hw]
      simp only [if_true]
      refine .inl ?_
      have hip : i = p := by
        rcases Nat.lt_trichotomy i p with h | h | h
        · rw [I.p1 i h hk] at hni; cases hni
        · exact h
        · exfalso
          have hp : kd p = .eff := I.p2 (by omega)
          have hpath := D.chain p i h hp hk
          -- the edges of i have been done
          have before : ∀ {x y}, Path ops x y → x = i → S.getD y false = true := by
            intro x y hh
            induction hh with
            | one ho' he hbd =>
              rintro rfl
              rw [ho] at ho'
              cases ho'
              exact hrd' _ he hbd
            | step h1 h2 ih1 ih2 => exact fun hx => I.down.path h2 (ih1 hx)
          have := before hpath rfl
          rw [I.p3 p (Nat.le_refl _) hp] at this
          cases this
      subst hip
      refine evOp_sound hz hn hself I.rel hops (hT _ _ ho) hq ?_
      intro β w1 v1 v1' r1 r2 r3
      obtain ⟨p', I'⟩ := I.eff D ho hrd' (v := v1) (by rw [hEE]; exact r3) r2 (by rw [hMM]; exact r1)
      exact ih _ _ _ _ p' I' hun

/-- at the start nothing has been done -/
theorem Inv.start {m0 : Mem} (h0 : m0.t = (M 0).t) (hb : m0.next = base) (hr : Rel P α0 m0 w0) {a : Act} (hE : EnvR α0 (E 0) a.tmps) :
    ∃ p, Inv P ops base E M kd α0 w0 a.defers (Array.replicate ops.size false) a w0 α0 p := by
  obtain ⟨p, q1, q2, q3, q4⟩ := next_eff kd ops.size ops.size 0 (by omega)
  have hS : ∀ j, (Array.replicate ops.size false).getD j false = false := by
    intro j
    by_cases h : j < ops.size <;> simp [h]
  obtain ⟨f1, f2⟩ := D.floats (Nat.zero_le p) q2 fun k _ b => q3 k (Nat.zero_le _) b
  have hnw : ∀ {j}, kd j = .new → j < ops.size := fun {j} h => D.lt (by rw [h]; intro h; cases h)
  have none0 : ∀ {b}, base ≤ b → (M 0).t.get b = none := fun {b} h => by rw [← h0]; exact hr.top b (by omega)
  have old : ∀ {b}, b < base → (M p).t.get b = (M 0).t.get b := fun {b} h => f2 b fun k _ _ _ => by omega
  have hdom : ∀ {b L}, α0 b = some L → b < base := fun h => by have := (hr.dom _ _ h).1; omega
  have none1 : ∀ {b}, base ≤ b → α0 b = none := fun {b} h => by
    cases e : α0 b with
    | none => rfl
    | some L => have := hdom e; omega
  have pb : ∀ {b ob L}, Pres base M kd (Array.replicate ops.size false) p b ob → α0 b = some L → m0.t.get b = some ob := by
    rintro b ob L (h | ⟨j, _, _, h, _⟩) hL
    · rw [h0, ← old (hdom hL)]; exact h
    · rw [hS] at h; cases h
  refine ⟨p,
    { size := by simp
      down := fun j q _ h => by simp only [hS] at h; cases h
      p1 := fun e he hk => absurd hk (q3 e (Nat.zero_le _) he)
      ple := q2
      p2 := q4
      p3 := fun e _ _ => hS e
      tsize := hE.1
      env := fun t ht => by
        have e : valS ops E (fun i => (Array.replicate ops.size false).getD i false) t = (E 0).get t := by
          unfold valS
          cases dstIdx ops.toList t 0 with
          | none => rfl
          | some j => simp only [hS, cond_false]
        rw [e]
        exact hE.2 t ht
      defers := rfl
      dom := fun b L h => ⟨by have := hdom h; rw [f1, D.next0]; omega, (hr.dom _ _ h).2⟩
      obj := fun b ob L hb' hL => hr.obj b ob L (pb (.inl hb') hL) hL
      inj := fun b b' o o' L L' x1 x2 x3 y1 y2 y3 e => hr.inj b b' o o' L L' (pb x1 x3) x2 x3 (pb y1 y3) y2 y3 e
      top := fun i hi b hb' => by
        obtain ⟨g1, g2⟩ := D.floats (Nat.zero_le i) (by omega) fun k _ b => q3 k (Nat.zero_le _) (by omega)
        rw [g1, D.next0] at hb'
        rw [g2 b fun k _ _ c e => by have := hnw c; omega]
        exact none0 (by omega)
      fl := fun j _ _ h => by rw [hS] at h; cases h
      later := fun i hi j hij hj => by
        obtain ⟨g1, g2⟩ := D.floats (Nat.zero_le i) (by omega) fun k _ b => q3 k (Nat.zero_le _) (by omega)
        rw [g2 _ fun k _ _ c e => by omega]
        exact none0 (by omega)
      gone := fun j _ _ => none1 (by omega)
      ghost := fun j hj hk _ => (D.floats (i := j + 1) (j := p) (by omega) q2 fun k _ b => q3 k (Nat.zero_le _) b).2 _ fun k a b c => by omega
      le0 := .refl _
      old0 := fun _ _ => rfl
      os := rfl, tape := rfl, output := rfl
      size0 := Nat.le_refl _
      frame := fun _ _ _ => rfl
      rng := fun b ob L x1 x2 x3 => by
        have := pb x1 x3
        rw [h0] at this
        exact .inl ⟨b, ob, L, this, x2, x3, rfl⟩
      ghost0 := fun b hb' _ => old hb' }⟩
end
end Go.Den
