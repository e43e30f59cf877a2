/- What the operations of a region do: soundness. -/
import Derived.Test.YtbpklgllihhgpaaGreatDenM
namespace Go.Den
variable {P : Program} {α : AM}

def SelfOK (P : Program) (self : Self) : Prop := ∀ f args m v m1, self f args m = some (v, m1) → ∀ (α : AM) (w : World) (args' : Array Value), Rel P α m w → VRs α args args' →
  Calls P f args' w fun e w1 => ∃ β v', e = .returned v' ∧ VR β v v' ∧ Stp P α m w β m1 w1

theorem undef_rel : VR α undef undef := VR.refl rfl

theorem evOp_sound (hz : ZeroOK P) (hn : CallOK P) {self : Self} (hself : SelfOK P self) {E E1 : Env} {a : Act} {m m1 : Mem} {w : World} {o : Oper} (hr : Rel P α m w) (hE : ∀ x ∈ o.op.operands, opOK E x = true → VR α (ev E x) (a.eval x)) (hT : opT P o.op = true) (h : evOp P self E o m = some (E1, m1))
    {next : Act → World → Prop} {Q : Exit → Act → World → Prop}
    (k : ∀ (β : AM) (w1 : World) (v v' : Value), Stp P α m w β m1 w1 → VR β v v' → E1 = E.put' o.dst v → next (a.put o.dst v') w1) : o.wp P a w next Q := by
  unfold evOp at h
  cases ho : aopG P E o m with
  | none => rw [ho] at h; cases h
  | some r =>
    obtain ⟨nx, m2⟩ := r
    rw [ho] at h
    obtain ⟨β, nx', w1, r1, r2, r3⟩ := aopG_sound hz hn hr hE hT ho
    unfold Oper.wp
    rw [r3]
    cases r1 with
    | @value v v' hv =>
      simp only [Env.put_eq, Option.some.injEq, Prod.mk.injEq] at h
      obtain ⟨rfl, rfl⟩ := h
      exact k β w1 v v' r2 hv rfl
    | skip =>
      simp only [Env.put_eq, Option.some.injEq, Prod.mk.injEq] at h
      obtain ⟨rfl, rfl⟩ := h
      exact k β w1 undef undef r2 undef_rel rfl
    | @enter f x x' hx =>
      simp only at h
      cases hs : self f x m2 with
      | none => rw [hs] at h; cases h
      | some q =>
        obtain ⟨v, m3⟩ := q
        rw [hs] at h
        simp only [Env.put_eq, Option.some.injEq, Prod.mk.injEq] at h
        obtain ⟨rfl, rfl⟩ := h
        refine Calls.mono (hself f x m2 v m3 hs β w1 x' r2.rel hx) ?_
        rintro e w2 ⟨γ, v', rfl, hv, hst⟩
        exact k γ w2 v v' (r2.trans hst) hv rfl

theorem wantE_eq' {ops : Array Oper} {E : Env} {a : Act} (o : Oper) (hs : a.tmps.size = E.n)
    (hg : ∀ j want o' d, o.guard = some (j, want) → ops[j]? = some o' → o'.dst = some d → d < E.n → VR α (E.get d) (a.tmps.getD d undef)) : wantE ops E o = Region.wanted o (yielded ops a.tmps) := by
  unfold wantE Region.wanted
  cases hgd : o.guard with
  | none => rfl
  | some g =>
    obtain ⟨j, want⟩ := g
    simp only [yielded]
    cases hoj : ops[j]? with
    | none => rfl
    | some o' =>
      simp only [Option.bind_some]
      cases hdst : o'.dst with
      | none => rfl
      | some d =>
        simp only [Option.bind_some]
        cases hd : Nat.blt d E.n with
        | false =>
          have : ¬ d < a.tmps.size := by rw [hs]; intro e; rw [blt_iff.2 e] at hd; cases hd
          rw [Array.getElem?_eq_none (Nat.le_of_not_lt this)]; rfl
        | true =>
          have hd' := blt_iff.1 hd
          have hlt : d < a.tmps.size := by rw [hs]; exact hd'
          have hv := hg j want o' d hgd hoj hdst hd'
          rw [Array.getElem?_eq_getElem hlt]
          simp only [cond_true]
          have e : a.tmps.getD d undef = a.tmps[d] := by simp [hlt]
          rw [e] at hv
          generalize E.get d = u at *
          generalize a.tmps[d] = u' at *
          cases hv with
          | bool b => cases b <;> cases want <;> rfl
          | _ => rfl
theorem wantE_eq {ops : Array Oper} {E : Env} {a : Act} (hE : EnvR α E a.tmps) (o : Oper) : wantE ops E o = Region.wanted o (yielded ops a.tmps) :=
  wantE_eq' o hE.1 fun _ _ _ d _ _ _ hd => hE.2 d hd

/-- behind a piece of code -/
def Done (P : Program) (α : AM) (m : Mem) (w : World) (ds : List Deferred) (E1 : Env) (m1 : Mem) (a1 : Act) (w1 : World) : Prop :=
  ∃ β, Stp P α m w β m1 w1 ∧ EnvR β E1 a1.tmps ∧ a1.defers = ds

theorem put_defers (a : Act) (d : Option Tmp) (v : Value) : (a.put d v).defers = a.defers := by cases d <;> rfl

theorem evList_sound (hz : ZeroOK P) (hn : CallOK P) {self : Self} (hself : SelfOK P self) {ops : Array Oper} {Q : Exit → Act → World → Prop} : ∀ (l : List Oper) {α : AM} {E E1 : Env} {a : Act} {m m1 : Mem} {w : World},
    (l.all fun o => opT P o.op) = true → Rel P α m w → EnvR α E a.tmps → evList P self ops l E m = some (E1, m1) →
    (∀ a1 w1, Done P α m w a.defers E1 m1 a1 w1 → Q .normal a1 w1) → wpList P ops Q l a w
  | [], α, E, E1, a, m, m1, w, _, hr, hE, h, k => by
    simp only [evList, Option.some.injEq, Prod.mk.injEq] at h
    obtain ⟨rfl, rfl⟩ := h
    exact k a w ⟨α, .refl hr, hE, rfl⟩
  | o :: rest, α, E, E1, a, m, m1, w, hT, hr, hE, h, k => by
    rw [List.all_cons, Bool.and_eq_true] at hT
    unfold evList at h
    unfold wpList
    rw [← wantE_eq hE o]
    cases hw : wantE ops E o with
    | true =>
      rw [hw, cond_true] at h
      simp only [if_true]
      cases ho : evOp P self E o m with
      | none => rw [ho] at h; cases h
      | some q =>
        obtain ⟨E2, m2⟩ := q
        rw [ho] at h
        refine .inl (evOp_sound hz hn hself hr (fun x _ hx => hE.ev hx) hT.1 ho ?_)
        intro β w1 v v' hst hv he
        have hE2 : EnvR β E2 (a.put o.dst v').tmps := by rw [he]; exact (hE.mono hst.le).put _ hv
        refine evList_sound hz hn hself rest hT.2 hst.rel hE2 h ?_
        rintro a1 w2 ⟨γ, h1, h2, h3⟩
        exact k a1 w2 ⟨γ, hst.trans h1, h2, by rw [h3, put_defers]⟩
    | false =>
      rw [hw, cond_false, Env.put_eq] at h
      simp only [Bool.false_eq_true, if_false]
      refine evList_sound hz hn hself rest hT.2 hr (hE.put _ undef_rel) h ?_
      rintro a1 w2 ⟨γ, h1, h2, h3⟩
      exact k a1 w2 ⟨γ, h1, h2, by rw [h3, put_defers]⟩

/-! ## runs that only read -/
theorem rrun_arun {A : Type} {D : Nat → Bool} : ∀ (s : Sem A) (m : Mem) {a : A}, rrun P D s m = some a → arun P s m = some (a, m)
  | .pure _, _, _, h => by cases h; rfl
  | .load _ x k, m, a, h => by
    simp only [rrun] at h
    have h0 := cond_none h
    obtain ⟨-, h⟩ := h0
    simp only [arun]
    cases hc : m.cell x with
    | none => rw [hc] at h; cases h
    | some v => rw [hc] at h; exact rrun_arun (k v) m h
  | .getObj r k, m, a, h => by
    simp only [rrun] at h
    have h0 := cond_none h
    obtain ⟨-, h⟩ := h0
    simp only [arun]
    split at h
    · rename_i o ho; rw [ho]; exact rrun_arun (k o) m h
    · cases h
  | .program k, m, a, h => rrun_arun (k P) m h
  | .mark _ k, m, a, h => rrun_arun k m h
  | .store .., _, _, h => by cases h
  | .new .., _, _, h => by cases h
  | .shape .., _, _, h => by cases h
  | .freeze .., _, _, h => by cases h
  | .frozen .., _, _, h => by cases h
  | .setObj .., _, _, h => by cases h
  | .choose .., _, _, h => by cases h
  | .sys .., _, _, h => by cases h
  | .halt _, _, _, h => by cases h
theorem ObR.cell {m : Mem} {w : World} {b off : Nat} {L : Loc} (hob : ∀ o, m.t.get b = some o → ObR P α L w o) {v : Value} (hc : m.cell ⟨b, off, none⟩ = some v) :
    ∃ v', w.cell? ⟨L.blk, L.sh + off, none⟩ = some v' ∧ VR α v v' := by
  simp only [Mem.cell] at hc
  split at hc
  · rename_i c n e g hg
    cases ho : Nat.blt off n with
    | false => rw [ho] at hc; simp at hc
    | true =>
      rw [ho, cond_true] at hc
      obtain ⟨cc, e', lo, hi, h1, h2, h3, h4, h5, h7⟩ := hob _ hg
      obtain ⟨u, u', a1, a2, a3⟩ := h7 off (blt_iff.1 ho)
      rw [hc] at a1
      cases a1
      exact ⟨u', by simp [World.cell?, h1, a2], a3⟩
  · cases hc
theorem sim_read {A B : Type} {R : AM → A → B → Prop} {D : Nat → Bool} {s : Sem A} {s' : Sem B} (h : Sim P R α s s') :
    ∀ (m : Mem) (w : World) (a : A), (∀ b o L, D b = true → m.t.get b = some o → α b = some L → ObR P α L w o) → rrun P D s m = some a → ∃ b, R α a b ∧ s'.run P w = .ok b w := by
  induction h with
  | pure h => intro m w a _ he; cases he; exact ⟨_, h, rfl⟩
  | @load α md md' k k' b off L h _ ih =>
    intro m w a hD he
    simp only [rrun] at he
    have h0 := cond_none he
    clear he
    obtain ⟨hd, he⟩ := h0
    cases hc : m.cell ⟨b, off, none⟩ with
    | none => rw [hc] at he; cases he
    | some v =>
      rw [hc] at he
      obtain ⟨v', h1, h2⟩ := ObR.cell (fun o ho => hD b o L hd ho h) hc
      obtain ⟨b', r1, r2⟩ := ih v v' h2 m w a hD he
      exact ⟨b', r1, by simp only [Sem.run, h1]; exact r2⟩
  | @getObj α k k' r L h _ ih =>
    intro m w a hD he
    simp only [rrun] at he
    have h0 := cond_none he
    clear he
    obtain ⟨hd, he⟩ := h0
    split at he
    · rename_i o hg
      obtain ⟨h0, o', h1, h2⟩ := hD r _ L hd hg h
      obtain ⟨b', r1, r2⟩ := ih o o' h2 m w a hD he
      exact ⟨b', r1, by cases h2 <;> (simp only [Sem.run, h1]; exact r2)⟩
    · cases he
  | @getBad α k s' r L h hs =>
    intro m w a hD he
    simp only [rrun] at he
    have h0 := cond_none he
    clear he
    obtain ⟨hd, he⟩ := h0
    split at he
    · rename_i o hg
      obtain ⟨h0, _⟩ := hD r _ L hd hg h
      exact absurd h0 hs
    · cases he
  | program _ ih => intro m w a hD he; exact ih m w a hD he
  | mark _ ih => intro m w a hD he; exact ih m w a hD he
  | dead h => intro m w a _ he; have := rrun_arun _ _ he; rw [h m] at this; cases this
  | store => intro m w a _ he; cases he
  | newCells => intro m w a _ he; cases he
  | newObj => intro m w a _ he; cases he
  | setObj => intro m w a _ he; cases he
end Go.Den
