/- Operations that float in a region: those that read, those that lay one new block. -/
import Derived.Test.YtbpklgllihhgpaaGreatDenN
namespace Go.Den
variable {P : Program} {α : AM}

theorem prun_rrun {A : Type} {D : Nat → Bool} : ∀ (s : Sem A) (m : Mem) {a : A}, prun P s = some a → rrun P D s m = some a
  | .pure _, _, _, h => h
  | .program k, m, _, h => prun_rrun (k P) m h
  | .mark _ k, m, _, h => prun_rrun k m h
  | .load .., _, _, h => by cases h
  | .store .., _, _, h => by cases h
  | .new .., _, _, h => by cases h
  | .shape .., _, _, h => by cases h
  | .freeze .., _, _, h => by cases h
  | .frozen .., _, _, h => by cases h
  | .getObj .., _, _, h => by cases h
  | .setObj .., _, _, h => by cases h
  | .choose .., _, _, h => by cases h
  | .sys .., _, _, h => by cases h
  | .halt _, _, _, h => by cases h

theorem sim_prun {A B : Type} {R : AM → A → B → Prop} {s : Sem A} {s' : Sem B} (h : Sim P R α s s') (w : World) {a : A} (he : prun P s = some a) : ∃ b, R α a b ∧ s'.run P w = .ok b w :=
  sim_read (D := fun _ => false) h ⟨.e, 0⟩ w a (fun _ _ _ h => by cases h) (prun_rrun s _ he)

theorem alloc_at (w : World) (o : Obj) : (w.alloc o).heap[w.heap.size]? = some o := by
  show (w.heap.push o)[w.heap.size]? = some o
  simp

theorem nrun_arun {A : Type} : ∀ (s : Sem A) (m : Mem) {a : A} {ob : Ob}, nrun P s m.next = some (a, ob) → ∃ m', arun P s m = some (a, m')
  | .new o k, m, a, ob, h => by
    have key : ∀ {x : A} (m' : Mem), prun P (k m.next) = some x → arun P (k m.next) m' = some (x, m') := fun m' e => rrun_arun (D := fun _ => false) _ _ (prun_rrun _ _ e)
    cases o with
    | cells c e fz =>
      simp only [nrun] at h
      split at h
      · cases hp : prun P (k m.next) with
        | none => rw [hp] at h; cases h
        | some x =>
          rw [hp] at h
          simp only [ofListK_eq, forceNat_eq, Option.some.injEq, Prod.mk.injEq] at h
          obtain ⟨rfl, -⟩ := h
          exact ⟨_, by simp only [arun, ofListK_eq, forceNat_eq, Mem.push_eq]; exact key _ hp⟩
      · cases h
    | map es cl =>
      simp only [nrun] at h
      cases hp : prun P (k m.next) with
      | none => rw [hp] at h; cases h
      | some x =>
        rw [hp] at h
        cases h
        exact ⟨_, by simp only [arun, Mem.push_eq]; exact key _ hp⟩
    | _ => cases h
  | .program k, m, a, ob, h => nrun_arun (k P) m h
  | .mark _ k, m, a, ob, h => nrun_arun k m h
  | .pure _, _, _, _, h => by cases h
  | .load .., _, _, _, h => by cases h
  | .store .., _, _, _, h => by cases h
  | .shape .., _, _, _, h => by cases h
  | .freeze .., _, _, _, h => by cases h
  | .frozen .., _, _, _, h => by cases h
  | .getObj .., _, _, _, h => by cases h
  | .setObj .., _, _, _, h => by cases h
  | .choose .., _, _, _, h => by cases h
  | .sys .., _, _, _, h => by cases h
  | .halt _, _, _, _, h => by cases h

theorem le_ext' {nx : Nat} (h : α nx = none) (L : Loc) : Le α (ext α nx L) := by
  intro b L' hb
  rw [ext_ne _ _ (fun e => by subst e; rw [h] at hb; cases hb)]
  exact hb

theorem sim_new {A B : Type} {R : AM → A → B → Prop} {s : Sem A} {s' : Sem B} (h : Sim P R α s s') :
    ∀ (nx : Nat) (w : World) (a : A) (ob : Ob), α nx = none → nrun P s nx = some (a, ob) →
      ∃ b o' L, L.blk = w.heap.size ∧ R (ext α nx L) a b ∧ s'.run P w = .ok b (w.alloc o') ∧ ObR P (ext α nx L) L (w.alloc o') ob ∧ Live ob := by
  induction h with
  | @newCells α cs cs' e e' k k' h hk _ =>
    intro nx w a ob hn he
    simp only [nrun] at he
    cases hp : prun P (k nx) with
    | none => rw [hp] at he; cases he
    | some x =>
      rw [hp] at he
      simp only [ofListK_eq, forceNat_eq, Option.some.injEq, Prod.mk.injEq] at he
      obtain ⟨rfl, rfl⟩ := he
      have hle := le_ext' hn ⟨w.heap.size, 0, cs.size⟩
      obtain ⟨b, r1, r2⟩ := sim_prun (hk (ext α nx ⟨w.heap.size, 0, cs.size⟩) nx ⟨w.heap.size, 0, cs.size⟩ hle (ext_self _ _ _) rfl rfl) (w.alloc (.cells cs' e' (0, 0))) hp
      refine ⟨b, .cells cs' e' (0, 0), ⟨w.heap.size, 0, cs.size⟩, rfl, r1, r2, ?_, trivial⟩
      refine ⟨cs', e', 0, 0, alloc_at _ _, by simp [h.1], by simp, fun i _ => by omega, fun _ => ⟨rfl, rfl⟩, fun i hi => ?_⟩
      refine ⟨cs[i], cs'[i]'(by rw [← h.1]; exact hi), ?_, ?_, (h.2 i hi (by rw [← h.1]; exact hi)).mono hle⟩
      · rw [get_ofList, if_pos (by simpa using hi)]; simp [hi]
      · rw [Array.getElem?_eq_getElem (by rw [← h.1]; simpa using hi)]; simp
  | @newObj α o o' k k' h hk _ =>
    intro nx w a ob hn he
    have he' : ∃ x, prun P (k nx) = some x ∧ a = x ∧ ob = .obj o := by
      cases h with
      | map h cl =>
        simp only [nrun] at he
        cases hp : prun P (k nx) with
        | none => rw [hp] at he; cases he
        | some x => rw [hp] at he; cases he; exact ⟨_, rfl, rfl, rfl⟩
      | siter x p => cases he
    obtain ⟨x, hp, rfl, rfl⟩ := he'
    have hle := le_ext' hn ⟨w.heap.size, 0, 0⟩
    obtain ⟨b, r1, r2⟩ := sim_prun (hk (ext α nx ⟨w.heap.size, 0, 0⟩) nx ⟨w.heap.size, 0, 0⟩ hle (ext_self _ _ _) rfl) (w.alloc o') hp
    exact ⟨b, o', ⟨w.heap.size, 0, 0⟩, rfl, r1, r2, ⟨rfl, o', alloc_at _ _, h.mono hle⟩, trivial⟩
  | program _ ih => intro nx w a ob hn he; exact ih nx w a ob hn he
  | mark _ ih => intro nx w a ob hn he; exact ih nx w a ob hn he
  | dead h =>
    intro nx w a ob _ he
    obtain ⟨m', hm⟩ := nrun_arun _ ⟨.e, nx⟩ he
    rw [h] at hm; cases hm
  | pure => intro nx w a ob _ he; cases he
  | load => intro nx w a ob _ he; cases he
  | store => intro nx w a ob _ he; cases he
  | getObj => intro nx w a ob _ he; cases he
  | getBad => intro nx w a ob _ he; cases he
  | setObj => intro nx w a ob _ he; cases he

theorem qSim_simOK {E : Env} {o : Op} (h : qSim E o = true) : simOK E o = true := by
  cases o <;> first | exact h | rfl | (simp [qSim] at h; done) | skip
  case makeFunc fn x y => cases fn <;> first | rfl | (simp [qSim] at h)
  case call c =>
    simp only [qSim, simOK, simCall] at h ⊢
    split at h
    · rename_i hc; rw [hc]; exact h
    · cases h
theorem nSim_simOK {E : Env} {o : Op} (h : nSim o = true) : simOK E o = true := by
  cases o <;> first | exact h | rfl | (simp [nSim] at h; done) | skip
  case makeMap t r => cases r <;> first | rfl | (simp [nSim] at h)

theorem rrun_bind' {A C : Type} {D : Nat → Bool} (f : A → Sem C) : ∀ (s : Sem A) (m : Mem) {a : A}, rrun P D s m = some a → rrun P D (s.bind f) m = rrun P D (f a) m
  | .pure _, _, _, h => by cases h; rfl
  | .program k, m, _, h => rrun_bind' f (k P) m h
  | .mark _ k, m, _, h => rrun_bind' f k m h
  | .load md a k, m, _, h => by
    simp only [rrun] at h
    obtain ⟨hd, h⟩ := cond_none h
    simp only [Sem.bind, rrun, hd, cond_true]
    cases hc : m.cell a with
    | none => rw [hc] at h; cases h
    | some v => rw [hc] at h; exact rrun_bind' f (k v) m h
  | .getObj r k, m, _, h => by
    simp only [rrun] at h
    obtain ⟨hd, h⟩ := cond_none h
    simp only [Sem.bind, rrun, hd, cond_true]
    split at h
    · rename_i o ho
      exact rrun_bind' f (k o) m h
    · cases h
  | .store .., _, _, h => by cases h
  | .new .., _, _, h => by cases h
  | .shape .., _, _, h => by cases h
  | .freeze .., _, _, h => by cases h
  | .frozen .., _, _, h => by cases h
  | .setObj .., _, _, h => by cases h
  | .choose .., _, _, h => by cases h
  | .sys .., _, _, h => by cases h
  | .halt _, _, _, h => by cases h
theorem rrun_loadCellsFrom {D : Nat → Bool} {m : Mem} {b off : Nat} (hD : D b = true) : ∀ (r : List Value) (i : Nat) (acc : Array Value), (∀ j, j < r.length → m.cell ⟨b, off + i + j, none⟩ = r[j]?) →
    rrun P D (loadCellsFrom ⟨b, off, none⟩ i r.length acc) m = some (acc ++ r.toArray)
  | [], i, acc, _ => by simp [loadCellsFrom, rrun, pure]
  | v :: r, i, acc, h => by
    have h0 := h 0 (by simp)
    simp only [Nat.add_zero, List.getElem?_cons_zero] at h0
    show rrun P _ ((load (Addr.add ⟨b, off, none⟩ i)).bind _) m = _
    have e : rrun P D (load (Addr.add ⟨b, off, none⟩ i)) m = some v := by
      rw [addr_add]
      simp only [load, rrun, hD, cond_true]
      rw [h0]
    rw [rrun_bind' _ _ m e]
    rw [rrun_loadCellsFrom hD r (i + 1) (acc.push v) fun j hj => by
      have := h (j + 1) (by simpa using hj)
      rw [List.getElem?_cons_succ] at this
      rw [← this]
      congr 2; omega]
    simp
theorem rowVal_run {D : Nat → Bool} {m : Mem} {t : TypeId} {b off : Nat} {v : Value} (h : rowVal P m t b off = some v) (hD : D b = true) : rrun P D (loadVar t ⟨b, off, none⟩) m = some v := by
  unfold rowVal at h
  unfold loadVar
  split at h
  · rename_i n hn
    obtain ⟨ha, hs⟩ := aggSize_spec hn
    have ha' := prun_rrun (D := D) _ m ha
    have hs' := prun_rrun (D := D) _ m hs
    split at h
    · rename_i c N e g hb
      split at h
      · rename_i l
        obtain ⟨hN, h⟩ := cond_none h
        have hN := Nat.le_of_ble_eq_true hN
        rw [ldrop_eq, ltakeK_eq] at h
        split at h
        · rename_i hl
          cases h
          show rrun P _ ((isAgg t).bind _) m = _
          rw [rrun_bind' _ _ m ha']
          simp only [if_true]
          show rrun P _ ((sizeOf t).bind _) m = _
          rw [rrun_bind' _ _ m hs']
          have hlen : ((l.drop off).take n).length = n := by rw [List.length_take]; omega
          have := rrun_loadCellsFrom (P := P) (m := m) (b := b) (off := off) hD ((l.drop off).take n) 0 #[] (fun j hj => by
            have hj' : j < n := by rw [hlen] at hj; exact hj
            rw [get_cell (off := off + 0 + j) hb (by omega), Tr.get_L]
            rw [List.getElem?_take, if_pos hj', List.getElem?_drop]
            congr 1)
          rw [hlen] at this
          show rrun P _ ((loadCells ⟨b, off, none⟩ n).bind _) m = _
          unfold loadCells
          rw [rrun_bind' _ _ m this]
          simp [rrun, pure]
        · cases h
      · cases h
    · cases h
  · obtain ⟨ho, h⟩ := cond_none h
    have ha : prun P (isAgg t) = some false := by
      unfold isOne at ho
      split at ho
      · assumption
      · cases ho
    have ha' := prun_rrun (D := D) _ m ha
    show rrun P _ ((isAgg t).bind _) m = _
    rw [rrun_bind' _ _ m ha']
    simp only [Bool.false_eq_true, if_false, load, rrun, hD, cond_true, h]
theorem quietS_sound (hz : ZeroOK P) {E : Env} {a : Act} {m : Mem} {w : World} {o : Oper} {v : Value} (hE : ∀ x ∈ o.op.operands, opOK E x = true → VR α (ev E x) (a.eval x))
    (hD : ∀ b ob L, isFoot (foot E o.op) b = true → m.t.get b = some ob → α b = some L → ObR P α L w ob) (hT : opT P o.op = true) (h : quietS P E o m = some v) : ∃ v', VR α v v' ∧ (execOp a.eval o).run P w = .ok (.value v') w := by
  unfold quietS at h
  simp only [execF_eq] at h
  have h0 := cond_none h
  clear h
  obtain ⟨hok0, h⟩ := h0
  have hok : ∀ x ∈ o.op.operands, VR α (ev E x) (a.eval x) := fun x hx => hE x hx (List.all_eq_true.1 hok0 x (by simpa using hx))
  clear hok0
  cases hs : qSim E o.op with
  | true =>
    rw [hs, cond_true] at h
    split at h
    · rename_i v1 hv
      cases h
      obtain ⟨nx, r1, r2⟩ := sim_read (simOK_sim hz hok (qSim_simOK hs) hT) m w _ hD hv
      cases r1 with
      | @value _ v' hv' => exact ⟨v', hv', r2⟩
    · cases h
  | false =>
  rw [hs, cond_false] at h
  cases hg : grOK E o.op with
  | true =>
    rw [hg, cond_true] at h
    simp only [grOK, Bool.and_eq_true] at hg
    have hgr : ∀ x ∈ o.op.operands, a.eval x = ev E x := fun x hx => VR.eq (List.all_eq_true.1 hg.2 x (by simpa using hx)) (hok x hx)
    split at h
    case h_2 => cases h
    rename_i v1 hv
    have h0 := cond_none h
    clear h
    obtain ⟨hgv, h⟩ := h0
    cases h
    refine ⟨v, VR.refl hgv, ?_⟩
    have hc : execOp a.eval o = execOp (ev E) o := execOp_congr o (fun cs b e => by rw [e] at hg; simp at hg) hgr
    rw [hc]
    exact prun_run _ w hv
  | false =>
  rw [hg, cond_false] at h
  obtain ⟨dst, op, type, pos, after, guard⟩ := o
  have one : ∀ {x : Operand}, x ∈ op.operands → VR α (ev E x) (a.eval x) := fun hx => hok _ hx
  simp only at h
  split at h
  · rename_i t x lo hi mx
    have hl := opt_rel (E := E) (a := a) (x := lo) (by intro y e; subst e; exact one (x := y) (by simp [Op.operands]))
    have hh := opt_rel (E := E) (a := a) (x := hi) (by intro y e; subst e; exact one (x := y) (by simp [Op.operands]))
    have hm := opt_rel (E := E) (a := a) (x := mx) (by intro y e; subst e; exact one (x := y) (by simp [Op.operands]))
    obtain ⟨v', r1, r2⟩ := aSlice_sound (w := w) (one (x := x) (by simp [Op.operands])) hl hh hm h
    refine ⟨v', r1, ?_⟩
    show ((Instr.sliceAt t (a.eval x) (lo.map a.eval) (hi.map a.eval) (mx.map a.eval)) >>= fun v => pure (Next.value v)).run P w = _
    rw [Sem.run_bind, r2]; rfl
  · rename_i bop t x y yt
    unfold aNil at h
    split at h
    case h_2 => cases h
    rename_i d hd
    split at h
    case h_2 => cases h
    rename_i r hnil
    have hx := one (x := x) (by simp [Op.operands])
    have hy := one (x := y) (by simp [Op.operands])
    have hrun := nilEq_run (P := P) (w := w) (ox := x) (oy := y) hd (by
      intro hcst
      simp only [Bool.or_eq_true] at hcst
      rcases hcst with hcst | hcst
      · cases x <;> first | exact .inl ⟨_, rfl⟩ | cases hcst
      · cases y <;> first | exact .inr ⟨_, rfl⟩ | cases hcst) (nilEq_rel hx hy hnil)
    split at h
    · cases h
      refine ⟨.bool r, .bool _, ?_⟩
      show ((do eqGuard .eql t x y (a.eval x) (a.eval y); binOp .eql t (a.eval x) (a.eval y)) >>= fun v => pure (Next.value v)).run P w = _
      rw [Sem.run_bind, hrun.1]; rfl
    · cases h
      refine ⟨.bool (!r), .bool _, ?_⟩
      show ((do eqGuard .neq t x y (a.eval x) (a.eval y); binOp .neq t (a.eval x) (a.eval y)) >>= fun v => pure (Next.value v)).run P w = _
      rw [Sem.run_bind, hrun.2]; rfl
    · cases h
  · cases h

theorem quietV_sound (hz : ZeroOK P) {E : Env} {a : Act} {m : Mem} {w : World} {o : Oper} {v : Value} (hE : ∀ x ∈ o.op.operands, opOK E x = true → VR α (ev E x) (a.eval x))
    (hD : ∀ b ob L, isFoot (foot E o.op) b = true → m.t.get b = some ob → α b = some L → ObR P α L w ob) (hT : opT P o.op = true) (h : quietV P E o m = some v) : ∃ v', VR α v v' ∧ (execOp a.eval o).run P w = .ok (.value v') w := by
  obtain ⟨d, op, t, p, af, g⟩ := o
  unfold quietV at h
  simp only at h hE hD hT
  cases hf : fq P E m op with
  | none => rw [hf] at h; exact quietS_sound hz hE hD hT h
  | some u =>
    rw [hf] at h
    cases h
    have fin : (∀ x ∈ op.operands, opOK E x = true) → qSim E op = true → rrun P (isFoot (foot E op)) (execF E ⟨d, op, t, p, af, g⟩) m = some (.value v) → ∃ v', VR α v v' ∧ (execOp a.eval ⟨d, op, t, p, af, g⟩).run P w = .ok (.value v') w := by
      intro hok hs hv
      rw [execF_eq] at hv
      obtain ⟨nx, r1, r2⟩ := sim_read (simOK_sim hz (o := ⟨d, op, t, p, af, g⟩) (fun x hx => hE x hx (hok x hx)) (qSim_simOK hs) hT) m w _ hD hv
      cases r1 with
      | @value _ v' hv' => exact ⟨v', hv', r2⟩
    cases op with
    | move x =>
      obtain ⟨h1, h2⟩ := evK_some (r := v) hf
      exact fin (by simpa [Op.operands] using h1) rfl (by cases h2; rfl)
    | assign x =>
      obtain ⟨h1, h2⟩ := evK_some (r := v) hf
      exact fin (by simpa [Op.operands] using h1) rfl (by cases h2; rfl)
    | load ty x =>
      obtain ⟨h1, h2⟩ := evK_some (r := v) hf
      refine fin (by simpa [Op.operands] using h1) rfl ?_
      split at h2
      · rename_i b off hv
        have hft : isFoot (foot E (.load ty x)) b = true := by simp only [foot, hv, isFoot]; exact Nat.beq_refl b
        have := rowVal_run (D := isFoot (foot E (.load ty x))) h2 hft
        show rrun P _ (Sem.bind (Instr.loadAt ty (ev E x)) _) m = _
        rw [hv]
        have e : rrun P (isFoot (foot E (.load ty x))) (Instr.loadAt ty (.pointer (some ⟨b, off, none⟩))) m = some v := this
        rw [rrun_bind' _ _ m e]; rfl
      · cases h2
    | build ty parts =>
      simp only [fq] at hf
      split at hf
      · rename_i nx m2 hb
        obtain ⟨q1, q2⟩ := fBuild_prun hb
        split at hf
        · cases hf
          exact fin q1 rfl (prun_rrun _ m q2)
        · cases hf
      · cases hf
    | _ => cases hf

theorem newV_sound (hz : ZeroOK P) {E : Env} {a : Act} {id : Nat} {w : World} {o : Oper} {v : Value} {ob : Ob} (hE : ∀ x ∈ o.op.operands, opOK E x = true → VR α (ev E x) (a.eval x))
    (hn : α id = none) (hT : opT P o.op = true) (h : newV P E o id = some (v, ob)) :
    ∃ v' o' L, L.blk = w.heap.size ∧ VR (ext α id L) v v' ∧ (execOp a.eval o).run P w = .ok (.value v') (w.alloc o') ∧ ObR P (ext α id L) L (w.alloc o') ob ∧ Live ob := by
  unfold newV at h
  simp only [execF_eq] at h
  have h0 := cond_none h
  clear h
  obtain ⟨hok0, h⟩ := h0
  simp only [Bool.and_eq_true] at hok0
  have hok : ∀ x ∈ o.op.operands, VR α (ev E x) (a.eval x) := fun x hx => hE x hx (List.all_eq_true.1 hok0.1 x (by simpa using hx))
  split at h
  · rename_i v1 ob1 hv
    cases h
    obtain ⟨nx, o', L, r1, r2, r3, r4, r5⟩ := sim_new (simOK_sim hz hok (nSim_simOK hok0.2) hT) id w _ _ hn hv
    cases r2 with
    | @value _ v' hv' => exact ⟨v', o', L, r1, hv', r3, r4, r5⟩
  · cases h
end Go.Den
