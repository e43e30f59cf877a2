/- One operation in our memory: all of them. -/
import Derived.Test.YtbpklgllihhgpaaGreatDenK
namespace Go.Den
noncomputable section
variable {P : Program} {α : AM}

def nilEq (d : TypeDesc) (cst : Bool) (x y : Value) : Option Bool :=
  match d, x, y with
  | .pointer _, .pointer none, .pointer b => some b.isNone
  | .pointer _, .pointer (some _), .pointer none => some false
  | .slice _, .slice none _ _, .slice b _ _ => some b.isNone
  | .slice _, .slice (some _) _ _, .slice none _ _ => some false
  | .map _ _, .map none, .map b => some b.isNone
  | .map _ _, .map (some _), .map none => some false
  | .func _ _ _, .nilFunc, .nilFunc => some true
  | .func _ _ _, .nilFunc, .func _ _ _ => some false
  | .func _ _ _, .func _ _ _, .nilFunc => some false
  | .interface _, .nilIface, .iface _ _ => some false
  | .interface _, .iface _ _, .nilIface => some false
  | .interface _, .nilIface, .nilIface => bif cst then some true else none
  | _, _, _ => none
theorem nilEq_rel {d : TypeDesc} {cst : Bool} {x x' y y' : Value} {r : Bool} (hx : VR α x x') (hy : VR α y y') (h : nilEq d cst x y = some r) : nilEq d cst x' y' = some r := by
  cases d <;> cases hx <;> first | (simp [nilEq] at h; done) | (cases hy <;> first | exact h | (simp [nilEq] at h; done))
theorem equal_eq (t : TypeId) (x y : Value) : Op.equal t x y = Op.equalIn (9999 + 1) t x y := rfl
theorem eqIn_run {d : TypeDesc} {cst : Bool} {x y : Value} {r : Bool} {t : TypeId} {n : Nat} {w : World} (ht : P.underlying t = some d) (h : nilEq d cst x y = some r) : (Op.equalIn (n + 1) t x y).run P w = .ok r w := by
  unfold Op.equalIn
  rw [Sem.run_bind, run_underlying ht]
  unfold nilEq at h
  split at h
  case h_12 =>
    cases cst with
    | false => cases h
    | true => cases h; rfl
  case h_13 => cases h
  all_goals (cases h; rfl)
theorem guard_run {d : TypeDesc} {cst : Bool} {op : BinOp} {x y : Value} {r : Bool} {t : TypeId} {ox oy : Operand} {w : World} (hop : op = .eql ∨ op = .neq) (hc : cst = true → (∃ v, ox = .const v) ∨ ∃ v, oy = .const v) (h : nilEq d cst x y = some r) :
    (eqGuard op t ox oy x y).run P w = .ok () w := by
  unfold nilEq at h
  split at h
  case h_12 =>
    cases cst with
    | false => cases h
    | true =>
      rcases hop with rfl | rfl <;> rcases hc rfl with ⟨v, rfl⟩ | ⟨v, rfl⟩ <;> first | rfl | (cases ox <;> rfl)
  case h_13 => cases h
  all_goals (rcases hop with rfl | rfl <;> rfl)
theorem binOp_run {d : TypeDesc} {cst : Bool} {x y : Value} {r : Bool} {t : TypeId} {w : World} (ht : P.underlying t = some d) (h : nilEq d cst x y = some r) :
    (binOp .eql t x y).run P w = .ok (.bool r) w ∧ (binOp .neq t x y).run P w = .ok (.bool (!r)) w := by
  have he : (Op.equal t x y).run P w = .ok r w := eqIn_run (n := 9999) ht h
  have e1 : binOp .eql t x y = (do pure (.bool (← Op.equal t x y))) ∧ binOp .neq t x y = (do pure (.bool (!(← Op.equal t x y)))) := by
    unfold nilEq at h
    split at h
    case h_13 => cases h
    all_goals exact ⟨rfl, rfl⟩
  rw [e1.1, e1.2]
  constructor <;> (rw [Sem.run_bind, he]; rfl)
theorem nilEq_run {d : TypeDesc} {cst : Bool} {x y : Value} {r : Bool} {t : TypeId} {ox oy : Operand} {w : World} (ht : P.underlying t = some d) (hc : cst = true → (∃ v, ox = .const v) ∨ ∃ v, oy = .const v) (h : nilEq d cst x y = some r) :
    (do eqGuard .eql t ox oy x y; binOp .eql t x y).run P w = .ok (.bool r) w ∧ (do eqGuard .neq t ox oy x y; binOp .neq t x y).run P w = .ok (.bool (!r)) w := by
  have g1 := guard_run (P := P) (w := w) (op := .eql) (t := t) (.inl rfl) hc h
  have g2 := guard_run (P := P) (w := w) (op := .neq) (t := t) (.inr rfl) hc h
  have hb := binOp_run (w := w) ht h
  constructor
  · rw [Sem.run_bind, g1]; exact hb.1
  · rw [Sem.run_bind, g2]; exact hb.2

def aNil (P : Program) (op : BinOp) (t : TypeId) (cst : Bool) (x y : Value) : Option Value :=
  match P.underlying t with
  | some d => match nilEq d cst x y with
    | some r => match op with
      | .eql => some (.bool r)
      | .neq => some (.bool (!r))
      | _ => none
    | none => none
  | none => none
def isConst : Operand → Bool
  | .const _ => true
  | _ => false

def grOK (E : Env) (o : Op) : Bool :=
  (match o with
  | .binOp .. | .unOp .. | .convert .. => true
  | .call c => (match c.callee with | .builtin .max | .builtin .min => true | _ => false)
  | _ => false) && o.operands.toList.all fun x => ground (ev E x)

/-! ## one operation, each by a text of its own: what the kernel lays open at a step is small -/
def exV (s : Sem Value) : Sem Next := do pure (.value (← s))
def exU (s : Sem Unit) : Sem Next := do s; pure .skip
def exPick (E : Env) (c a b : Operand) : Sem Next := do pure (.value (if ← asBool (ev E c) then ev E a else ev E b))
def exAlloc (t : TypeId) : Sem Next := exV (Instr.alloc t true (.tuple #[]))
def exBox (E : Env) (t : TypeId) (x : Operand) : Sem Next := exV (Instr.box t (ev E x))
def exParts (E : Env) (parts : Array (Nat × Operand)) : Array (Nat × Value) := parts.map fun (i, x) => (i, ev E x)
def exBuild (E : Env) (t : TypeId) (parts : Array (Nat × Operand)) : Sem Next := exV (Instr.build t (exParts E parts))
def exBuildSlice (E : Env) (t : TypeId) (len : Nat) (parts : Array (Nat × Operand)) : Sem Next := exV (Instr.buildSlice t len (exParts E parts))
def exLoad (E : Env) (t : TypeId) (a : Operand) : Sem Next := exV (Instr.loadAt t (ev E a))
def exStore (E : Env) (t : TypeId) (a x : Operand) : Sem Next := exU (Instr.storeAt t (ev E a) (ev E x))
def exBin (E : Env) (op : BinOp) (t : TypeId) (x y : Operand) : Sem Next := exV (do eqGuard op t x y (ev E x) (ev E y); binOp op t (ev E x) (ev E y))
def exFieldAddr (E : Env) (t : TypeId) (x : Operand) (f : Nat) : Sem Next := exV (Instr.fieldAt t (ev E x) f)
def exField (E : Env) (t : TypeId) (x : Operand) (f : Nat) : Sem Next := exV (Instr.field t (ev E x) f)
def exIndexAddr (E : Env) (t : TypeId) (x i : Operand) : Sem Next := exV (Instr.indexAt t (ev E x) (ev E i))
def exIndex (E : Env) (t : TypeId) (x i : Operand) : Sem Next := exV (Instr.index t (ev E x) (ev E i))
def exExtract (E : Env) (x : Operand) (i : Nat) : Sem Next := exV (Instr.extract (ev E x) i)
def execF (E : Env) (o : Oper) : Sem Next :=
  match o.op with
  | .move x => .pure (.value (ev E x))
  | .assign x => .pure (.value (ev E x))
  | .pick c a b => exPick E c a b
  | .alloc t => exAlloc t
  | .box t x => exBox E t x
  | .build t parts => exBuild E t parts
  | .buildSlice t len parts => exBuildSlice E t len parts
  | .load t a => exLoad E t a
  | .store t a x => exStore E t a x
  | .binOp op t x y _ => exBin E op t x y
  | .fieldAddr t x f => exFieldAddr E t x f
  | .field t x f => exField E t x f
  | .indexAddr t x i => exIndexAddr E t x i
  | .index t x i => exIndex E t x i
  | .extract x i => exExtract E x i
  | _ => execOp (ev E) o
theorem execF_eq (E : Env) (o : Oper) : execF E o = execOp (ev E) o := by
  obtain ⟨dst, op, ty, pos, af, g⟩ := o
  cases op <;> rfl

def aopX (P : Program) (E : Env) (o : Oper) (m : Mem) : Option (Next × Mem) :=
  match o.op with
  | .call c => (match c.callee with
    | .builtin .append => (match c.args with
      | ⟨[x, y]⟩ => (match aAppend P c.argTypes (ev E x) (ev E y) m with
        | some (v, m) => some (.value v, m)
        | none => none)
      | _ => none)
    | .value f => (match ev E f with
      | .func (.func g) first cap => (match P.funcs[g]? with
        | some fn => bif fn.body.isSome then some (.enter g (first ++ c.args.map (ev E) ++ cap), m) else none
        | none => none)
      | _ => none)
    | _ => none)
  | .slice t x lo hi mx => (match aSlice P t (ev E x) (lo.map (ev E)) (hi.map (ev E)) (mx.map (ev E)) with
    | some v => some (.value v, m)
    | none => none)
  | .convert s d x => (match aConv P s d (ev E x) m with
    | some (v, m) => some (.value v, m)
    | none => none)
  | .binOp op t x y _ => (match aNil P op t (isConst x || isConst y) (ev E x) (ev E y) with
    | some v => some (.value v, m)
    | none => none)
  | _ => none

def aop (P : Program) (E : Env) (o : Oper) (m : Mem) : Option (Next × Mem) :=
  bif o.op.operands.toList.all (opOK E) then
    bif simOK E o.op then arun P (execF E o) m
    else bif grOK E o.op then
      match prun P (execF E o) with
      | some (.value v) => bif ground v then some (.value v, m) else none
      | _ => none
    else aopX P E o m
  else none

/-- No function is one that the model takes for runtime.NumGoroutine. -/
def CallOK (P : Program) : Prop := ∀ (f : FuncId) (fn : Func), P.funcs[f]? = some fn → (fn.name == "runtime.NumGoroutine") = false

theorem aop_sound (hz : ZeroOK P) (hn : CallOK P) {E : Env} {a : Act} {m m1 : Mem} {w : World} {o : Oper} {nx : Next} (hr : Rel P α m w) (hE : ∀ x ∈ o.op.operands, opOK E x = true → VR α (ev E x) (a.eval x)) (hT : opT P o.op = true) (h : aop P E o m = some (nx, m1)) :
    ∃ β nx' w1, NR β nx nx' ∧ Stp P α m w β m1 w1 ∧ (execOp a.eval o).run P w = .ok nx' w1 := by
  unfold aop at h
  rw [execF_eq] at h
  have h0 := cond_none h
  clear h
  obtain ⟨hok0, h⟩ := h0
  have hok : ∀ x ∈ o.op.operands, opOK E x = true := fun x hx => List.all_eq_true.1 hok0 x (by simpa using hx)
  clear hok0
  cases hs : simOK E o.op with
  | true =>
    rw [hs, cond_true] at h
    exact sim_run (simOK_sim hz (fun x hx => hE x hx (hok x hx)) hs hT) m w nx m1 hr h
  | false =>
  rw [hs, cond_false] at h
  cases hg : grOK E o.op with
  | true =>
    rw [hg, cond_true] at h
    simp only [grOK, Bool.and_eq_true] at hg
    have hgr : ∀ x ∈ o.op.operands, a.eval x = ev E x := fun x hx => VR.eq (List.all_eq_true.1 hg.2 x (by simpa using hx)) (hE x hx (hok x hx))
    split at h
    case h_2 => cases h
    rename_i v hv
    have h0 := cond_none h
    clear h
    obtain ⟨hgv, h⟩ := h0
    cases h
    refine ⟨α, .value v, w, .value (VR.refl hgv), .refl hr, ?_⟩
    have hc : execOp a.eval o = execOp (ev E) o := execOp_congr o (fun cs b e => by rw [e] at hg; simp at hg) hgr
    rw [hc]
    exact prun_run _ w hv
  | false =>
  rw [hg, cond_false] at h
  obtain ⟨dst, op, type, pos, after, guard⟩ := o
  have one : ∀ {x : Operand}, x ∈ op.operands → VR α (ev E x) (a.eval x) := fun hx => hE _ hx (hok _ hx)
  unfold aopX at h
  split at h
  · rename_i c hc
    simp only at hc
    subst hc
    obtain ⟨callee, args, ats⟩ := c
    simp only at h
    split at h
    · split at h
      · rename_i x y
        split at h
        · rename_i v m' hap
          cases h
          obtain ⟨β, v', w1, r1, r2, r3⟩ := aAppend_sound (ty := type) hr (one (x := x) (by simp [Op.operands, Call.operands])) (one (x := y) (by simp [Op.operands, Call.operands])) hap
          refine ⟨β, .value v', w1, .value r1, r2, ?_⟩
          rw [execOp_builtin, map_two a.eval]
          show ((Builtin.append_ ats type #[a.eval x, a.eval y]) >>= fun v => pure (Next.value v)).run P w = _
          rw [Sem.run_bind, r3]; rfl
        · cases h
      · cases h
    · rename_i f
      split at h
      · rename_i g first cap hf
        split at h
        · rename_i fn hfn
          have h0 := cond_none h
          clear h
          obtain ⟨hb, h⟩ := h0
          cases h
          have hv := one (x := f) (by simp [Op.operands, Call.operands])
          have hargs := args_rel (E := E) (a := a) (xs := args) fun x hx => one (x := x) (by simp [Op.operands, Call.operands, hx])
          rw [hf] at hv
          generalize hu : a.eval f = u at hv
          cases hv with
          | @func _ first first' cap cap' hx hy h1 h2 =>
            refine ⟨α, .enter g (first' ++ args.map a.eval ++ cap'), w, .enter ((VRs.append ⟨hx, h1⟩ hargs).append ⟨hy, h2⟩), .refl hr, ?_⟩
            have hbn : ¬ fn.body = none := by intro hh; rw [hh] at hb; cases hb
            have hname : ¬ fn.name = "runtime.NumGoroutine" := by have := hn g fn hfn; simpa using this
            simp [execOp, resolve, Deferred.ofValue, hu, invoke, callFunc, program, Sem.run, hfn, hname, hbn]
        · cases h
      · cases h
    · cases h
  · rename_i t x lo hi mx hc
    simp only at hc
    subst hc
    split at h
    · rename_i v hv
      cases h
      have hl := opt_rel (E := E) (a := a) (x := lo) (by intro y e; subst e; exact one (x := y) (by simp [Op.operands]))
      have hh := opt_rel (E := E) (a := a) (x := hi) (by intro y e; subst e; exact one (x := y) (by simp [Op.operands]))
      have hm := opt_rel (E := E) (a := a) (x := mx) (by intro y e; subst e; exact one (x := y) (by simp [Op.operands]))
      obtain ⟨v', r1, r2⟩ := aSlice_sound (w := w) (one (x := x) (by simp [Op.operands])) hl hh hm hv
      refine ⟨α, .value v', w, .value r1, .refl hr, ?_⟩
      show ((Instr.sliceAt t (a.eval x) (lo.map a.eval) (hi.map a.eval) (mx.map a.eval)) >>= fun v => pure (Next.value v)).run P w = _
      rw [Sem.run_bind, r2]; rfl
    · cases h
  · rename_i s d x hc
    simp only at hc
    subst hc
    split at h
    · rename_i v m' hv
      cases h
      obtain ⟨v', r1, rfl, r2⟩ := aConv_sound hr (one (x := x) (by simp [Op.operands])) hv
      refine ⟨α, .value v', w, .value r1, .refl hr, ?_⟩
      show ((convert s d (a.eval x)) >>= fun v => pure (Next.value v)).run P w = _
      rw [Sem.run_bind, r2]; rfl
    · cases h
  · rename_i bop t x y yt hc
    simp only at hc
    subst hc
    split at h
    · rename_i v hv
      cases h
      unfold aNil at hv
      split at hv
      case h_2 => cases hv
      rename_i d hd
      split at hv
      case h_2 => cases hv
      rename_i r hnil
      have hx := one (x := x) (by simp [Op.operands])
      have hy := one (x := y) (by simp [Op.operands])
      have hrun := nilEq_run (P := P) (w := w) (ox := x) (oy := y) hd (by
        intro hcst
        simp only [Bool.or_eq_true] at hcst
        rcases hcst with hcst | hcst
        · cases x <;> first | exact .inl ⟨_, rfl⟩ | cases hcst
        · cases y <;> first | exact .inr ⟨_, rfl⟩ | cases hcst) (nilEq_rel hx hy hnil)
      split at hv
      · cases hv
        refine ⟨α, .value (.bool r), w, .value (.bool _), .refl hr, ?_⟩
        show ((do eqGuard .eql t x y (a.eval x) (a.eval y); binOp .eql t (a.eval x) (a.eval y)) >>= fun v => pure (Next.value v)).run P w = _
        rw [Sem.run_bind, hrun.1]; rfl
      · cases hv
        refine ⟨α, .value (.bool (!r)), w, .value (.bool _), .refl hr, ?_⟩
        show ((do eqGuard .neq t x y (a.eval x) (a.eval y); binOp .neq t (a.eval x) (a.eval y)) >>= fun v => pure (Next.value v)).run P w = _
        rw [Sem.run_bind, hrun.2]; rfl
      · cases hv
    · cases h
  · cases h
end
end Go.Den
