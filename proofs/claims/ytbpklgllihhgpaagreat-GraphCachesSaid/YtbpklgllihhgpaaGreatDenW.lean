/- Fast roads: an operation done without the model's text where that is plain. Each gives what 'aop' gives. -/
import Derived.Test.YtbpklgllihhgpaaGreatDenL
namespace Go.Den
noncomputable section
variable {P : Program}

def evK {R : Type} (E : Env) (x : Operand) (c : Value → Option R) : Option R :=
  match x with
  | .tmp t => (match E with | ⟨tr, n⟩ => Bool.casesOn (Nat.blt t n) none (match tr.get t with | some v => c v | none => c undef))
  | .const v => Bool.casesOn (ground v) none (c v)
  | _ => none
theorem evK_some {R : Type} {E : Env} {x : Operand} {c : Value → Option R} {r : R} (h : evK E x c = some r) : opOK E x = true ∧ c (ev E x) = some r := by
  obtain ⟨tr, n⟩ := E
  cases x with
  | tmp t =>
    unfold evK at h
    simp only at h
    unfold opOK ev Env.get
    simp only
    cases hb : Nat.blt t n with
    | false => rw [hb] at h; cases h
    | true =>
      rw [hb] at h
      refine ⟨rfl, ?_⟩
      simp only at h
      cases hg : tr.get t with
      | none => rw [hg] at h; exact h
      | some v => rw [hg] at h; exact h
  | const v =>
    unfold evK at h
    simp only at h
    unfold opOK ev
    simp only
    cases hb : ground v with
    | false => rw [hb] at h; cases h
    | true => rw [hb] at h; exact ⟨rfl, h⟩
  | _ => cases h

abbrev Res := Option (Next × Mem)
def fMove (E : Env) (m : Mem) (x : Operand) : Res := evK E x fun v => some (.value v, m)
def fPick (E : Env) (m : Mem) (c a b : Operand) : Res := evK E c fun vc => evK E a fun va => evK E b fun vb => match vc with
  | .bool k => some (.value (Bool.casesOn k vb va), m)
  | _ => none
def fExtract (E : Env) (m : Mem) (x : Operand) (i : Nat) : Res := evK E x fun v => match v with
  | .tuple ⟨l⟩ => (match l[i]? with | some u => some (.value u, m) | none => none)
  | _ => none
/-- the place of a field that takes room -/
def fieldOf (P : Program) (s : TypeId) (f : Nat) : Option Nat :=
  match P.underlying s with
  | some (.struct fields) => (match fields[f]? with
    | some x => (match prun P (sizeOf x.type) with
      | some (_ + 1) => some x.offset
      | _ => none)
    | none => none)
  | _ => none
def fFieldAddr (P : Program) (E : Env) (m : Mem) (s : TypeId) (x : Operand) (f : Nat) : Res := evK E x fun v => match v with
  | .pointer (some ⟨b, off, none⟩) => (match fieldOf P s f with
    | some k => some (.value (.pointer (some ⟨b, off + k, none⟩)), m)
    | none => none)
  | _ => none
def isOne (P : Program) (t : TypeId) : Bool := match prun P (isAgg t) with | some false => true | _ => false
def fLoad (P : Program) (E : Env) (m : Mem) (t : TypeId) (x : Operand) : Res := evK E x fun v => match v with
  | .pointer (some a) => Bool.casesOn (isOne P t) none (match m.cell a with | some u => some (.value u, m) | none => none)
  | _ => none
def fCmp (m : Mem) (op : BinOp) (x y : Int) : Res :=
  match op with
  | .eql => some (.value (.bool (x == y)), m)
  | .neq => some (.value (.bool (x != y)), m)
  | .lss => some (.value (.bool (x < y)), m)
  | .leq => some (.value (.bool (x ≤ y)), m)
  | .gtr => some (.value (.bool (x > y)), m)
  | .geq => some (.value (.bool (x ≥ y)), m)
  | _ => none
def fBin (E : Env) (m : Mem) (op : BinOp) (x y : Operand) : Res := evK E x fun u => evK E y fun v => match u with
  | .int k a => (match v with
    | .int l b => Bool.casesOn (Nat.beq k.ctorIdx l.ctorIdx) none (match op with
      | .add => some (.value (.int k (k.wrap (a + b))), m)
      | .sub => some (.value (.int k (k.wrap (a - b))), m)
      | .mul => some (.value (.int k (k.wrap (a * b))), m)
      | op => fCmp m op a b)
    | _ => none)
  | _ => none
def fop (P : Program) (E : Env) (m : Mem) (o : Op) : Res :=
  match o with
  | .move x => fMove E m x
  | .assign x => fMove E m x
  | .pick c a b => fPick E m c a b
  | .extract x i => fExtract E m x i
  | .fieldAddr s x f => fFieldAddr P E m s x f
  | .load t x => fLoad P E m t x
  | .binOp op _ x y _ => fBin E m op x y
  | _ => none
def aopF (P : Program) (E : Env) (o : Oper) (m : Mem) : Res :=
  match o with
  | ⟨d, op, t, p, af, g⟩ => match fop P E m op with
    | some r => some r
    | none => aop P E ⟨d, op, t, p, af, g⟩ m

theorem prun_arun {A : Type} : ∀ (s : Sem A) (m : Mem) {a : A}, prun P s = some a → arun P s m = some (a, m)
  | .pure _, _, _, h => by cases h; rfl
  | .program k, m, _, h => prun_arun (k P) m h
  | .mark _ k, m, _, h => prun_arun k m h
  | .load .., _, _, h => by cases h
  | .store .., _, _, h => by cases h
  | .new .., _, _, h => by cases h
  | .shape .., _, _, h => by cases h
  | .freeze .., _, _, h => by cases h
  | .frozen .., _, _, h => by cases h
  | .getObj .., _, _, h => by cases h
  | .setObj .., _, _, h => by cases h
  | .choose .., _, _, h => by cases h
  | .sys .., _, _, h => by cases h
  | .halt _, _, _, h => by cases h
theorem arun_prun_bind {A C : Type} {s : Sem A} {a : A} (f : A → Sem C) (m : Mem) (h : prun P s = some a) : arun P (s >>= f) m = arun P (f a) m := by
  show arun P (s.bind f) m = _
  rw [arun_bind, prun_arun s m h]; rfl
theorem fop_aop {E : Env} {o : Oper} {m : Mem} {r : Next × Mem} (h : fop P E m o.op = some r) : aop P E o m = some r := by
  unfold aop
  rw [execF_eq]
  obtain ⟨d, op, t, p, af, g⟩ := o
  simp only at h ⊢
  cases op with
  | move x =>
    obtain ⟨h1, h2⟩ := evK_some h
    have e : (Op.move x).operands.toList.all (opOK E) = true := by simp [Op.operands, h1]
    rw [e]
    exact h2
  | assign x =>
    obtain ⟨h1, h2⟩ := evK_some h
    have e : (Op.assign x).operands.toList.all (opOK E) = true := by simp [Op.operands, h1]
    rw [e]
    exact h2
  | pick c a b =>
    obtain ⟨h1, h2⟩ := evK_some h
    obtain ⟨h3, h4⟩ := evK_some h2
    obtain ⟨h5, h6⟩ := evK_some h4
    have e : (Op.pick c a b).operands.toList.all (opOK E) = true := by simp [Op.operands, h1, h3, h5]
    rw [e]
    simp only [cond_true, simOK, execOp]
    split at h6
    · rename_i k hk
      rw [hk]
      cases k <;> exact h6
    · cases h6
  | extract x i =>
    obtain ⟨h1, h2⟩ := evK_some h
    have e : (Op.extract x i).operands.toList.all (opOK E) = true := by simp [Op.operands, h1]
    rw [e]
    simp only [cond_true, simOK, execOp]
    split at h2
    · rename_i l hl
      rw [hl]
      have hx : (⟨l⟩ : Array Value)[i]? = l[i]? := by simp
      unfold Instr.extract
      simp only
      rw [hx]
      cases hu : l[i]? with
      | none => rw [hu] at h2; cases h2
      | some u => rw [hu] at h2; exact h2
    · cases h2
  | fieldAddr st x f =>
    obtain ⟨h1, h2⟩ := evK_some h
    have e : (Op.fieldAddr st x f).operands.toList.all (opOK E) = true := by simp [Op.operands, h1]
    rw [e]
    simp only [cond_true, simOK, execOp]
    split at h2
    · rename_i b off hv
      rw [hv]
      unfold fieldOf at h2
      split at h2
      · rename_i k hk
        split at hk
        · rename_i fields hf
          split at hk
          · rename_i fx hx
            split at hk
            · rename_i sz hz
              cases hk
              have hun : prun P (underlying st) = some (.struct fields) := by
                have : prun P (underlying st) = prun P (match P.underlying st with | some d => (pure d : Sem TypeDesc) | none => stuck "no such type") := rfl
                rw [this, hf]; rfl
              have main : arun P (Instr.fieldAt st (.pointer (some ⟨b, off, none⟩)) f) m = some (.pointer (some ⟨b, off + fx.offset, none⟩), m) := by
                unfold Instr.fieldAt
                rw [arun_prun_bind _ _ hun]
                simp only [hx]
                show arun P (fieldPlace ⟨b, off, none⟩ fx >>= _) m = _
                have hp : arun P (fieldPlace ⟨b, off, none⟩ fx) m = some (⟨b, off + fx.offset, none⟩, m) := by
                  unfold fieldPlace
                  rw [arun_prun_bind _ _ hz, if_neg (Nat.succ_ne_zero _)]
                  show some (Addr.add ⟨b, off, none⟩ fx.offset, m) = _
                  simp [Addr.add]
                show arun P ((fieldPlace ⟨b, off, none⟩ fx).bind _) m = _
                rw [arun_bind, hp]; rfl
              show arun P ((Instr.fieldAt st (.pointer (some ⟨b, off, none⟩)) f).bind _) m = _
              rw [arun_bind, main]
              cases h2
              rfl
            · cases hk
          · cases hk
        · cases hk
      · cases h2
    · cases h2
  | load t x =>
    obtain ⟨h1, h2⟩ := evK_some h
    have e : (Op.load t x).operands.toList.all (opOK E) = true := by simp [Op.operands, h1]
    rw [e]
    simp only [cond_true, simOK, execOp]
    split at h2
    · rename_i a hv
      rw [hv]
      cases ho : isOne P t with
      | false => rw [ho] at h2; cases h2
      | true =>
        rw [ho] at h2
        simp only at h2
        have ha : prun P (isAgg t) = some false := by
          unfold isOne at ho
          split at ho
          · assumption
          · cases ho
        cases hc : m.cell a with
        | none => rw [hc] at h2; cases h2
        | some u =>
          rw [hc] at h2
          cases h2
          have main : arun P (Instr.loadAt t (.pointer (some a))) m = some (u, m) := by
            show arun P (isAgg t >>= _) m = _
            rw [arun_prun_bind _ _ ha]
            show arun P (load a) m = _
            simp only [load, arun, hc]
          show arun P ((Instr.loadAt t (.pointer (some a))).bind _) m = _
          rw [arun_bind, main]; rfl
    · cases h2
  | binOp op t x y z =>
    obtain ⟨h1, h2⟩ := evK_some h
    obtain ⟨h3, h4⟩ := evK_some h2
    have e : (Op.binOp op t x y z).operands.toList.all (opOK E) = true := by simp [Op.operands, h1, h3]
    rw [e]
    split at h4
    · rename_i k a hu
      split at h4
      · rename_i l b hv
        have hg : grOK E (.binOp op t x y z) = true := by simp [grOK, Op.operands, hu, hv, ground, ground1, ground0]
        have hs : simOK E (.binOp op t x y z) = false := rfl
        simp only [cond_true, hs, cond_false, hg, execOp, hu, hv]
        have hk : k = l := by
          cases hb : Nat.beq k.ctorIdx l.ctorIdx with
          | false => rw [hb] at h4; cases h4
          | true => cases k <;> cases l <;> first | rfl | cases hb
        subst hk
        rw [Nat.beq_refl] at h4
        simp only at h4
        cases op <;> first
          | (cases h4; simp [eqGuard, binOp, Op.intArith, Op.intCmp, prun, ground, ground1, ground0, bind, Sem.bind, pure]; done)
          | (simp [fCmp] at h4; done)
          | (simp only [fCmp, Option.some.injEq] at h4; cases h4; simp [eqGuard, binOp, Op.intArith, Op.intCmp, prun, ground, ground1, ground0, bind, Sem.bind, pure]; done)
          | skip
      · cases h4
    · cases h4
  | _ => cases h
theorem aopF_eq (P : Program) (E : Env) (o : Oper) (m : Mem) : aopF P E o m = aop P E o m := by
  obtain ⟨d, op, t, p, af, g⟩ := o
  unfold aopF
  simp only
  cases h : fop P E m op with
  | none => rfl
  | some r => exact (fop_aop (o := ⟨d, op, t, p, af, g⟩) h).symm
end
end Go.Den
