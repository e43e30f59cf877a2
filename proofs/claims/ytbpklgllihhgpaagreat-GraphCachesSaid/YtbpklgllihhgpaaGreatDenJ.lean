/- One operation in our memory. -/
import Derived.Test.YtbpklgllihhgpaaGreatDenI
namespace Go.Den
noncomputable section
variable {P : Program} {α : AM}

structure Env where
  t : Tr Value
  n : Nat
def Env.get (E : Env) (i : Nat) : Value := match E.t.get i with | some v => v | none => undef
def Env.put {B : Type} (E : Env) (dst : Option Tmp) (v : Value) (c : Env → B) : B :=
  match dst with
  | none => c E
  | some d => match E with | ⟨t, n⟩ => bif Nat.blt d n then force v fun v => Tr.setK (d + 1) t d v fun t => c ⟨t, n⟩ else c ⟨t, n⟩
def EnvR (α : AM) (E : Env) (tmps : Array Value) : Prop := tmps.size = E.n ∧ ∀ i, i < E.n → VR α (E.get i) (tmps.getD i undef)
theorem EnvR.mono {β : AM} (hle : Le α β) {E : Env} {x : Array Value} (h : EnvR α E x) : EnvR β E x := ⟨h.1, fun i hi => (h.2 i hi).mono hle⟩
def Env.put' (E : Env) (dst : Option Tmp) (v : Value) : Env :=
  match dst with
  | none => E
  | some d => bif Nat.blt d E.n then ⟨Tr.set (d + 1) E.t d v, E.n⟩ else E
theorem Env.put_eq {B : Type} (E : Env) (dst : Option Tmp) (v : Value) (c : Env → B) : E.put dst v c = c (E.put' dst v) := by
  obtain ⟨t, n⟩ := E
  unfold Env.put Env.put'
  cases dst with
  | none => rfl
  | some d => simp only [force_eq, Tr.setK_eq]; cases Nat.blt d n <;> rfl
theorem EnvR.put {E : Env} {a : Act} (h : EnvR α E a.tmps) (dst : Option Tmp) {v v' : Value} (hv : VR α v v') : EnvR α (E.put' dst v) (a.put dst v').tmps := by
  unfold Env.put' Act.put
  cases dst with
  | none => exact h
  | some d =>
    simp only []
    cases hd : Nat.blt d E.n with
    | false =>
      rw [cond_false]
      have : ¬ d < a.tmps.size := by rw [h.1]; intro e; rw [blt_iff.2 e] at hd; cases hd
      rw [Array.setIfInBounds_eq_of_size_le (Nat.le_of_not_lt this)]
      exact h
    | true =>
      have hd' := blt_iff.1 hd
      rw [cond_true]
      refine ⟨by simp [h.1], fun i hi => ?_⟩
      simp only [Env.get, Tr.get_set _ _ _ _ _ (Nat.lt_succ_self d)]
      by_cases e : i = d
      · subst e
        have : i < a.tmps.size := by rw [h.1]; exact hi
        simp only [if_true]
        simpa [this] using hv
      · simp only [e, if_false]
        have := h.2 i hi
        simp only [Env.get] at this
        simpa [Ne.symm e, Array.getElem?_setIfInBounds] using this

def ev (E : Env) : Operand → Value
  | .tmp t => E.get t
  | .const v => v
  | .global _ => .nilIface
  | .func f => .func (.func f) #[] #[]
def opOK (E : Env) : Operand → Bool
  | .tmp t => Nat.blt t E.n
  | .const v => ground v
  | .global _ => false
  | .func _ => true
theorem EnvR.ev {E : Env} {a : Act} (h : EnvR α E a.tmps) {x : Operand} (hx : opOK E x = true) : VR α (ev E x) (a.eval x) := by
  cases x with
  | tmp t => exact h.2 t (blt_iff.1 hx)
  | const v => exact VR.refl hx
  | global g => cases hx
  | func f => exact .func rfl rfl (fun i h => absurd h (Nat.not_lt_zero _)) (fun i h => absurd h (Nat.not_lt_zero _))

/-! ## the run of what asks for nothing -/
def prun {A : Type} (P : Program) : Sem A → Option A
  | .pure a => some a
  | .program k => prun P (k P)
  | .mark _ k => prun P k
  | _ => none
theorem prun_run {A : Type} : ∀ (s : Sem A) {a : A} (w : World), prun P s = some a → s.run P w = .ok a w
  | .pure _, _, _, h => by cases h; rfl
  | .program k, _, w, h => prun_run (k P) w h
  | .mark _ k, _, w, h => prun_run k w h
  | .load .., _, _, h => by cases h
  | .store .., _, _, h => by cases h
  | .new .., _, _, h => by cases h
  | .shape .., _, _, h => by cases h
  | .freeze .., _, _, h => by cases h
  | .frozen .., _, _, h => by cases h
  | .getObj .., _, _, h => by cases h
  | .setObj .., _, _, h => by cases h
  | .choose .., _, _, h => by cases h
  | .sys .., _, _, h => by cases h
  | .halt _, _, _, h => by cases h

def simCall (E : Env) (c : Call) : Bool :=
  match c.callee with
  | .builtin .len => (match c.args with | ⟨[_]⟩ => true | _ => false)
  | .builtin .delete => (match c.args with | ⟨[_, k]⟩ => scalar (ev E k) | _ => false)
  | .builtin .clear => (match c.args with | ⟨[x]⟩ => (match ev E x with | .map (some _) => true | _ => false) | _ => false)
  | _ => false
def simOK (E : Env) : Op → Bool
  | .move _ | .assign _ | .pick .. | .alloc _ | .box .. | .build .. | .load .. | .store .. | .nilCheck _ | .fieldAddr .. | .field .. | .indexAddr .. | .index .. | .makeInterface .. | .entryStore .. | .extract .. => true
  | .makeSlice .. => true
  | .makeMap _ none | .range .. | .next _ true => true
  | .buildSlice _ len _ => Nat.blt len G
  | .lookup _ _ k _ | .mapEntry _ _ k | .mapUpdate _ _ k _ | .insert _ _ k _ => scalar (ev E k)
  | .makeFunc (.func _) _ _ => true
  | .slice _ x _ _ _ => notG (ev E x)
  | .call c => simCall E c
  | _ => false

theorem parts_rel {E : Env} {a : Act} {parts : Array (Nat × Operand)} (hp : ∀ x ∈ (parts.toList.map (·.2)).toArray, VR α (ev E x) (a.eval x)) :
    PR α (parts.map fun (i, x) => (i, ev E x)).toList (parts.map fun (i, x) => (i, a.eval x)).toList := by
  obtain ⟨l⟩ := parts
  simp only [List.map_toArray]
  induction l with
  | nil => exact .nil
  | cons p l ih => exact .cons ⟨rfl, hp p.2 (by simp)⟩ (ih fun x hx => hp x (by simp at hx ⊢; exact .inr hx))
theorem args_rel {E : Env} {a : Act} {xs : Array Operand} (hp : ∀ x ∈ xs, VR α (ev E x) (a.eval x)) : VRs α (xs.map (ev E)) (xs.map a.eval) := by
  refine ⟨by simp, fun i h1 h2 => ?_⟩
  simp only [Array.getElem_map]
  exact hp _ (by simp)
theorem opt_rel {E : Env} {a : Act} {x : Option Operand} (hp : ∀ y, x = some y → VR α (ev E y) (a.eval y)) : OR α (x.map (ev E)) (x.map a.eval) := by
  cases x with
  | none => exact .inl ⟨rfl, rfl⟩
  | some y => exact .inr ⟨_, _, rfl, rfl, hp y rfl⟩

theorem execOp_builtin (ρ : Operand → Value) (dst : Option Tmp) (b : Builtin) (args : Array Operand) (ats : Array TypeId) (type : TypeId) (pos : String) (after : Array Edge) (guard : Option (Nat × Bool)) :
    execOp ρ ⟨dst, .call ⟨.builtin b, args, ats⟩, type, pos, after, guard⟩ = builtin b ats type (args.map fun | .const _ => true | _ => false) (args.map ρ) := rfl
theorem map_one {A B : Type} (f : A → B) (x : A) : Array.map f ⟨[x]⟩ = #[f x] := by simp
theorem map_two {A B : Type} (f : A → B) (x y : A) : Array.map f ⟨[x, y]⟩ = #[f x, f y] := by simp
/-- its types are in the table -/
def opT (P : Program) : Op → Bool
  | .alloc t | .build t _ | .buildSlice t _ _ | .makeSlice t _ _ | .lookup t _ _ _ | .mapEntry t _ _ | .slice t _ _ _ _ => Nat.blt t P.types.size
  | _ => true
theorem simOK_sim (hz : ZeroOK P) {E : Env} {a : Act} {o : Oper} (hok : ∀ x ∈ o.op.operands, VR α (ev E x) (a.eval x)) (hs : simOK E o.op = true) (hT : opT P o.op = true) :
    Sim P NR α (execOp (ev E) o) (execOp a.eval o) := by
  obtain ⟨dst, op, type, pos, after, guard⟩ := o
  have one : ∀ {x : Operand}, x ∈ op.operands → VR α (ev E x) (a.eval x) := fun hx => hok _ hx
  cases op with
  | move x => exact sim_pure (.value (one (by simp [Op.operands])))
  | assign x => exact sim_pure (.value (one (by simp [Op.operands])))
  | pick c x y =>
    have hc := one (x := c) (by simp [Op.operands])
    have hx := one (x := x) (by simp [Op.operands])
    have hy := one (x := y) (by simp [Op.operands])
    simp only [execOp]
    generalize ev E c = u at *
    generalize a.eval c = u' at *
    cases hc with
    | bool b => cases b <;> first | exact sim_pure (.value hx) | exact sim_pure (.value hy)
    | _ => exact sim_stuck
  | alloc e => exact sim_value (sim_alloc hz (blt_iff.1 hT))
  | box e x => exact sim_value (sim_box e (one (by simp [Op.operands])))
  | build t ps => exact sim_value (sim_build hz (blt_iff.1 hT) (parts_rel fun x hx => hok x hx))
  | buildSlice t len ps => exact sim_value (sim_buildSlice hz (blt_iff.1 hT) len (blt_iff.1 hs) (parts_rel fun x hx => hok x hx))
  | load t x => exact sim_value (sim_bind (sim_sureAddr (one (by simp [Op.operands]))) fun _ _ _ _ ha => sim_loadVar t ha)
  | store t x y =>
    have hy := one (x := y) (by simp [Op.operands])
    exact sim_unit (sim_bind (sim_sureAddr (one (by simp [Op.operands]))) fun _ _ _ hle ha => sim_storeVar t ha (hy.mono hle))
  | nilCheck x =>
    have hx := one (x := x) (by simp [Op.operands])
    have h0 := hx
    simp only [execOp]
    generalize ev E x = u at *
    generalize a.eval x = u' at *
    cases hx <;> first | exact sim_runtimePanic | exact sim_pure (.value h0)
  | fieldAddr s x f => exact sim_value (sim_fieldAt s (one (by simp [Op.operands])) f)
  | field s x f => exact sim_value (sim_field s (one (by simp [Op.operands])) f)
  | indexAddr t x i => exact sim_value (sim_indexAt t (one (by simp [Op.operands])) (one (by simp [Op.operands])))
  | index t x i => exact sim_value (sim_index t (one (by simp [Op.operands])) (one (by simp [Op.operands])))
  | makeInterface t x => exact sim_value (sim_makeInterface t (one (by simp [Op.operands])))
  | makeSlice t l c => exact sim_value (sim_makeSlice hz (blt_iff.1 hT) (one (by simp [Op.operands])) (one (by simp [Op.operands])))
  | makeMap t r =>
    cases r with
    | none => exact sim_value (sim_makeMap t)
    | some _ => cases hs
  | range t x => exact sim_value (sim_range t (one (by simp [Op.operands])))
  | next x isS =>
    cases isS with
    | true => exact sim_value (sim_next type (one (by simp [Op.operands])))
    | false => cases hs
  | lookup t x k ok =>
    have hk := one (x := k) (by simp [Op.operands])
    have hx := one (x := x) (by simp [Op.operands])
    simp only [execOp]
    rw [hk.scalar_eq hs]
    exact sim_value (sim_lookup hz (blt_iff.1 hT) hx hs ok)
  | mapEntry t x k =>
    have hk := one (x := k) (by simp [Op.operands])
    have hx := one (x := x) (by simp [Op.operands])
    simp only [execOp]
    rw [hk.scalar_eq hs]
    exact sim_value (sim_mapEntry hz (blt_iff.1 hT) hx hs)
  | mapUpdate t x k y =>
    have hk := one (x := k) (by simp [Op.operands])
    have hx := one (x := x) (by simp [Op.operands])
    have hy := one (x := y) (by simp [Op.operands])
    simp only [execOp]
    rw [hk.scalar_eq hs]
    exact sim_unit (sim_mapUpdate t hx hs hy)
  | insert t x k y =>
    have hk := one (x := k) (by simp [Op.operands])
    have hx := one (x := x) (by simp [Op.operands])
    have hy := one (x := y) (by simp [Op.operands])
    simp only [execOp]
    rw [hk.scalar_eq hs]
    exact sim_unit (sim_mapUpdate t hx hs hy)
  | entryStore t x k y => exact sim_unit (sim_entryStore t (one (by simp [Op.operands])) (one (by simp [Op.operands])) (one (by simp [Op.operands])))
  | extract x i => exact sim_value (sim_extract (one (by simp [Op.operands])) i)
  | makeFunc fn first captured =>
    cases fn with
    | func f =>
      have h1 := args_rel (E := E) (a := a) (xs := first) fun x hx => hok x (by simp [Op.operands, hx])
      have h2 := args_rel (E := E) (a := a) (xs := captured) fun x hx => hok x (by simp [Op.operands, hx])
      exact sim_pure (.value (.func h1.1 h2.1 h1.2 h2.2))
    | _ => cases hs
  | slice t x lo hi mx =>
    refine sim_value (sim_sliceAt hz (blt_iff.1 hT) (one (by simp [Op.operands])) hs (opt_rel fun y e => ?_) (opt_rel fun y e => ?_) (opt_rel fun y e => ?_))
    · subst e; exact hok _ (by simp [Op.operands])
    · subst e; exact hok _ (by simp [Op.operands])
    · subst e; exact hok _ (by simp [Op.operands])
  | call c =>
    obtain ⟨callee, args, ats⟩ := c
    simp only [simOK, simCall] at hs
    cases callee with
    | builtin b =>
      cases b with
      | len =>
        simp only at hs
        split at hs
        · rename_i x
          have hx := one (x := x) (by simp [Op.operands, Call.operands])
          rw [execOp_builtin, execOp_builtin, map_one (ev E), map_one a.eval]
          exact sim_value (sim_len _ _ hx)
        · cases hs
      | delete =>
        simp only at hs
        split at hs
        · rename_i x k
          have hk := one (x := k) (by simp [Op.operands, Call.operands])
          have hx := one (x := x) (by simp [Op.operands, Call.operands])
          rw [execOp_builtin, execOp_builtin, map_two (ev E), map_two a.eval, hk.scalar_eq hs]
          exact sim_value (sim_delete ats type hx hs)
        · cases hs
      | clear =>
        simp only at hs
        split at hs
        · rename_i x
          have hx := one (x := x) (by simp [Op.operands, Call.operands])
          split at hs
          · rename_i r hr
            rw [hr] at hx
            rw [execOp_builtin, execOp_builtin, map_one (ev E), map_one a.eval, hr]
            generalize a.eval x = u at *
            cases hx with
            | map hb => exact sim_value (sim_clearMap _ _ hb)
          · cases hs
        · cases hs
      | _ => cases hs
    | _ => cases hs
  | _ => cases hs
end
end Go.Den
