/- Regions, code and calls in our memory: the definitions. -/
import Derived.Test.YtbpklgllihhgpaaGreatDenY
namespace Go.Den
noncomputable section
variable {P : Program} {α : AM}

/-! ## runs that only read, and runs that only lay one new block -/
def rrun {A : Type} (P : Program) (D : Nat → Bool) : Sem A → Mem → Option A
  | .pure a, _ => some a
  | .load _ a k, m => bif D a.block then (match m.cell a with | some v => rrun P D (k v) m | none => none) else none
  | .getObj r k, m => bif D r then (match m.t.get r with | some (.obj o) => rrun P D (k o) m | _ => none) else none
  | .program k, m => rrun P D (k P) m
  | .mark _ k, m => rrun P D k m
  | _, _ => none
def nrun {A : Type} (P : Program) : Sem A → Nat → Option (A × Ob)
  | .new o k, nx => (match o with
    | .cells c e fz => (match fz with
      | (0, 0) => (match prun P (k nx) with
        | some a => ofListK c.toList fun t => forceNat c.size fun n => some (a, .cells t n e false)
        | none => none)
      | _ => none)
    | .map es cl => (match prun P (k nx) with
      | some a => some (a, .obj (.map es cl))
      | none => none)
    | _ => none)
  | .program k, nx => nrun P (k P) nx
  | .mark _ k, nx => nrun P k nx
  | _, _ => none

abbrev Self := FuncId → Array Value → Mem → Option (Value × Mem)

def evOp (P : Program) (self : Self) (E : Env) (o : Oper) (m : Mem) : Option (Env × Mem) :=
  match aopG P E o m with
  | some (nx, m) => (match nx with
    | .value v => E.put o.dst v fun E => some (E, m)
    | .skip => E.put o.dst undef fun E => some (E, m)
    | .enter f args => (match self f args m with
      | some (v, m) => E.put o.dst v fun E => some (E, m)
      | none => none)
    | _ => none)
  | none => none

def wantE (ops : Array Oper) (E : Env) (o : Oper) : Bool :=
  match o.guard with
  | none => true
  | some (j, want) => match ops[j]? with
    | some o' => (match o'.dst with
      | some d => bif Nat.blt d E.n then (match E.get d with | .bool b => b == want | _ => false) else false
      | none => false)
    | none => false

def evList (P : Program) (self : Self) (ops : Array Oper) : List Oper → Env → Mem → Option (Env × Mem)
  | [], E, m => some (E, m)
  | o :: rest, E, m => bif wantE ops E o then (match evOp P self E o m with
      | some (E, m) => evList P self ops rest E m
      | none => none)
    else E.put o.dst undef fun E => evList P self ops rest E m

/-! ## a region that draws its order -/
def foot (E : Env) : Op → Option Nat
  | .load _ x => (match ev E x with | .pointer (some a) => some a.block | _ => none)
  | .lookup _ x _ _ => (match ev E x with | .map (some r) => some r | _ => none)
  | .call c => (match c.args with | ⟨[x]⟩ => (match ev E x with | .map (some r) => some r | _ => none) | _ => none)
  | _ => none
def qSim (E : Env) : Op → Bool
  | .move _ | .assign _ | .pick .. | .build .. | .load .. | .nilCheck _ | .fieldAddr .. | .field .. | .indexAddr .. | .index .. | .makeInterface .. | .extract .. => true
  | .lookup _ _ k _ => scalar (ev E k)
  | .makeFunc (.func _) _ _ => true
  | .slice _ x _ _ _ => notG (ev E x)
  | .call c => (match c.callee with | .builtin .len => (match c.args with | ⟨[_]⟩ => true | _ => false) | _ => false)
  | _ => false
def nSim : Op → Bool
  | .alloc _ | .box .. => true
  | .buildSlice _ len _ => Nat.blt len G
  | .makeMap _ none => true
  | _ => false
def isFoot (f : Option Nat) (b : Nat) : Bool := match f with | some c => Nat.beq b c | none => false
def rowVal (P : Program) (m : Mem) (t : TypeId) (b off : Nat) : Option Value := match aggSize P t with
  | some n => (match m.t.get b with
    | some (.cells c N _ _) => (match c with
      | .L l => bif Nat.ble (off + n) N then ltakeK (ldrop l off) n (fun r => some (.agg ⟨r⟩)) none else none
      | _ => none)
    | _ => none)
  | none => bif isOne P t then m.cell ⟨b, off, none⟩ else none
/-- fast roads for what only reads -/
def fq (P : Program) (E : Env) (m : Mem) : Op → Option Value
  | .load t x => evK E x fun v => match v with
    | .pointer (some ⟨b, off, none⟩) => rowVal P m t b off
    | _ => none
  | .build t parts => (match fBuild P E m t parts with
    | some (nx, _) => (match nx with | .value v => some v | _ => none)
    | none => none)
  | .move x => evK E x some
  | .assign x => evK E x some
  | _ => none
def quietS (P : Program) (E : Env) (o : Oper) (m : Mem) : Option Value :=
  bif o.op.operands.toList.all (opOK E) then
    bif qSim E o.op then (match rrun P (isFoot (foot E o.op)) (execF E o) m with
      | some (.value v) => some v
      | _ => none)
    else bif grOK E o.op then (match prun P (execF E o) with
      | some (.value v) => bif ground v then some v else none
      | _ => none)
    else (match o.op with
      | .slice t x lo hi mx => aSlice P t (ev E x) (lo.map (ev E)) (hi.map (ev E)) (mx.map (ev E))
      | .binOp op t x y _ => aNil P op t (isConst x || isConst y) (ev E x) (ev E y)
      | _ => none)
  else none
def quietV (P : Program) (E : Env) (o : Oper) (m : Mem) : Option Value :=
  match o with
  | ⟨d, op, t, p, af, g⟩ => match fq P E m op with
    | some v => some v
    | none => quietS P E ⟨d, op, t, p, af, g⟩ m
def newV (P : Program) (E : Env) (o : Oper) (id : Nat) : Option (Value × Ob) :=
  bif o.op.operands.toList.all (opOK E) && nSim o.op then (match nrun P (execF E o) id with
    | some (.value v, ob) => some (v, ob)
    | _ => none)
  else none

inductive Kd where
  | skip
  | quiet (f : Option Nat)
  | new
  | eff
structure Row where
  o : Oper
  k : Kd
  E : Env
  m : Mem
  E' : Env
  m' : Mem
def dStep (P : Program) (self : Self) (ops : Array Oper) (o : Oper) (id : Nat) (E : Env) (m : Mem) : Option Row :=
  bif wantE ops E o then
    match quietV P E o m with
    | some v => E.put o.dst v fun E' => some ⟨o, .quiet (foot E o.op), E, m, E', m⟩
    | none => match newV P E o id with
      | some (v, ob) => m.put id ob fun m' => E.put o.dst v fun E' => some ⟨o, .new, E, m, E', m'⟩
      | none => match evOp P self E o m with
        | some (E', m') => bif Nat.ble m.next m'.next then some ⟨o, .eff, E, m, E', m'⟩ else none
        | none => none
  else E.put o.dst undef fun E' => some ⟨o, .skip, E, m, E', m⟩
def dRun (P : Program) (self : Self) (ops : Array Oper) : List Oper → Nat → Env → Mem → Option (List Row × Env × Mem)
  | [], _, E, m => some ([], E, m)
  | o :: rest, id, E, m => match dStep P self ops o id E m with
    | some r => (match dRun P self ops rest (id + 1) r.E' r.m' with
      | some (rs, E, m) => some (r :: rs, E, m)
      | none => none)
    | none => none

def hasEdge (o : Oper) (j : Nat) : Bool := o.after.toList.any fun e => Region.binds .any e && Nat.beq e.on j
/-- two scalars are one -/
def sameV : Value → Value → Bool
  | .bool a, .bool b => a == b
  | .int k a, .int l b => k == l && a == b
  | .string a, .string b => a.data.toList == b.data.toList
  | .pointer a, .pointer b => a == b
  | .slice a l c, .slice b m d => a == b && Nat.beq l m && Nat.beq c d
  | .map a, .map b => a == b
  | .nilFunc, .nilFunc => true
  | .nilIface, .nilIface => true
  | _, _ => false
def sameCells (c d : Tr Value) : Nat → Bool
  | 0 => true
  | n + 1 => (match c.get n, d.get n with | some x, some y => sameV x y | _, _ => false) && sameCells c d n
def sameEnts : List MapEntry → List MapEntry → Bool
  | [], [] => true
  | a :: x, b :: y => sameV a.key b.key && sameV a.val b.val && Nat.beq a.born b.born && sameEnts x y
  | _, _ => false
def sameOb : Option Ob → Option Ob → Bool
  | some (.cells c n _ g), some (.cells d k _ h) => Nat.beq n k && (g == h) && sameCells c d n
  | some (.obj (.map x c)), some (.obj (.map y d)) => Nat.beq c d && sameEnts x.toList y.toList
  | _, _ => false

/-- what comes before an operation by its edges, as bits -/
def maskOf (o : Oper) (acc : List Nat) : Nat := o.after.toList.foldl (fun s e => bif Region.binds .any e then (s ||| 2 ^ e.on) ||| acc.getD e.on 0 else s) 0
def cloL : List Oper → List Nat → List Nat
  | [], acc => acc
  | o :: rest, acc => forceNat (maskOf o acc) fun k => cloL rest (acc ++ [k])
def hasPath (b : List Nat) (j i : Nat) : Bool := (b.getD j 0).testBit i

/-- effects stand in one chain -/
def chainOK (b : List Nat) : List Row → Nat → Option Nat → Bool
  | [], _, _ => true
  | r :: rs, i, last => match r.k with
    | .eff => (match last with | some e => hasPath b i e | none => true) && chainOK b rs (i + 1) (some i)
    | _ => chainOK b rs (i + 1) last
/-- what row i reads, no effect that may come before or after it turns -/
def stableAt (cl : List Nat) (i : Nat) (b : Nat) : List Row → Nat → Bool
  | [], _ => true
  | r :: rs, e => (match r.k with
    | .eff => Nat.beq i e || (Nat.blt i e && hasPath cl e i) || (Nat.blt e i && hasPath cl i e) || Nat.ble r.m.next b || sameOb (r.m.t.get b) (r.m'.t.get b)
    | _ => true) && stableAt cl i b rs (e + 1)
def stableOK (cl : List Nat) (all : List Row) : List Row → Nat → Bool
  | [], _ => true
  | r :: rs, i => (match r.k with
    | .quiet (some b) => stableAt cl i b all 0
    | _ => true) && stableOK cl all rs (i + 1)
def evDraw (P : Program) (self : Self) (ops : Array Oper) (E : Env) (m : Mem) : Option (Env × Mem) :=
  forceNat (m.next + ops.toList.length) fun nx => match dRun P self ops ops.toList m.next E ⟨m.t, nx⟩ with
  | some (rs, E, m) => forceL (cloL ops.toList []) fun cl => bif chainOK cl rs 0 none && stableOK cl rs rs 0 then some (E, m) else none
  | none => none

/-- What a region's edges must order, whatever the memory: an edge leads back; a name is written once; who reads it or is guarded by it stands in order with who writes it. -/
def dstIdx : List Oper → Nat → Nat → Option Nat
  | [], _, _ => none
  | o :: rest, t, i => match o.dst with
    | some d => bif Nat.beq d t then some i else dstIdx rest t (i + 1)
    | none => dstIdx rest t (i + 1)
def statOp (ops : List Oper) (o : Oper) (i : Nat) : Bool :=
  (o.after.toList.all fun e => !(Region.binds .any e) || Nat.blt e.on i) &&
  (match o.dst with | some d => dstIdx ops d 0 == some i | none => true) &&
  (o.op.operands.toList.all fun x => match x with
    | .tmp t => (match dstIdx ops t 0 with
      | some j => Nat.beq j i || (Nat.blt j i && hasEdge o j) || (Nat.blt i j && (match ops[j]? with | some p => hasEdge p i | none => false))
      | none => true)
    | _ => true) &&
  (match o.guard with | some (j, _) => Nat.blt j i && hasEdge o j | none => true) &&
  (match o.op with | .select .. => false | _ => true)
def statList (ops : List Oper) : List Oper → Nat → Bool
  | [], _ => true
  | o :: rest, i => statOp ops o i && statList ops rest (i + 1)
def codeOK (P : Program) : Code → Bool
  | .region _ ops draw => (ops.toList.all fun o => opT P o.op) && (!draw || statList ops.toList ops.toList 0)
  | .seq x y => codeOK P x && codeOK P y
  | .cond _ x y => codeOK P x && codeOK P y
  | .block _ c => codeOK P c
  | .loop c => codeOK P c
  | _ => true
def fnOK (P : Program) (fn : Func) : Bool := match fn.body with | some c => codeOK P c | none => true

/-! ## code -/
inductive Ex where
  | normal
  | exit (id : Nat)
  | ret
def rounds (f : Env → Mem → Option (Ex × Env × Mem)) : Nat → Env → Mem → Option (Ex × Env × Mem)
  | 0, _, _ => none
  | n + 1, E, m => match f E m with
    | some (ex, E, m) => (match ex with
      | .normal => rounds f n E m
      | ex => some (ex, E, m))
    | none => none
def evCode (P : Program) (self : Self) (lf : Nat) : Code → Env → Mem → Option (Ex × Env × Mem)
  | .skip, E, m => some (.normal, E, m)
  | .ret, E, m => some (.ret, E, m)
  | .exit id, E, m => some (.exit id, E, m)
  | .region _ ops draw, E, m => (match (bif draw then evDraw P self ops E m else evList P self ops ops.toList E m) with
    | some (E, m) => some (.normal, E, m)
    | none => none)
  | .seq x y, E, m => (match evCode P self lf x E m with
    | some (ex, E, m) => (match ex with
      | .normal => evCode P self lf y E m
      | ex => some (ex, E, m))
    | none => none)
  | .cond c x y, E, m => bif opOK E c then (match ev E c with
      | .bool b => (match b with
        | true => evCode P self lf x E m
        | false => evCode P self lf y E m)
      | _ => none)
    else none
  | .block id c, E, m => (match evCode P self lf c E m with
    | some (ex, E, m) => (match ex with
      | .exit j => bif Nat.beq j id then some (.normal, E, m) else some (.exit j, E, m)
      | ex => some (ex, E, m))
    | none => none)
  | .loop c, E, m => rounds (evCode P self lf c) lf E m
  | _, _, _ => none

def Env.at (E : Env) (t : Nat) : Value := bif Nat.blt t E.n then E.get t else undef
def resSem (fn : Func) (g : Nat → Value) : Sem Value := do
  let vs ← fn.results.mapM fun
    | .tmp t => pure (g t)
    | .cell a t => do loadVar t (← asAddr (g a))
  pure (if h : vs.size = 1 then vs[0] else .tuple vs)
def resFast (P : Program) (g : Nat → Value) (m : Mem) : List ResultVar → Option (List Value)
  | [] => some []
  | x :: l => match (match x with
      | .tmp t => some (g t)
      | .cell a t => (match g a with
        | .pointer (some ⟨b, off, none⟩) => rowVal P m t b off
        | _ => none)) with
    | some v => (match resFast P g m l with
      | some vs => some (v :: vs)
      | none => none)
    | none => none
def resV (P : Program) (fn : Func) (g : Nat → Value) (m : Mem) : Option Value :=
  match resFast P g m fn.results.toList with
  | some vs => (match vs with
    | [v] => some v
    | vs => some (.tuple ⟨vs⟩))
  | none => rrun P (fun _ => true) (resSem fn g) m
abbrev Ext := FuncId → Option (Self → Array Value → Mem → Option (Value × Mem))
def evBody (P : Program) (lf : Nat) (self : Self) (f : FuncId) (args : Array Value) (m : Mem) : Option (Value × Mem) :=
  match P.funcs[f]? with
  | some fn => (match fn.body with
    | some c => forceL args.toList fun l => ofEnvK l 0 .e fun t => forceNat (l.length + (fn.ntmps - l.length)) fun n =>
        (match evCode P self lf c ⟨t, n⟩ m with
        | some (ex, E, m) => (match ex with
          | .exit _ => none
          | _ => (match resV P fn E.at m with
            | some v => force v fun v => some (v, m)
            | none => none))
        | none => none)
    | none => none)
  | none => none
def evCall (P : Program) (X : Ext) (lf : Nat) : Nat → Self
  | 0 => fun _ _ _ => none
  | n + 1 => fun f args m => match X f with
    | some g => g (evCall P X lf n) args m
    | none => evBody P lf (evCall P X lf n) f args m
end
end Go.Den
