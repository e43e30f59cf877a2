import Derived.Test.YtbpklgllihhgpaaGreatA01
set_option maxRecDepth 100000
set_option maxHeartbeats 16000000
namespace Go.Den
section
variable {P:Program}
structure jc(P:Program): Prop where
 zero:∀t i v,t<P.types.size→P.info? t=some i→i.zero=some v→ig v=true
 arr:∀t n e,t<P.types.size→P.underlying t=some (.array n e)→n<G
 sl:∀t e,t<P.types.size→P.underlying t=some (.slice e)→e<P.types.size
 mp:∀t k e,t<P.types.size→P.underlying t=some (.map k e)→e<P.types.size
 pt:∀t e,t<P.types.size→P.underlying t=some (.pointer e)→e<P.types.size
inductive NR(α:AM): Next→Next→Prop where
 | value {v v':Value} (h:VR α v v'):NR α (.value v) (.value v')
 | skip:NR α .skip .skip
 | enter {f:FuncId} {x x':Array Value} (h:kN α x x'):NR α (.enter f x) (.enter f x')
def AR(α:AM)(a a':Addr): Prop:=∃b off L,a=⟨b,off,none⟩∧α b=some L∧a'=⟨L.blk,L.sh+off,none⟩
theorem AR.mono{α β:AM}(hle:Le α β){a a':Addr}(h:AR α a a'): AR β a a':=let ⟨b,off,L,h1,h2,h3⟩:=h;⟨b,off,L,h1,hle _ _ h2,h3⟩
theorem AR.add{α:AM}{a a':Addr}(h:AR α a a')(n:Nat): AR α (a.add n) (a'.add n):=by
 obtain⟨b,off,L,rfl,h2,rfl⟩:=h;unfold Addr.add;by_cases hn:n=0
 ·simp only [hn,if_true];exact⟨b,off,L,rfl,h2,rfl⟩
 simp only [hn,if_false];exact⟨b,off+n,L,rfl,h2,by simp [Nat.add_assoc]⟩
theorem AR.ptr{α:AM}{a a':Addr}(h:AR α a a'): VR α (.pointer (some a)) (.pointer (some a')):=by obtain⟨b,off,L,rfl,h2,rfl⟩:=h;exact .ptr h2
section
variable {α:AM}
theorem cZ{A B:Type}{R:AM→A→B→Prop}{a:A}{b:B}(h:R α a b): fU P R α (pure a) (pure b):=fU.pure h
theorem bV{A B C D:Type}{R:AM→A→B→Prop}{S:AM→C→D→Prop}{s:Sem A}{s':Sem B}{f:A→Sem C}{f':B→Sem D}(h:fU P R α s s')
 (k:∀β a b,Le α β→R β a b→fU P S β (f a) (f' b)):fU P S α (s >>= f) (s' >>= f'):=fU.bind h k
theorem cO{A B:Type}{R:AM→A→B→Prop}{s:Sem B}{w:String}: fU P R α (stuck w:Sem A) s:=.dead fun _=>rfl
theorem fP{A B:Type}{R:AM→A→B→Prop}{s:Sem B}{w:Unsupported}: fU P R α (unsupported w:Sem A) s:=.dead fun _=>rfl
theorem nO{A B C:Type}{R:AM→A→B→Prop}{s:Sem B}{w:String}{f:C→Sem A}: fU P R α ((stuck w:Sem C) >>= f) s:=.dead fun _=>rfl
theorem rC{A B C:Type}{R:AM→A→B→Prop}{s:Sem B}{w:Unsupported}{f:C→Sem A}: fU P R α ((unsupported w:Sem C) >>= f) s:=.dead fun _=>rfl
theorem kT{A C:Type}(s:Sem A)(f:A→Sem C)(h:∀a m,dO P (f a) m=none)(m:dJ): dO P (s >>= f) m=none:=by
 show dO P (s.bind f) m=none;rw [gz];cases dO P s m with
 | none=>rfl
 | some x=>exact h _ _
theorem uP{A C:Type}(s:Sem A)(f:A→Sem C)(h:∀m,dO P s m=none)(m:dJ): dO P (s >>= f) m=none:=by show dO P (s.bind f) m=none;rw [gz,h];rfl
theorem gK{A:Type}(e:RuntimeError)(m:dJ): dO P (runtimePanic e:Sem A) m=none:=by
 unfold runtimePanic;refine kT _ _ (fun p m=>?_) m;cases e with
 | typeAssertion i c a x=>exact kT _ _ (fun _ m=>kT _ _ (fun _ _=>rfl) m) m
 | panicNil=>exact kT _ _ (fun _ m=>kT _ _ (fun _ _=>rfl) m) m
 | _=>rfl
theorem xk{A:Type}(k:IntKind)(x y:Int)(c:BoundsCode)(m:dJ): dO P (boundsPanic k x y c:Sem A) m=none:=by
 unfold boundsPanic;simp only [];split
 ·exact kT _ _ (fun _ m=>gK _ m) m
 exact kT _ _ (fun _ m=>gK _ m) m
theorem lW{A B:Type}{R:AM→A→B→Prop}{s:Sem B}{e:RuntimeError}: fU P R α (runtimePanic e:Sem A) s:=.dead (gK e)
theorem jD{A B:Type}{R:AM→A→B→Prop}{s:Sem B}{k:IntKind}{x y:Int}{c:BoundsCode}: fU P R α (boundsPanic k x y c:Sem A) s:=.dead (xk k x y c)
theorem yC{A B:Type}{R:AM→A→B→Prop}{f:Program→Sem A}{f':Program→Sem B}(h:fU P R α (f P) (f' P)): fU P R α (program >>= f) (program >>= f'):=fU.program h
theorem qc(t:TypeId): fU P (fun _ a b=>a=b∧P.info? t=some a) α (typeInfo t) (typeInfo t):=by
 unfold typeInfo;refine yC ?_;cases h:P.info? t with
 | none=>exact cO
 | some i=>exact cZ ⟨rfl,rfl⟩
theorem dA(t:TypeId): fU P (fun _ a b=>a=b∧P.underlying t=some a) α (underlying t) (underlying t):=by
 unfold underlying;refine yC ?_;cases h:P.underlying t with
 | none=>exact cO
 | some i=>exact cZ ⟨rfl,rfl⟩
theorem fV(t:TypeId): fU P (fun _ a b=>a=b∧P.cellsOf t=a) α (sizeOf t) (sizeOf t):=by unfold sizeOf;refine bV (qc t) ?_;rintro β a b - ⟨rfl,h⟩;exact cZ ⟨rfl,by simp [Program.cellsOf,h]⟩
theorem Dz(t:TypeId): fU P (fun _ a b=>a=b) α (isAgg t) (isAgg t):=by unfold isAgg;refine bV (dA t) ?_;rintro β a b - ⟨rfl,h⟩;cases a <;> exact cZ rfl
theorem jE(hz:jc P){t:TypeId}(ht:t<P.types.size): fU P (fun _ a b=>a=b∧ig a=true) α (zeroValue t) (zeroValue t):=by
 unfold zeroValue;refine bV (qc t) ?_;rintro β a b - ⟨rfl,h⟩;cases hv:a.zero with
 | none=>exact fP
 | some v=>exact cZ ⟨rfl,hz.zero _ _ _ ht h hv⟩
theorem oH{v v':Value}(h:VR α v v'): fU P (fun _ a b=>a=b) α (asIntOf v) (asIntOf v'):=by cases h <;> first | exact cZ rfl | exact cO | exact fP
theorem xM{v v':Value}(h:VR α v v'): fU P (fun _ a b=>a=b) α (asInt v) (asInt v'):=by unfold asInt;refine bV (oH h) ?_;rintro β a b - rfl;exact cZ rfl
theorem lK{v v':Value}(h:VR α v v'): fU P AR α (Instr.sureAddr v) (Instr.sureAddr v'):=by
 cases h with
 | ptr h=>exact cZ ⟨_,_,_,rfl,h,rfl⟩
 | _=>exact cO
theorem Hz{a a':Addr}(h:AR α a a')(m m':Mode): fU P VR α (load a m) (load a' m'):=by obtain⟨b,off,L,rfl,h2,rfl⟩:=h;exact .load h2 fun v v' hv=>.pure hv
theorem MW{a a':Addr}(h:AR α a a'){v v':Value}(hv:VR α v v')(m m':Mode): fU P (fun _ _ _=>True) α (store a v m) (store a' v' m'):=by obtain⟨b,off,L,rfl,h2,rfl⟩:=h;exact .store h2 hv (.pure trivial)
theorem kN.push{x x':Array Value}(h:kN α x x'){v v':Value}(hv:VR α v v'): kN α (x.push v) (x'.push v'):=by
 refine⟨by simp [h.1],fun i h1 h2=>?_⟩;by_cases e:i<x.size
 ·rw [Array.getElem_push_lt e,Array.getElem_push_lt (by rw [←h.1];exact e)];exact h.2 i _ _
 have:i=x.size:=by simp at h1;omega
 subst this;have e2:x.size=x'.size:=h.1;simp only [Array.getElem_push_eq];have:(x'.push v')[x.size]'h2=v':=by simp [e2]
 rw [this];exact hv
theorem kN.append{x x' y y':Array Value}(h:kN α x x')(k:kN α y y'): kN α (x ++ y) (x' ++ y'):=by
 refine⟨by simp [h.1,k.1],fun i h1 h2=>?_⟩;by_cases e:i<x.size
 ·rw [Array.getElem_append_left e,Array.getElem_append_left (by rw [←h.1];exact e)];exact h.2 i _ _
 rw [Array.getElem_append_right (by omega),Array.getElem_append_right (by rw [←h.1];omega)];have e2:=h.1;simp only [←e2];exact k.2 _ _ _
theorem kN.extract{x x':Array Value}(h:kN α x x')(i j:Nat): kN α (x.extract i j) (x'.extract i j):=by refine⟨by simp [h.1],fun k h1 h2=>?_⟩;simp only [Array.getElem_extract];exact h.2 _ _ _
theorem kN.set{x x':Array Value}(h:kN α x x'){v v':Value}(hv:VR α v v')(i:Nat): kN α (x.setIfInBounds i v) (x'.setIfInBounds i v'):=by
 refine⟨by simp [h.1],fun k h1 h2=>?_⟩;rw [Array.getElem_setIfInBounds (by simpa using h1),Array.getElem_setIfInBounds (by simpa using h2)];split
 ·exact hv
 exact h.2 _ _ _
theorem kN.get?{x x':Array Value}(h:kN α x x')(i:Nat): (x[i]?=none∧x'[i]?=none)∨∃v v',x[i]?=some v∧x'[i]?=some v'∧VR α v v':=by
 by_cases e:i<x.size
 ·have e':i<x'.size:=by rw [←h.1];exact e
  exact .inr ⟨x[i],x'[i],Array.getElem?_eq_getElem e,Array.getElem?_eq_getElem e',h.2 i e e'⟩
 exact .inl ⟨Array.getElem?_eq_none (by omega),Array.getElem?_eq_none (by rw [←h.1];omega)⟩
theorem kN.nil:kN α #[] #[]:=⟨rfl,fun _ h=>absurd h (Nat.not_lt_zero _)⟩
theorem kN.one{v v':Value}(h:VR α v v'): kN α #[v] #[v']:=⟨rfl,fun i h1 _=>by
 have:i=0:=by simp at h1;omega
 subst this;exact h⟩
theorem VR.cells{v v':Value}(h:VR α v v'): kN α v.cells v'.cells:=by
 cases h with
 | agg hx h=>exact⟨hx,h⟩
 | bool b=>exact .one (.bool b)
 | int k n=>exact .one (.int k n)
 | string s=>exact .one (.string s)
 | ptrN=>exact .one .ptrN
 | ptr h=>exact .one (.ptr h)
 | sliceN l c=>exact .one (.sliceN l c)
 | sliceX h hc=>exact .one (.sliceX h hc)
 | sliceG h hl ht=>exact .one (.sliceG h hl ht)
 | sliceE h=>exact .one (.sliceE h)
 | mapN=>exact .one .mapN
 | map h=>exact .one (.map h)
 | func hx hy h k=>exact .one (.func hx hy h k)
 | nilFunc=>exact .one .nilFunc
 | nilIface=>exact .one .nilIface
 | iface t h=>exact .one (.iface t h)
 | tuple hx h=>exact .one (.tuple hx h)
theorem ou{a a':Addr}: ∀(n i:Nat) {α:AM} (_:AR α a a') {acc acc':Array Value} (_:kN α acc acc'),fU P kN α (loadCellsFrom a i n acc) (loadCellsFrom a' i n acc')
 | 0,_,_,_,_,_,hacc=>cZ hacc
 | n+1,i,α,h,acc,acc',hacc=>by unfold loadCellsFrom;refine bV (Hz (h.add i) _ _) ?_;intro β v v' hle hv;exact ou n (i+1) (h.mono hle) ((hacc.mono hle).push hv)
theorem CB{a a':Addr}(h:AR α a a')(n:Nat): fU P kN α (loadCells a n) (loadCells a' n):=ou n 0 h .nil
theorem rJ{a a':Addr}: ∀(l l':List Value) (i:Nat) {α:AM} (_:AR α a a') (_:l.length=l'.length) (_:∀(j:Nat) (h:j<l.length) (h':j<l'.length),VR α l[j] l'[j]),
  fU P (fun _ _ _=>True) α (storeCells a l i) (storeCells a' l' i)
 | [],[],_,_,_,_,_=>cZ trivial
 | [],_ :: _,_,_,_,hl,_=>by simp at hl
 | _ :: _,[],_,_,_,hl,_=>by simp at hl
 | v :: l,v' :: l',i,α,h,hl,hv=>by unfold storeCells;refine bV (MW (h.add i) (hv 0 (by simp) (by simp)) _ _) ?_;intro β _ _ hle _;exact rJ l l' (i+1) (h.mono hle) (by simpa using hl) fun j h1 h2=>(hv (j+1) (by simpa using h1) (by simpa using h2)).mono hle
theorem uB{a a':Addr}(h:AR α a a'){x x':Array Value}(hx:kN α x x')(i:Nat): fU P (fun _ _ _=>True) α (storeCells a x.toList i) (storeCells a' x'.toList i):=
 rJ _ _ i h (by simpa using hx.1) fun j h1 h2=>by simpa using hx.2 j (by simpa using h1) (by simpa using h2)
theorem yl(t:TypeId){a a':Addr}(h:AR α a a'): fU P VR α (loadVar t a) (loadVar t a'):=by
 unfold loadVar;refine bV (Dz t) ?_;rintro β x y hle rfl;cases x
 ·exact Hz (h.mono hle) _ _
 refine bV (fV t) ?_;rintro γ n n' hle' ⟨rfl,-⟩;refine bV (CB ((h.mono hle).mono hle') n) ?_;intro δ c c' _ hc;exact cZ (.agg hc.1 hc.2)
theorem Eu(t:TypeId){a a':Addr}(h:AR α a a'){v v':Value}(hv:VR α v v'): fU P (fun _ _ _=>True) α (storeVar t a v) (storeVar t a' v'):=by
 unfold storeVar;refine bV (fV t) ?_;rintro β n n' hle ⟨rfl,-⟩;have hc:=(hv.mono hle).cells;by_cases e:v.cells.size≠n
 ·simp only [e,ne_eq,not_false_eq_true,if_true];exact nO
 have e':¬v'.cells.size≠n:=by rw [←hc.1];exact e
 simp only [e,e',if_false];exact uB (h.mono hle) hc 0
def KW(n:Nat)(α:AM)(a a':Addr): Prop:=∃b L,a=⟨b,0,none⟩∧α b=some L∧L.sh=0∧L.tot=n∧a'=⟨L.blk,0,none⟩
theorem KW.ar{n:Nat}{a a':Addr}(h:KW n α a a'): AR α a a':=let ⟨b,L,h1,h2,h3,_,h5⟩:=h;⟨b,0,L,h1,h2,by rw [h3];exact h5⟩
theorem uw(e e':TypeId){x x':Array Value}(h:kN α x x'): fU P (KW x.size) α (newRow e x) (newRow e' x'):=
 fU.newCells h fun _ b L _ h2 h3 h4=>.pure ⟨b,L,rfl,h2,h3,h4,rfl⟩
theorem Bd(e e':TypeId){v v':Value}(h:VR α v v'): fU P (KW v.cells.size) α (newVar e v) (newVar e' v'):=uw e e' h.cells
theorem IP(t:TypeId){x x':Array Value}(h:kN α x x')(off:Nat): fU P VR α (part t x off) (part t x' off):=by
 unfold part;refine bV (Dz t) ?_;rintro β a b hle rfl;cases a
 ·rcases (h.mono hle).get? off with ⟨e,e'⟩ | ⟨v,v',e,e',hv⟩
  ·rw [e,e'];exact cO
  rw [e,e'];exact cZ hv
 refine bV (fV t) ?_;rintro γ n n' hle' ⟨rfl,-⟩;have hx:=((h.mono hle).mono hle').extract off (off+n);exact cZ (.agg hx.1 hx.2)
end
end
section
noncomputable section
variable {P:Program} {α:AM}
theorem eU {s : Sem Value} {s' : Sem Value} (h : fU P VR α s s') : fU P NR α (do pure (Next.value (← s))) (do pure (Next.value (← s'))) :=
  bV h fun _ _ _ _ hv => cZ (.value hv)
theorem vk {s : Sem Unit} {s' : Sem Unit} (h : fU P (fun _ _ _ => True) α s s') : fU P NR α (do s; pure Next.skip) (do s'; pure Next.skip) :=
  bV h fun _ _ _ _ _ => cZ .skip
theorem NE(hz:jc P){e:TypeId}(ht:e<P.types.size): fU P VR α (Instr.alloc e true (.tuple #[])) (Instr.alloc e true (.tuple #[])):=by unfold Instr.alloc;refine bV (jE hz ht) ?_;rintro β v v' - ⟨rfl,hg⟩;refine bV (Bd e e (VR.refl hg)) ?_;rintro γ a a' - ha;exact cZ ha.ar.ptr
theorem Uc(e:TypeId){v v':Value}(h:VR α v v'): fU P VR α (Instr.box e v) (Instr.box e v'):=by unfold Instr.box;refine bV (Bd e e h) ?_;rintro γ a a' - ha;exact cZ ha.ar.ptr
inductive F2{A B:Type}(R:A→B→Prop): List A→List B→Prop where
 | nil:F2 R [] []
 | cons {a:A} {b:B} {l:List A} {l':List B} (h:R a b) (k:F2 R l l'):F2 R (a :: l) (b :: l')
def PR(α:AM)(x y:List (Nat×Value)): Prop:=F2 (fun a b=>a.1=b.1∧VR α a.2 b.2) x y
theorem zQ{cs cs':Array Value}(off:Nat): ∀(l l':List (Value×Nat)) {x x':Array Value},kN α x x'→F2 (fun a b=>a.2=b.2∧VR α a.1 b.1) l l'→
  kN α (l.foldl (fun cs (c,j)=>cs.setIfInBounds (off+j) c) x) (l'.foldl (fun cs (c,j)=>cs.setIfInBounds (off+j) c) x')
 | [],_,_,_,hx,h=>by cases h;exact hx
 | (c,j) :: l,_,x,x',hx,h=>by
  cases h with
  | cons h1 h2=>
   rename_i b l2;obtain⟨c',j'⟩:=b;obtain⟨rfl,hv⟩:=h1;exact zQ (cs:=cs) (cs':=cs') off l l2 (hx.set hv _) h2
theorem Ui{x x':Array Value}(h:kN α x x'): F2 (fun a b=>a.2=b.2∧VR α a.1 b.1) x.zipIdx.toList x'.zipIdx.toList:=by
 have:∀(l l':List Value) (k:Nat),l.length=l'.length→(∀(i:Nat) (h:i<l.length) (h':i<l'.length),VR α l[i] l'[i])→
   F2 (fun (a b:Value×Nat)=>a.2=b.2∧VR α a.1 b.1) (l.zipIdx k) (l'.zipIdx k):=by
  intro l;induction l with
  | nil=>intro l' k hl _;cases l' with
   | nil=>exact .nil
   | cons _ _=>simp at hl
  | cons a l ih=>
   intro l' k hl hv;cases l' with
   | nil=>simp at hl
   | cons b l'=>exact .cons ⟨rfl,hv 0 (by simp) (by simp)⟩ (ih l' (k+1) (by simpa using hl) fun i h1 h2=>hv (i+1) (by simpa using h1) (by simpa using h2))
 have:=this x.toList x'.toList 0 (by simpa using h.1) fun i h1 h2=>by simpa using h.2 i (by simpa using h1) (by simpa using h2)
 simpa [Array.toList_zipIdx]using this
theorem wK(place:Nat→Option (Nat×Nat)): ∀(l l':List (Nat×Value)) {x x':Array Value},kN α x x'→PR α l l'→
  (Instr.fill place x l=none∧Instr.fill place x' l'=none)∨∃y y',Instr.fill place x l=some y∧Instr.fill place x' l'=some y'∧kN α y y'
 | [],_,x,x',hx,h=>by cases h;exact .inr ⟨x,x',rfl,rfl,hx⟩
 | (i,v) :: l,_,x,x',hx,h=>by
  cases h with
  | cons h1 h2=>
   rename_i b l2;obtain⟨i',v'⟩:=b;obtain⟨rfl,hv⟩:=h1;simp only [Instr.fill];cases place i with
   | none=>exact .inl ⟨rfl,rfl⟩
   | some p=>
    obtain⟨off,size⟩:=p;have hc:=VR.cells hv;have e1:(v'.cells.size≠size || off+v'.cells.size > x'.size:Bool)=(v.cells.size≠size || off+v.cells.size > x.size:Bool):=(by rw [←hc.1,←hx.1]);simp only [];by_cases e:(v.cells.size≠size || off+v.cells.size > x.size:Bool)=true
    ·rw [if_pos e,if_pos (by rw [e1];exact e)];exact .inl ⟨rfl,rfl⟩
    rw [if_neg e,if_neg (by rw [e1];exact e)];refine wK place l l2 ?_ h2;rw [←Array.foldl_toList,←Array.foldl_toList];exact zQ (cs:=x) (cs':=x') off _ _ hx (Ui hc)
theorem AL{A B C:Type}{R:AM→B→C→Prop}(hm:∀{α β:AM} {b c},Le α β→R α b c→R β b c)(f:A→Sem B)(f':A→Sem C):
  ∀(l:List A) {α:AM},(∀a∈l,∀β,Le α β→fU P R β (f a) (f' a))→fU P (fun γ x y=>F2 (R γ) x y) α (l.mapM f) (l.mapM f')
 | [],_,_=>cZ .nil
 | a :: l,α,h=>by rw [List.mapM_cons,List.mapM_cons];refine bV (h a (by simp) α (.refl _)) ?_;intro β b c hle hbc;refine bV (AL (R:=R) hm f f' l fun x hx γ hγ=>h x (by simp [hx]) γ (hle.trans hγ)) ?_;intro γ y z hle' hyz;exact cZ (.cons (hm hle' hbc) hyz)
theorem F2.eq{A:Type}: ∀{x y:List A},F2 (fun a b=>a=b) x y→x=y
 | _,_,.nil=>rfl
 | _,_,.cons h k=>by rw [h,F2.eq k]
theorem Ed{A B:Type}(f:A→Sem B)(l:Array A)(h:∀a∈l.toList,∀β,Le α β→fU P (fun _ x y=>x=y) β (f a) (f a)):
  fU P (fun _ x y=>x=y) α (l.mapM f) (l.mapM f):=by
 obtain⟨l⟩:=l;rw [List.mapM_toArray,map_eq_pure_bind];refine bV (AL (R:=fun _ x y=>x=y) (fun _ h=>h) f f l h) ?_;intro β x y _ hxy;exact cZ (by rw [hxy.eq])
theorem kN.refl{v:Value}(h:ig v=true): kN α v.cells v.cells:=(VR.refl h).cells
theorem NJ(hz:jc P){t:TypeId}(ht:t<P.types.size){x y:Array (Nat×Value)}(h:PR α x.toList y.toList): fU P VR α (Instr.build t x) (Instr.build t y):=by
 unfold Instr.build;refine bV (jE hz ht) ?_;rintro β z z' hle ⟨rfl,hg⟩;have hm:∀{γ:AM} (_:Le α γ) {l l':List (Nat×Value)},PR α l l'→PR γ l l':=by
  intro γ hγ l l' hl;induction hl with
  | nil=>exact .nil
  | cons h _ ih=>exact .cons ⟨h.1,h.2.mono hγ⟩ ih
 refine bV (dA t) ?_;rintro γ d d' hle2 ⟨rfl,-⟩;have hl:=hle.trans hle2;cases d with
 | struct fields=>
  refine bV (Ed _ fields fun f _ β _=>?_) ?_
  ·refine bV (fV f.type) ?_;rintro _ n n' - ⟨rfl,-⟩;exact cZ rfl
  rintro δ p p' hle3 rfl;rcases wK (α:=δ) (p[·]?) x.toList y.toList (kN.refl hg) (hm (hl.trans hle3) h)with ⟨e,e'⟩ | ⟨u,u',e,e',hu⟩
  ·rw [e,e'];exact cO
  rw [e,e'];exact cZ (.agg hu.1 hu.2)
 | array len elem=>
  refine bV (fV elem) ?_;rintro δ n n' hle3 ⟨rfl,-⟩;rcases wK (α:=δ) (fun i=>some (i*n,n)) x.toList y.toList (kN.refl hg) (hm (hl.trans hle3) h)with ⟨e,e'⟩ | ⟨u,u',e,e',hu⟩
  ·rw [e,e'];exact cO
  rw [e,e'];exact cZ (.agg hu.1 hu.2)
 | _=>exact cO
theorem AV(hz:jc P){t:TypeId}(ht:t<P.types.size)(len:Nat)(hG:len<G){x y:Array (Nat×Value)}(h:PR α x.toList y.toList): fU P VR α (Instr.buildSlice t len x) (Instr.buildSlice t len y):=by
 unfold Instr.buildSlice;have hm:∀{γ:AM} (_:Le α γ) {l l':List (Nat×Value)},PR α l l'→PR γ l l':=by
  intro γ hγ l l' hl;induction hl with
  | nil=>exact .nil
  | cons h _ ih=>exact .cons ⟨h.1,h.2.mono hγ⟩ ih
 refine bV (dA t) ?_;rintro β d d' hle ⟨rfl,hd⟩;cases d with
 | slice elem=>
  refine bV (fV elem) ?_;rintro γ n n' hle2 ⟨rfl,-⟩;by_cases hb:len*n > 2 ^ 24
  ·simp only [hb,if_true];exact rC
  simp only [hb,if_false];have key:∀{δ:AM} (z:Array Value),Le γ δ→kN δ z z→fU P VR δ
    (do
     let some cells:=Instr.fill (fun i=>some (i*n,n)) ((Array.range (len*n)).map (z[· % z.size]!)) x.toList | stuck "buildSlice: a part of the wrong size"
     pure (.slice (some (←newRow elem cells)) len len))
    (do
     let some cells:=Instr.fill (fun i=>some (i*n,n)) ((Array.range (len*n)).map (z[· % z.size]!)) y.toList | stuck "buildSlice: a part of the wrong size"
     pure (.slice (some (←newRow elem cells)) len len)):=by
   intro δ z hle3 hz';have hr:kN δ ((Array.range (len*n)).map (fun i=>z[i % z.size]!)) ((Array.range (len*n)).map (fun i=>z[i % z.size]!)):=by
    refine⟨rfl,fun i h1 h2=>?_⟩;simp only [Array.getElem_map,Array.getElem_range];by_cases e:i % z.size<z.size
    ·rw [getElem!_pos z _ e];exact hz'.2 _ e e
    rw [getElem!_neg z _ e];exact .bool false
   rcases wK (α:=δ) (fun i=>some (i*n,n)) x.toList y.toList hr (hm ((hle.trans hle2).trans hle3) h)with ⟨e,e'⟩ | ⟨u,u',e,e',hu⟩
   ·rw [e,e'];exact cO
   rw [e,e'];refine bV (uw elem elem hu) ?_;rintro ε a a' _ ⟨b,L,rfl,h2,h3,_,rfl⟩;have hv:=VR.sliceX (α:=ε) (off:=0) (len:=len) (cap:=len) h2 hG;rw [h3]at hv;exact cZ hv
  split
  ·exact key #[] (.refl _) .nil
  refine bV (jE hz (hz.sl _ _ ht hd)) ?_;rintro β' a b hle3 ⟨rfl,hg⟩;exact key a.cells hle3 (kN.refl hg)
 | _=>exact cO
theorem MI(n:Int): (IntKind.i64.wrap n).toNat<G:=by unfold IntKind.wrap G;simp only [IntKind.bits,IntKind.signed,Bool.true_and];split <;> rename_i h <;> simp at h <;> omega
theorem Cm (hz : jc P) {t : TypeId} (ht : t < P.types.size) {v v' u u' : Value} (hv : VR α v v') (hu : VR α u u') : fU P VR α (Instr.makeSlice t v u) (Instr.makeSlice t v' u') := by
  unfold Instr.makeSlice
  refine bV (dA t) ?_
  rintro β d d' hle ⟨rfl, hd⟩
  cases d with
  | slice elem =>
    refine bV (xM (hv.mono hle)) ?_
    rintro γ len len' hle1 rfl
    refine bV (xM (hu.mono (hle.trans hle1))) ?_
    rintro δ cap cap' hle2 rfl
    refine bV (qc elem) ?_
    rintro ε i i' hle3 ⟨rfl, -⟩
    have key : ∀ {δ : AM} (n : Nat) (z : Array Value), Le ε δ → kN δ z z → fU P VR δ
        (do let a ← newRow elem ((Array.range n).map (z[· % z.size]!)); pure (.slice (some a) (IntKind.i64.wrap len).toNat (IntKind.i64.wrap cap).toNat))
        (do let a ← newRow elem ((Array.range n).map (z[· % z.size]!)); pure (.slice (some a) (IntKind.i64.wrap len).toNat (IntKind.i64.wrap cap).toNat)) := by
      intro δ n z hle3 hz'
      have hr : kN δ ((Array.range n).map (fun i => z[i % z.size]!)) ((Array.range n).map (fun i => z[i % z.size]!)) := by
        refine ⟨rfl, fun i h1 h2 => ?_⟩
        simp only [Array.getElem_map, Array.getElem_range]
        by_cases e : i % z.size < z.size
        · rw [getElem!_pos z _ e]; exact hz'.2 _ e e
        · rw [getElem!_neg z _ e]; exact .bool false
      refine bV (uw elem elem hr) ?_
      rintro ε a a' _ ⟨b, L, rfl, h2, h3, _, rfl⟩
      have hv := VR.sliceX (α := ε) (off := 0) (len := (IntKind.i64.wrap len).toNat) (cap := (IntKind.i64.wrap cap).toNat) h2 (MI cap)
      rw [h3] at hv
      exact cZ hv
    have fin : fU P VR ε
        (do
          askRoom ((IntKind.i64.wrap cap).toNat * i.bytes)
          let n := (IntKind.i64.wrap cap).toNat * (← sizeOf elem)
          let zero ← if n = 0 then pure #[] else do pure (← zeroValue elem).cells
          let a ← newRow elem ((Array.range n).map (zero[· % zero.size]!))
          pure (.slice (some a) (IntKind.i64.wrap len).toNat (IntKind.i64.wrap cap).toNat))
        (do
          askRoom ((IntKind.i64.wrap cap).toNat * i.bytes)
          let n := (IntKind.i64.wrap cap).toNat * (← sizeOf elem)
          let zero ← if n = 0 then pure #[] else do pure (← zeroValue elem).cells
          let a ← newRow elem ((Array.range n).map (zero[· % zero.size]!))
          pure (.slice (some a) (IntKind.i64.wrap len).toNat (IntKind.i64.wrap cap).toNat)) := by
      have hroom : fU P (fun _ _ _ => True) ε (askRoom ((IntKind.i64.wrap cap).toNat * i.bytes)) (askRoom ((IntKind.i64.wrap cap).toNat * i.bytes)) := by
        unfold askRoom
        split
        · exact .mark (.pure trivial)
        · exact cZ trivial
      refine bV hroom ?_
      rintro ζ - - hle4 -
      refine bV (fV elem) ?_
      rintro η n n' hle5 ⟨rfl, -⟩
      dsimp only
      split
      · exact key _ #[] (hle4.trans hle5) .nil
      · refine bV (jE hz (hz.sl _ _ ht hd)) ?_
        rintro θ a b hle6 ⟨rfl, hg⟩
        exact key _ a.cells ((hle4.trans hle5).trans hle6) (kN.refl hg)
    simp only
    split
    · refine .dead fun m => ?_
      split
      · exact uP _ _ (fun m => gK _ m) m
      · split
        · exact uP _ _ (fun m => gK _ m) m
        · rfl
    · exact fin
  | _ => exact cO
theorem IG(s:TypeId){v v':Value}(h:VR α v v')(f:Nat): fU P VR α (Instr.fieldAt s v f) (Instr.fieldAt s v' f):=by
 unfold Instr.fieldAt;refine bV (dA s) ?_;rintro β d d' hle ⟨rfl,-⟩;cases d with
 | struct fields=>
  cases hf:fields[f]? with
  | none=>simp only [hf];exact cO
  | some fl=>
   simp only [hf];refine bV (lK (h.mono hle)) ?_;intro γ a a' _ ha;unfold fieldPlace;refine bV (R:=AR) ?_ fun _ _ _ _ hb=>cZ hb.ptr;refine bV (fV fl.type) ?_;rintro δ n n' hle3 ⟨rfl,-⟩;by_cases hn:n=0
   ·simp only [hn,if_true];obtain⟨b,off,L,rfl,h2,rfl⟩:=ha;exact .dead fun m=>rfl
   simp only [hn,if_false];exact cZ ((ha.mono hle3).add _)
 | _=>exact cO
theorem uT{A B:Type}{R:AM→A→B→Prop}{c:Prop}[Decidable c]{u:Unsupported}{k:IntKind}{x y:Int}{z:BoundsCode}{s:Sem B}: fU P R α (if c then (unsupported u:Sem A) else boundsPanic k x y z) s:=by
 split
 ·exact fP
 exact jD
theorem GY(t:TypeId){v v' i i':Value}(h:VR α v v')(hi:VR α i i'): fU P VR α (Instr.indexAt t v i) (Instr.indexAt t v' i'):=by
 unfold Instr.indexAt;refine bV (oH hi) ?_;rintro β ⟨k,n⟩ _ hle rfl;dsimp only;refine bV (dA t) ?_;rintro γ d d' hle2 ⟨rfl,-⟩;have h2:=h.mono (hle.trans hle2);cases d with
 | array len elem=>
  dsimp only;refine bV (lK h2) ?_;intro δ a a' hle3 ha;simp only [pure_bind];refine bV (dA t) ?_;rintro ε d2 d2' hle4 ⟨rfl,-⟩;by_cases hc:0≤n∧n<(len:Int)
  ·simp only [hc,and_self,if_true];refine bV (fV elem) ?_;rintro ζ s s' hle5 ⟨rfl,-⟩;exact cZ ((ha.mono (hle4.trans hle5)).add _).ptr
  simp only [hc,if_false];exact uT
 | slice elem=>
  cases h2 with
  | sliceN l c=>
   simp only [pure_bind];refine bV (dA t) ?_;rintro ε d2 d2' hle4 ⟨rfl,-⟩;exact jD
  | @sliceX b off len cap L hb hc0=>
   have ha:AR γ ⟨b,off,none⟩ ⟨L.blk,L.sh+off,none⟩:=⟨_,_,_,rfl,hb,rfl⟩;simp only [pure_bind];refine bV (dA t) ?_;rintro ε d2 d2' hle4 ⟨rfl,-⟩;by_cases hc:0≤n∧n<(len:Int)
   ·simp only [hc,and_self,if_true];refine bV (fV elem) ?_;rintro ζ s s' hle5 ⟨rfl,-⟩;exact cZ ((ha.mono (hle4.trans hle5)).add _).ptr
   simp only [hc,if_false];exact uT
  | @sliceG b off len cap es L hb hl ht=>
   have ha:AR γ ⟨b,off,none⟩ ⟨L.blk,L.sh+off,none⟩:=⟨_,_,_,rfl,hb,rfl⟩;simp only [pure_bind];refine bV (dA t) ?_;rintro ε d2 d2' hle4 ⟨rfl,-⟩;by_cases hc:0≤n∧n<(len:Int)
   ·simp only [hc,and_self,if_true];refine bV (fV elem) ?_;rintro ζ s s' hle5 ⟨rfl,-⟩;exact cZ ((ha.mono (hle4.trans hle5)).add _).ptr
   simp only [hc,if_false];exact uT
  | sliceE h=>
   simp only [pure_bind];refine bV (dA t) ?_;rintro ε d2 d2' hle4 ⟨rfl,-⟩;have hc:¬(0≤n∧n<((0:Nat):Int)):=(by omega);simp only [hc,if_false];exact uT
  | _=>exact cO
 | _=>exact cO
theorem MM(t:TypeId){v v':Value}(h:VR α v v')(f:Nat): fU P VR α (Instr.field t v f) (Instr.field t v' f):=by
 unfold Instr.field;refine bV (dA t) ?_;rintro β d d' hle ⟨rfl,-⟩;cases d with
 | struct fields=>
  cases hf:fields[f]? with
  | none=>simp only [hf];exact cO
  | some fl=>
   simp only [hf];refine bV (R:=kN) ?_ fun γ a a' _ ha=>IP _ ha _;cases h with
   | agg hx hr=>exact cZ (kN.mono hle ⟨hx,hr⟩)
   | _=>exact cO
 | _=>exact cO
theorem Oz(t:TypeId){v v' i i':Value}(h:VR α v v')(hi:VR α i i'): fU P VR α (Instr.index t v i) (Instr.index t v' i'):=by
 unfold Instr.index;refine bV (oH hi) ?_;rintro β ⟨k,n⟩ _ hle rfl;dsimp only;refine bV (dA t) ?_;rintro γ d d' hle2 ⟨rfl,-⟩;have h2:=h.mono (hle.trans hle2);cases d with
 | array len elem=>
  cases h2 with
  | agg hx hr=>
   by_cases hc:0≤n∧n<(len:Int)
   ·simp only [hc,and_self,if_true];refine bV (fV elem) ?_;rintro ζ s s' hle5 ⟨rfl,-⟩;exact IP _ (kN.mono hle5 ⟨hx,hr⟩) _
   simp only [hc,if_false];exact jD
  | _=>exact cO
 | string=>
  cases h2 with
  | string s=>
   dsimp only;split
   ·exact cZ (.int _ _)
   exact jD
  | _=>exact cO
 | _=>exact cO
theorem Hl(t:TypeId): fU P VR α (Instr.makeMap t none) (Instr.makeMap t none):=by unfold Instr.makeMap;exact fU.newObj (.map ⟨rfl,fun i h=>absurd h (Nat.not_lt_zero _)⟩ 0) fun β b L _ h _=>.pure (.map h)
theorem vF(t:TypeId){v v':Value}(h:VR α v v'): fU P VR α (Instr.makeInterface t v) (Instr.makeInterface t v'):=by
 unfold Instr.makeInterface;refine bV (dA t) ?_;rintro γ d d' hle ⟨rfl,-⟩;cases d with
 | interface _=>exact cO
 | _=>exact cZ (.iface t (h.mono hle))
theorem GK{v v':Value}(h:VR α v v')(i:Nat): fU P VR α (Instr.extract v i) (Instr.extract v' i):=by
 unfold Instr.extract;cases h with
 | tuple hx hr=>
  dsimp only;rcases kN.get? (α:=α) ⟨hx,hr⟩ i with ⟨e,e'⟩ | ⟨u,u',e,e',hu⟩
  ·rw [e,e'];exact cO
  rw [e,e'];exact cZ hu
 | _=>exact cO
def kR:Value→Bool
 | .bool _ | .int _ _ | .string _=>true
 | _=>false
theorem lH(e e':Bool)(n:Nat)(t:TypeId){v:Value}(h:kR v=true): fU P (fun _ _ _=>True) α (Instr.checkKey e (n+1) t v) (Instr.checkKey e' (n+1) t v):=by unfold Instr.checkKey;refine bV (dA t) ?_;rintro γ d d' hle ⟨rfl,-⟩;cases v <;> first | (simp [kR]at h;done) | (cases d <;> first | exact cO | exact cZ trivial)
theorem xh(t:TypeId){k:Value}(key:Value)(h:kR k=true): fU P (fun _ a b=>a=b) α (Op.equal t k key) (Op.equal t k key):=by
 unfold Op.equal Op.maxDepth;show fU P _ α (Op.equalIn (9999+1) t k key) (Op.equalIn (9999+1) t k key);unfold Op.equalIn;refine bV (dA t) ?_;rintro γ d d' hle ⟨rfl,-⟩;cases k with
 | bool x=>cases key <;> cases d <;> first | exact cZ rfl | exact cO | exact fP
 | string x=>cases key <;> cases d <;> first | exact cZ rfl | exact cO | exact fP
 | int kd x=>
  cases key with
  | int k' y=>
   cases d with
   | int _=>
    by_cases e:kd=k'
    ·simp only [e,if_true];exact cZ rfl
    simp only [e,if_false];exact cO
   | _=>exact cO
  | pointer p=>
   cases d with
   | int _=>
    split <;> first | exact cZ rfl | exact fP | exact cO | contradiction | simp_all
   | _=>first | exact cO | exact fP
  | _=>cases d <;> first | exact cO | exact fP
 | _=>simp [kR]at h
def FR(α:AM)(a b:Option (Nat×Value)): Prop:=(a=none∧b=none)∨∃i v v',a=some (i,v)∧b=some (i,v')∧VR α v v'
theorem FR.mono{β:AM}(h:Le α β){a b:Option (Nat×Value)}(k:FR α a b): FR β a b:=by
 rcases k with k | ⟨i,v,v',h1,h2,h3⟩
 ·exact .inl k
 exact .inr ⟨i,v,v',h1,h2,h3.mono h⟩
theorem yO(kd:TypeDesc)(k:Value): ∀(l l':List MapEntry) (i:Nat),F2 (o7 α) l l'→(Instr.findNow kd k l i=none∧Instr.findNow kd k l' i=none)∨
  ∃a b,Instr.findNow kd k l i=some a∧Instr.findNow kd k l' i=some b∧FR α a b
 | _,_,_,.nil=>.inr ⟨none,none,rfl,rfl,.inl ⟨rfl,rfl⟩⟩
 | _,_,i,@F2.cons _ _ _ e e' l l' h k'=>by
  simp only [Instr.findNow,←h.1];cases Instr.sameNow kd k e.key with
  | none=>exact .inl ⟨rfl,rfl⟩
  | some b=>cases b with
   | true=>exact .inr ⟨_,_,rfl,rfl,.inr ⟨i,_,_,rfl,rfl,h.2.2⟩⟩
   | false=>exact yO kd k l l' (i+1) k'
theorem F2.mono'{A B:Type}{R S:A→B→Prop}(h:∀a b,R a b→S a b): ∀{l l'},F2 R l l'→F2 S l l'
 | _,_,.nil=>.nil
 | _,_,.cons a b=>.cons (h _ _ a) (F2.mono' h b)
theorem o7.mono{β:AM}(h:Le α β){a b:MapEntry}(k:o7 α a b): o7 β a b:=⟨k.1,k.2.1,k.2.2.mono h⟩
theorem ru(t:TypeId){k:Value}(hk:kR k=true): ∀(l l':List MapEntry) (i:Nat) {α:AM},F2 (o7 α) l l'→fU P FR α (Instr.findAsking t k l i) (Instr.findAsking t k l' i)
 | _,_,_,_,.nil=>cZ (.inl ⟨rfl,rfl⟩)
 | _,_,i,α,@F2.cons _ _ _ e e' l l' h k'=>by
  unfold Instr.findAsking;rw [←h.1];refine bV (xh t e.key hk) ?_;rintro β b _ hle rfl;cases b
  ·exact ru t hk l l' (i+1) (k'.mono' fun _ _=>o7.mono hle)
  exact cZ (.inr ⟨i,_,_,rfl,rfl,h.2.2.mono hle⟩)
theorem iI.f2{x x':Array MapEntry}(h:iI α x x'): F2 (o7 α) x.toList x'.toList:=by
 have:∀(l l':List MapEntry),l.length=l'.length→(∀(i:Nat) (h:i<l.length) (h':i<l'.length),o7 α l[i] l'[i])→F2 (o7 α) l l':=by
  intro l;induction l with
  | nil=>intro l' hl _;cases l' with
   | nil=>exact .nil
   | cons _ _=>simp at hl
  | cons a l ih=>
   intro l' hl hv;cases l' with
   | nil=>simp at hl
   | cons b l'=>exact .cons (hv 0 (by simp) (by simp)) (ih l' (by simpa using hl) fun i h1 h2=>hv (i+1) (by simpa using h1) (by simpa using h2))
 exact this _ _ (by simpa using h.1) fun i h1 h2=>by simpa using h.2 i (by simpa using h1) (by simpa using h2)
theorem oC(t:TypeId){k:Value}(hk:kR k=true){l l':List MapEntry}(h:F2 (o7 α) l l'): fU P FR α (Instr.findKey t k l) (Instr.findKey t k l'):=by
 unfold Instr.findKey;refine bV (dA t) ?_;rintro β d d' hle ⟨rfl,-⟩;rcases yO d k l l' 0 (h.mono' fun _ _=>o7.mono hle)with ⟨e,e'⟩ | ⟨a,b,e,e',hab⟩
 ·rw [e,e'];exact ru t hk _ _ 0 (h.mono' fun _ _=>o7.mono hle)
 rw [e,e'];exact cZ hab
end
end
section
noncomputable section
variable {P:Program} {α:AM}
theorem VR.scalar_eq{v v':Value}(h:VR α v v')(hs:kR v=true): v'=v:=by cases h <;> first | rfl | (simp [kR]at hs)
theorem iI.nil:iI α #[] #[]:=⟨rfl,fun _ h=>absurd h (Nat.not_lt_zero _)⟩
theorem iI.get?{x x':Array MapEntry}(h:iI α x x')(i:Nat): (x[i]?=none∧x'[i]?=none)∨∃v v',x[i]?=some v∧x'[i]?=some v'∧o7 α v v':=by
 by_cases e:i<x.size
 ·have e':i<x'.size:=by rw [←h.1];exact e
  exact .inr ⟨x[i],x'[i],Array.getElem?_eq_getElem e,Array.getElem?_eq_getElem e',h.2 i e e'⟩
 exact .inl ⟨Array.getElem?_eq_none (by omega),Array.getElem?_eq_none (by rw [←h.1];omega)⟩
theorem iI.push{x x':Array MapEntry}(h:iI α x x'){v v':MapEntry}(hv:o7 α v v'): iI α (x.push v) (x'.push v'):=by
 refine⟨by simp [h.1],fun i h1 h2=>?_⟩;by_cases e:i<x.size
 ·rw [Array.getElem_push_lt e,Array.getElem_push_lt (by rw [←h.1];exact e)];exact h.2 i _ _
 have:i=x.size:=by simp at h1;omega
 subst this;have e2:x.size=x'.size:=h.1;simp only [Array.getElem_push_eq];have:(x'.push v')[x.size]'h2=v':=by simp [e2]
 rw [this];exact hv
theorem iI.modify{x x':Array MapEntry}(h:iI α x x')(i:Nat){f f':MapEntry→MapEntry}(hf:∀a b,o7 α a b→o7 α (f a) (f' b)): iI α (x.modify i f) (x'.modify i f'):=by
 refine⟨by simp [h.1],fun j h1 h2=>?_⟩;rw [Array.getElem_modify,Array.getElem_modify];split
 ·exact hf _ _ (h.2 _ _ _)
 exact h.2 _ _ _
theorem iI.isEmpty{x x':Array MapEntry}(h:iI α x x'): x.isEmpty=x'.isEmpty:=by simp [Array.isEmpty,h.1]
theorem I4(hz:jc P){t:TypeId}(ht:t<P.types.size){m m' k:Value}(h:VR α m m')(hk:kR k=true)(ok:Bool): fU P VR α (Instr.lookup t m k ok) (Instr.lookup t m' k ok):=by
 unfold Instr.lookup;refine bV (dA t) ?_;rintro β d d' hle ⟨rfl,hd⟩;cases d with
 | map kt elem=>
  have key:∀{γ:AM} {es es':Array MapEntry},iI γ es es'→fU P VR γ
    (do
     Instr.checkKey es.isEmpty 10000 kt k
     let (v,ok') ←match ←Instr.findKey kt k es.toList with
      | some (_,v)=>pure (v,true)
      | none=>pure (←zeroValue elem,false)
     pure (if ok then .tuple #[v,.bool ok'] else v))
    (do
     Instr.checkKey es'.isEmpty 10000 kt k
     let (v,ok') ←match ←Instr.findKey kt k es'.toList with
      | some (_,v)=>pure (v,true)
      | none=>pure (←zeroValue elem,false)
     pure (if ok then .tuple #[v,.bool ok'] else v)):=by
   intro γ es es' he;refine bV (lH _ _ 9999 kt hk) ?_;intro δ _ _ hle2 _;refine bV (oC kt hk (iI.f2 (he.mono hle2))) ?_;intro ε a b hle3 hab;rcases hab with ⟨rfl,rfl⟩ | ⟨i,v,v',rfl,rfl,hv⟩
   ·dsimp only;refine bV (jE hz (hz.mp _ _ _ ht hd)) ?_;rintro ζ z _ - ⟨rfl,hg⟩;cases ok
    ·exact cZ (VR.refl hg)
    refine cZ (.tuple rfl ?_);intro i h1 h2;match i,h1 with
    | 0,_=>exact VR.refl hg
    | 1,_=>exact .bool _
   dsimp only;cases ok
   ·exact cZ hv
   refine cZ (.tuple rfl ?_);intro i h1 h2;match i,h1 with
   | 0,_=>exact hv
   | 1,_=>exact .bool _
  have hm:=h.mono hle;cases hm with
  | mapN=>exact key .nil
  | map hb=>
   refine fU.getObj hb fun _ _ he=>?_;cases he with
   | map he cl=>exact key he
   | siter x p=>exact cO
  | _=>exact cO
 | _=>exact cO
theorem pg(a b:Value): fU P (fun _ x y=>x=y) α (Instr.keyThatStays a b) (Instr.keyThatStays a b):=by
 unfold Instr.keyThatStays;split
 ·exact cZ rfl
 exact .dead fun _=>rfl
theorem kV{r:Nat}{L:pY}(h:α r=some L): fU P xU α (getObj r) (getObj L.blk):=
 fU.getObj h fun _ _ he=>.pure he
theorem jL{r:Nat}{L:pY}(h:α r=some L){es es':Array MapEntry}(he:iI α es es')(cl:Nat): fU P (fun _ _ _=>True) α (setObj r (.map es cl)) (setObj L.blk (.map es' cl)):=
 fU.setObj h (.map he cl) (.pure trivial)
theorem um(t:TypeId){m m' k v v':Value}(h:VR α m m')(hk:kR k=true)(hv:VR α v v'): fU P (fun _ _ _=>True) α (Instr.mapUpdate t m k v) (Instr.mapUpdate t m' k v'):=by
 unfold Instr.mapUpdate;refine bV (dA t) ?_;rintro β d d' hle ⟨rfl,-⟩;cases d with
 | map kt elem=>
  have hm:=h.mono hle;cases hm with
  | mapN=>exact lW
  | map hb=>
   refine bV (kV hb) ?_;intro β0 _ _ hle0 he;cases he with
   | siter x p=>exact cO
   | @map es es' he cl=>
   dsimp only;refine bV (lH _ _ 9999 kt hk) ?_;intro δ _ _ hle2 _;refine bV (oC kt hk (iI.f2 (he.mono hle2))) ?_;intro ε a b hle3 hab;have he2:=he.mono (hle2.trans hle3);have hb2:=hle3 _ _ (hle2 _ _ (hle0 _ _ hb));have hv2:=hv.mono (hle.trans (hle0.trans (hle2.trans hle3)));rcases hab with ⟨rfl,rfl⟩ | ⟨i,u,u',rfl,rfl,hu⟩
   ·dsimp only;exact jL hb2 (he2.push (v:={ key:=k,val:=v,born:=cl }) (v':={ key:=k,val:=v',born:=cl }) ⟨rfl,rfl,hv2⟩) _
   dsimp only;have e:(((es'[i]?).map (·.key)).getD k)=(((es[i]?).map (·.key)).getD k):=by
    rcases he2.get? i with ⟨a,b⟩ | ⟨x,y,a,b,c⟩
    ·rw [a,b]
    rw [a,b];simp [c.1]
   rw [e];refine bV (pg _ _) ?_;rintro ζ q _ hle4 rfl;exact jL (hle4 _ _ hb2) ((he2.mono hle4).modify i (f:=fun e=>{ e with key:=q,val:=v }) (f':=fun e=>{ e with key:=q,val:=v' }) fun a b hab=>⟨rfl,hab.2.1,hv2.mono hle4⟩) _
  | _=>exact cO
 | _=>exact cO
theorem Ee(hz:jc P){t:TypeId}(ht:t<P.types.size){m m' k:Value}(h:VR α m m')(hk:kR k=true): fU P VR α (Instr.mapEntry t m k) (Instr.mapEntry t m' k):=by
 unfold Instr.mapEntry;refine bV (dA t) ?_;rintro β d d' hle ⟨rfl,hd⟩;cases d with
 | map kt elem=>
  have hm:=h.mono hle;cases hm with
  | mapN=>exact lW
  | map hb=>
   refine bV (kV hb) ?_;intro β0 _ _ hle0 he;cases he with
   | siter x p=>exact cO
   | @map es es' he cl=>
   dsimp only;refine bV (lH _ _ 9999 kt hk) ?_;intro δ _ _ hle2 _;refine bV (oC kt hk (iI.f2 (he.mono hle2))) ?_;intro ε a b hle3 hab;have he2:=he.mono (hle2.trans hle3);have hb2:=hle3 _ _ (hle2 _ _ (hle0 _ _ hb));rcases hab with ⟨rfl,rfl⟩ | ⟨i,u,u',rfl,rfl,hu⟩
   ·dsimp only;refine bV (jE hz (hz.mp _ _ _ ht hd)) ?_;rintro ζ z _ hle4 ⟨rfl,hg⟩;refine bV (jL (hle4 _ _ hb2) ((he2.mono hle4).push ⟨rfl,rfl,VR.refl hg⟩) _) ?_;intro η _ _ _ _;refine cZ (.tuple rfl ?_);intro i h1 h2;match i,h1 with
    | 0,_=>exact VR.refl hg
    | 1,_=>exact .int _ _
   dsimp only;have e:(((es'[i]?).map (·.key)).getD k)=(((es[i]?).map (·.key)).getD k)∧(((es'[i]?).map fun x=>(x.born:Int)).getD 0)=(((es[i]?).map fun x=>(x.born:Int)).getD 0):=by
    rcases he2.get? i with ⟨a,b⟩ | ⟨x,y,a,b,c⟩
    ·rw [a,b];exact⟨rfl,rfl⟩
    rw [a,b];simp [c.1,c.2.1]
   rw [e.1,e.2];refine bV (pg _ _) ?_;rintro ζ q _ hle4 rfl;refine bV (jL (hle4 _ _ hb2) ((he2.mono hle4).modify i (f:=fun e=>{ e with key:=q }) (f':=fun e=>{ e with key:=q }) fun a b hab=>⟨rfl,hab.2.1,hab.2.2⟩) _) ?_;intro η _ _ hle5 _;refine cZ (.tuple rfl ?_);intro i h1 h2;match i,h1 with
   | 0,_=>exact hu.mono (hle4.trans hle5)
   | 1,_=>exact .int _ _
  | _=>exact cO
 | _=>exact cO
theorem GL(p:MapEntry→Bool)(hp:∀a b:MapEntry,a.born=b.born→p a=p b){x x':Array MapEntry}(h:iI α x x'): x'.findIdx? p=x.findIdx? p:=by
 have:∀(l l':List MapEntry),F2 (o7 α) l l'→l'.findIdx? p=l.findIdx? p:=by
  intro l l' k;induction k with
  | nil=>rfl
  | cons h _ ih=>simp only [List.findIdx?_cons,hp _ _ h.2.1,ih]
 have:=this _ _ h.f2;obtain⟨l⟩:=x;obtain⟨l'⟩:=x';simpa using this
theorem zN(t:TypeId){m m' s s' v v':Value}(h:VR α m m')(hs:VR α s s')(hv:VR α v v'): fU P (fun _ _ _=>True) α (Instr.entryStore t m s v) (Instr.entryStore t m' s' v'):=by
 unfold Instr.entryStore;cases h with
 | map hb=>
  refine bV (kV hb) ?_;intro β0 _ _ hle0 he;cases he with
  | siter x p=>exact cO
  | @map es es' he cl=>
  dsimp only;refine bV (xM (hs.mono hle0)) ?_;rintro β n _ hle rfl;have he2:=he.mono hle;rw [GL (fun e=>(e.born:Int) == n) (fun a b e=>by simp [e]) he2];cases es.findIdx? (fun e=>(e.born:Int) == n)with
  | none=>exact fP
  | some i=>exact jL (hle _ _ (hle0 _ _ hb)) (he2.modify i (f:=fun e=>{ e with val:=v }) (f':=fun e=>{ e with val:=v' }) fun a b hab=>⟨hab.1,hab.2.1,hv.mono (hle0.trans hle)⟩) _
 | _=>exact cO
theorem iI.erase{x x':Array MapEntry}(h:iI α x x')(i:Nat): iI α (x.eraseIdxIfInBounds i) (x'.eraseIdxIfInBounds i):=by
 have e1:∀y:Array MapEntry,(y.eraseIdxIfInBounds i).toList=y.toList.eraseIdx i:=by
  intro y;unfold Array.eraseIdxIfInBounds;split
  ·simp
  rw [List.eraseIdx_of_length_le];simpa using (by omega)
 have hl:(x.toList.eraseIdx i).length=(x'.toList.eraseIdx i).length:=by simp [List.length_eraseIdx,h.1]
 have h1:∀y:Array MapEntry,(y.eraseIdxIfInBounds i).size=(y.toList.eraseIdx i).length:=fun y=>by rw [←e1,Array.length_toList]
 refine⟨by rw [h1,h1,hl],fun j a b=>?_⟩;have g:∀(y:Array MapEntry) (hj:j<(y.eraseIdxIfInBounds i).size),(y.eraseIdxIfInBounds i)[j]=(y.toList.eraseIdx i)[j]'(by rw [←h1];exact hj):=by intro y hj;simp only [←Array.getElem_toList,e1]
 rw [g,g,List.getElem_eraseIdx,List.getElem_eraseIdx];split
 ·simpa using h.2 j (by have:=h1 x;rw [List.length_eraseIdx]at this;simp at this;split at this <;> omega) (by have:=h1 x';rw [List.length_eraseIdx]at this;simp at this;split at this <;> omega)
 simpa using h.2 (j+1) (by have:=h1 x;rw [List.length_eraseIdx]at this;simp at this;split at this <;> omega) (by have:=h1 x';rw [List.length_eraseIdx]at this;simp at this;split at this <;> omega)
end
end
end Go.Den
