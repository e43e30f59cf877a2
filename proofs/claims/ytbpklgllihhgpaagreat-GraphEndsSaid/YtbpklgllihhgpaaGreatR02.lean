import Derived.Test.YtbpklgllihhgpaaGreatR01
set_option maxRecDepth 100000
set_option maxHeartbeats 16000000
namespace Go.Den
section
variable {P:Program}
structure ZeroOK(P:Program): Prop where
 zero:∀t i v,t<P.types.size→P.info? t=some i→i.zero=some v→ground v=true
 arr:∀t n e,t<P.types.size→P.underlying t=some (.array n e)→n<G
 sl:∀t e,t<P.types.size→P.underlying t=some (.slice e)→e<P.types.size
 mp:∀t k e,t<P.types.size→P.underlying t=some (.map k e)→e<P.types.size
 pt:∀t e,t<P.types.size→P.underlying t=some (.pointer e)→e<P.types.size
inductive NR(α:AM): Next→Next→Prop where
 | value {v v':Value} (h:VR α v v'):NR α (.value v) (.value v')
 | skip:NR α .skip .skip
 | enter {f:FuncId} {x x':Array Value} (h:VRs α x x'):NR α (.enter f x) (.enter f x')
def AR(α:AM)(a a':Addr): Prop:=∃b off L,a=⟨b,off,none⟩∧α b=some L∧a'=⟨L.blk,L.sh+off,none⟩
theorem AR.mono{α β:AM}(hle:Le α β){a a':Addr}(h:AR α a a'): AR β a a':=let ⟨b,off,L,h1,h2,h3⟩:=h;⟨b,off,L,h1,hle _ _ h2,h3⟩
theorem AR.add{α:AM}{a a':Addr}(h:AR α a a')(n:Nat): AR α (a.add n) (a'.add n):=by
 obtain⟨b,off,L,rfl,h2,rfl⟩:=h;unfold Addr.add;by_cases hn:n=0
 ·simp only [hn,if_true];exact⟨b,off,L,rfl,h2,rfl⟩
 simp only [hn,if_false];exact⟨b,off+n,L,rfl,h2,by simp [Nat.add_assoc]⟩
theorem AR.ptr{α:AM}{a a':Addr}(h:AR α a a'): VR α (.pointer (some a)) (.pointer (some a')):=by obtain⟨b,off,L,rfl,h2,rfl⟩:=h;exact .ptr h2
section
variable {α:AM}
theorem sim_pure{A B:Type}{R:AM→A→B→Prop}{a:A}{b:B}(h:R α a b): Sim P R α (pure a) (pure b):=Sim.pure h
theorem sim_bind{A B C D:Type}{R:AM→A→B→Prop}{S:AM→C→D→Prop}{s:Sem A}{s':Sem B}{f:A→Sem C}{f':B→Sem D}(h:Sim P R α s s')
 (k:∀β a b,Le α β→R β a b→Sim P S β (f a) (f' b)):Sim P S α (s >>= f) (s' >>= f'):=Sim.bind h k
theorem sim_stuck{A B:Type}{R:AM→A→B→Prop}{s:Sem B}{w:String}: Sim P R α (stuck w:Sem A) s:=.dead fun _=>rfl
theorem sim_unsupported{A B:Type}{R:AM→A→B→Prop}{s:Sem B}{w:Unsupported}: Sim P R α (unsupported w:Sem A) s:=.dead fun _=>rfl
theorem sim_stuck_bind{A B C:Type}{R:AM→A→B→Prop}{s:Sem B}{w:String}{f:C→Sem A}: Sim P R α ((stuck w:Sem C) >>= f) s:=.dead fun _=>rfl
theorem sim_unsupported_bind{A B C:Type}{R:AM→A→B→Prop}{s:Sem B}{w:Unsupported}{f:C→Sem A}: Sim P R α ((unsupported w:Sem C) >>= f) s:=.dead fun _=>rfl
theorem dead_bindr{A C:Type}(s:Sem A)(f:A→Sem C)(h:∀a m,arun P (f a) m=none)(m:Mem): arun P (s >>= f) m=none:=by
 show arun P (s.bind f) m=none;rw [arun_bind];cases arun P s m with
 | none=>rfl
 | some x=>exact h _ _
theorem dead_bindl{A C:Type}(s:Sem A)(f:A→Sem C)(h:∀m,arun P s m=none)(m:Mem): arun P (s >>= f) m=none:=by show arun P (s.bind f) m=none;rw [arun_bind,h];rfl
theorem runtimePanic_dead{A:Type}(e:RuntimeError)(m:Mem): arun P (runtimePanic e:Sem A) m=none:=by
 unfold runtimePanic;refine dead_bindr _ _ (fun p m=>?_) m;cases e with
 | typeAssertion i c a x=>exact dead_bindr _ _ (fun _ m=>dead_bindr _ _ (fun _ _=>rfl) m) m
 | panicNil=>exact dead_bindr _ _ (fun _ m=>dead_bindr _ _ (fun _ _=>rfl) m) m
 | _=>rfl
theorem boundsPanic_dead{A:Type}(k:IntKind)(x y:Int)(c:BoundsCode)(m:Mem): arun P (boundsPanic k x y c:Sem A) m=none:=by
 unfold boundsPanic;simp only [];split
 ·exact dead_bindr _ _ (fun _ m=>runtimePanic_dead _ m) m
 exact dead_bindr _ _ (fun _ m=>runtimePanic_dead _ m) m
theorem sim_runtimePanic{A B:Type}{R:AM→A→B→Prop}{s:Sem B}{e:RuntimeError}: Sim P R α (runtimePanic e:Sem A) s:=.dead (runtimePanic_dead e)
theorem sim_boundsPanic{A B:Type}{R:AM→A→B→Prop}{s:Sem B}{k:IntKind}{x y:Int}{c:BoundsCode}: Sim P R α (boundsPanic k x y c:Sem A) s:=.dead (boundsPanic_dead k x y c)
theorem sim_program{A B:Type}{R:AM→A→B→Prop}{f:Program→Sem A}{f':Program→Sem B}(h:Sim P R α (f P) (f' P)): Sim P R α (program >>= f) (program >>= f'):=Sim.program h
theorem sim_typeInfo(t:TypeId): Sim P (fun _ a b=>a=b∧P.info? t=some a) α (typeInfo t) (typeInfo t):=by
 unfold typeInfo;refine sim_program ?_;cases h:P.info? t with
 | none=>exact sim_stuck
 | some i=>exact sim_pure ⟨rfl,rfl⟩
theorem sim_underlying(t:TypeId): Sim P (fun _ a b=>a=b∧P.underlying t=some a) α (underlying t) (underlying t):=by
 unfold underlying;refine sim_program ?_;cases h:P.underlying t with
 | none=>exact sim_stuck
 | some i=>exact sim_pure ⟨rfl,rfl⟩
theorem sim_sizeOf(t:TypeId): Sim P (fun _ a b=>a=b∧P.cellsOf t=a) α (sizeOf t) (sizeOf t):=by unfold sizeOf;refine sim_bind (sim_typeInfo t) ?_;rintro β a b - ⟨rfl,h⟩;exact sim_pure ⟨rfl,by simp [Program.cellsOf,h]⟩
theorem sim_isAgg(t:TypeId): Sim P (fun _ a b=>a=b) α (isAgg t) (isAgg t):=by unfold isAgg;refine sim_bind (sim_underlying t) ?_;rintro β a b - ⟨rfl,h⟩;cases a <;> exact sim_pure rfl
theorem sim_zeroValue(hz:ZeroOK P){t:TypeId}(ht:t<P.types.size): Sim P (fun _ a b=>a=b∧ground a=true) α (zeroValue t) (zeroValue t):=by
 unfold zeroValue;refine sim_bind (sim_typeInfo t) ?_;rintro β a b - ⟨rfl,h⟩;cases hv:a.zero with
 | none=>exact sim_unsupported
 | some v=>exact sim_pure ⟨rfl,hz.zero _ _ _ ht h hv⟩
theorem sim_asIntOf{v v':Value}(h:VR α v v'): Sim P (fun _ a b=>a=b) α (asIntOf v) (asIntOf v'):=by cases h <;> first | exact sim_pure rfl | exact sim_stuck | exact sim_unsupported
theorem sim_asInt{v v':Value}(h:VR α v v'): Sim P (fun _ a b=>a=b) α (asInt v) (asInt v'):=by unfold asInt;refine sim_bind (sim_asIntOf h) ?_;rintro β a b - rfl;exact sim_pure rfl
theorem sim_sureAddr{v v':Value}(h:VR α v v'): Sim P AR α (Instr.sureAddr v) (Instr.sureAddr v'):=by
 cases h with
 | ptr h=>exact sim_pure ⟨_,_,_,rfl,h,rfl⟩
 | _=>exact sim_stuck
theorem sim_load{a a':Addr}(h:AR α a a')(m m':Mode): Sim P VR α (load a m) (load a' m'):=by obtain⟨b,off,L,rfl,h2,rfl⟩:=h;exact .load h2 fun v v' hv=>.pure hv
theorem sim_store{a a':Addr}(h:AR α a a'){v v':Value}(hv:VR α v v')(m m':Mode): Sim P (fun _ _ _=>True) α (store a v m) (store a' v' m'):=by obtain⟨b,off,L,rfl,h2,rfl⟩:=h;exact .store h2 hv (.pure trivial)
theorem VRs.push{x x':Array Value}(h:VRs α x x'){v v':Value}(hv:VR α v v'): VRs α (x.push v) (x'.push v'):=by
 refine⟨by simp [h.1],fun i h1 h2=>?_⟩;by_cases e:i<x.size
 ·rw [Array.getElem_push_lt e,Array.getElem_push_lt (by rw [←h.1];exact e)];exact h.2 i _ _
 have:i=x.size:=by simp at h1;omega
 subst this;have e2:x.size=x'.size:=h.1;simp only [Array.getElem_push_eq];have:(x'.push v')[x.size]'h2=v':=by simp [e2]
 rw [this];exact hv
theorem VRs.append{x x' y y':Array Value}(h:VRs α x x')(k:VRs α y y'): VRs α (x ++ y) (x' ++ y'):=by
 refine⟨by simp [h.1,k.1],fun i h1 h2=>?_⟩;by_cases e:i<x.size
 ·rw [Array.getElem_append_left e,Array.getElem_append_left (by rw [←h.1];exact e)];exact h.2 i _ _
 rw [Array.getElem_append_right (by omega),Array.getElem_append_right (by rw [←h.1];omega)];have e2:=h.1;simp only [←e2];exact k.2 _ _ _
theorem VRs.extract{x x':Array Value}(h:VRs α x x')(i j:Nat): VRs α (x.extract i j) (x'.extract i j):=by refine⟨by simp [h.1],fun k h1 h2=>?_⟩;simp only [Array.getElem_extract];exact h.2 _ _ _
theorem VRs.set{x x':Array Value}(h:VRs α x x'){v v':Value}(hv:VR α v v')(i:Nat): VRs α (x.setIfInBounds i v) (x'.setIfInBounds i v'):=by
 refine⟨by simp [h.1],fun k h1 h2=>?_⟩;rw [Array.getElem_setIfInBounds (by simpa using h1),Array.getElem_setIfInBounds (by simpa using h2)];split
 ·exact hv
 exact h.2 _ _ _
theorem VRs.get?{x x':Array Value}(h:VRs α x x')(i:Nat): (x[i]?=none∧x'[i]?=none)∨∃v v',x[i]?=some v∧x'[i]?=some v'∧VR α v v':=by
 by_cases e:i<x.size
 ·have e':i<x'.size:=by rw [←h.1];exact e
  exact .inr ⟨x[i],x'[i],Array.getElem?_eq_getElem e,Array.getElem?_eq_getElem e',h.2 i e e'⟩
 exact .inl ⟨Array.getElem?_eq_none (by omega),Array.getElem?_eq_none (by rw [←h.1];omega)⟩
theorem VRs.nil:VRs α #[] #[]:=⟨rfl,fun _ h=>absurd h (Nat.not_lt_zero _)⟩
theorem VRs.one{v v':Value}(h:VR α v v'): VRs α #[v] #[v']:=⟨rfl,fun i h1 _=>by
 have:i=0:=by simp at h1;omega
 subst this;exact h⟩
theorem VR.cells{v v':Value}(h:VR α v v'): VRs α v.cells v'.cells:=by
 cases h with
 | agg hx h=>exact⟨hx,h⟩
 | bool b=>exact .one (.bool b)
 | int k n=>exact .one (.int k n)
 | string s=>exact .one (.string s)
 | ptrN=>exact .one .ptrN
 | ptr h=>exact .one (.ptr h)
 | sliceN l c=>exact .one (.sliceN l c)
 | sliceX h hc=>exact .one (.sliceX h hc)
 | sliceG h hl ht=>exact .one (.sliceG h hl ht)
 | sliceE h=>exact .one (.sliceE h)
 | mapN=>exact .one .mapN
 | map h=>exact .one (.map h)
 | func hx hy h k=>exact .one (.func hx hy h k)
 | nilFunc=>exact .one .nilFunc
 | nilIface=>exact .one .nilIface
 | iface t h=>exact .one (.iface t h)
 | tuple hx h=>exact .one (.tuple hx h)
theorem sim_loadCellsFrom{a a':Addr}: ∀(n i:Nat) {α:AM} (_:AR α a a') {acc acc':Array Value} (_:VRs α acc acc'),Sim P VRs α (loadCellsFrom a i n acc) (loadCellsFrom a' i n acc')
 | 0,_,_,_,_,_,hacc=>sim_pure hacc
 | n+1,i,α,h,acc,acc',hacc=>by unfold loadCellsFrom;refine sim_bind (sim_load (h.add i) _ _) ?_;intro β v v' hle hv;exact sim_loadCellsFrom n (i+1) (h.mono hle) ((hacc.mono hle).push hv)
theorem sim_loadCells{a a':Addr}(h:AR α a a')(n:Nat): Sim P VRs α (loadCells a n) (loadCells a' n):=sim_loadCellsFrom n 0 h .nil
theorem sim_storeCells{a a':Addr}: ∀(l l':List Value) (i:Nat) {α:AM} (_:AR α a a') (_:l.length=l'.length) (_:∀(j:Nat) (h:j<l.length) (h':j<l'.length),VR α l[j] l'[j]),
  Sim P (fun _ _ _=>True) α (storeCells a l i) (storeCells a' l' i)
 | [],[],_,_,_,_,_=>sim_pure trivial
 | [],_ :: _,_,_,_,hl,_=>by simp at hl
 | _ :: _,[],_,_,_,hl,_=>by simp at hl
 | v :: l,v' :: l',i,α,h,hl,hv=>by unfold storeCells;refine sim_bind (sim_store (h.add i) (hv 0 (by simp) (by simp)) _ _) ?_;intro β _ _ hle _;exact sim_storeCells l l' (i+1) (h.mono hle) (by simpa using hl) fun j h1 h2=>(hv (j+1) (by simpa using h1) (by simpa using h2)).mono hle
theorem sim_storeCells_arr{a a':Addr}(h:AR α a a'){x x':Array Value}(hx:VRs α x x')(i:Nat): Sim P (fun _ _ _=>True) α (storeCells a x.toList i) (storeCells a' x'.toList i):=
 sim_storeCells _ _ i h (by simpa using hx.1) fun j h1 h2=>by simpa using hx.2 j (by simpa using h1) (by simpa using h2)
theorem sim_loadVar(t:TypeId){a a':Addr}(h:AR α a a'): Sim P VR α (loadVar t a) (loadVar t a'):=by
 unfold loadVar;refine sim_bind (sim_isAgg t) ?_;rintro β x y hle rfl;cases x
 ·exact sim_load (h.mono hle) _ _
 refine sim_bind (sim_sizeOf t) ?_;rintro γ n n' hle' ⟨rfl,-⟩;refine sim_bind (sim_loadCells ((h.mono hle).mono hle') n) ?_;intro δ c c' _ hc;exact sim_pure (.agg hc.1 hc.2)
theorem sim_storeVar(t:TypeId){a a':Addr}(h:AR α a a'){v v':Value}(hv:VR α v v'): Sim P (fun _ _ _=>True) α (storeVar t a v) (storeVar t a' v'):=by
 unfold storeVar;refine sim_bind (sim_sizeOf t) ?_;rintro β n n' hle ⟨rfl,-⟩;have hc:=(hv.mono hle).cells;by_cases e:v.cells.size≠n
 ·simp only [e,ne_eq,not_false_eq_true,if_true];exact sim_stuck_bind
 have e':¬v'.cells.size≠n:=by rw [←hc.1];exact e
 simp only [e,e',if_false];exact sim_storeCells_arr (h.mono hle) hc 0
def NewAR(n:Nat)(α:AM)(a a':Addr): Prop:=∃b L,a=⟨b,0,none⟩∧α b=some L∧L.sh=0∧L.tot=n∧a'=⟨L.blk,0,none⟩
theorem NewAR.ar{n:Nat}{a a':Addr}(h:NewAR n α a a'): AR α a a':=let ⟨b,L,h1,h2,h3,_,h5⟩:=h;⟨b,0,L,h1,h2,by rw [h3];exact h5⟩
theorem sim_newRow(e e':TypeId){x x':Array Value}(h:VRs α x x'): Sim P (NewAR x.size) α (newRow e x) (newRow e' x'):=
 Sim.newCells h fun _ b L _ h2 h3 h4=>.pure ⟨b,L,rfl,h2,h3,h4,rfl⟩
theorem sim_newVar(e e':TypeId){v v':Value}(h:VR α v v'): Sim P (NewAR v.cells.size) α (newVar e v) (newVar e' v'):=sim_newRow e e' h.cells
theorem sim_part(t:TypeId){x x':Array Value}(h:VRs α x x')(off:Nat): Sim P VR α (part t x off) (part t x' off):=by
 unfold part;refine sim_bind (sim_isAgg t) ?_;rintro β a b hle rfl;cases a
 ·rcases (h.mono hle).get? off with ⟨e,e'⟩ | ⟨v,v',e,e',hv⟩
  ·rw [e,e'];exact sim_stuck
  rw [e,e'];exact sim_pure hv
 refine sim_bind (sim_sizeOf t) ?_;rintro γ n n' hle' ⟨rfl,-⟩;have hx:=((h.mono hle).mono hle').extract off (off+n);exact sim_pure (.agg hx.1 hx.2)
end
end
section
noncomputable section
variable {P:Program} {α:AM}
theorem sim_value {s : Sem Value} {s' : Sem Value} (h : Sim P VR α s s') : Sim P NR α (do pure (Next.value (← s))) (do pure (Next.value (← s'))) :=
  sim_bind h fun _ _ _ _ hv => sim_pure (.value hv)
theorem sim_unit {s : Sem Unit} {s' : Sem Unit} (h : Sim P (fun _ _ _ => True) α s s') : Sim P NR α (do s; pure Next.skip) (do s'; pure Next.skip) :=
  sim_bind h fun _ _ _ _ _ => sim_pure .skip
theorem sim_alloc(hz:ZeroOK P){e:TypeId}(ht:e<P.types.size): Sim P VR α (Instr.alloc e true (.tuple #[])) (Instr.alloc e true (.tuple #[])):=by unfold Instr.alloc;refine sim_bind (sim_zeroValue hz ht) ?_;rintro β v v' - ⟨rfl,hg⟩;refine sim_bind (sim_newVar e e (VR.refl hg)) ?_;rintro γ a a' - ha;exact sim_pure ha.ar.ptr
theorem sim_box(e:TypeId){v v':Value}(h:VR α v v'): Sim P VR α (Instr.box e v) (Instr.box e v'):=by unfold Instr.box;refine sim_bind (sim_newVar e e h) ?_;rintro γ a a' - ha;exact sim_pure ha.ar.ptr
inductive F2{A B:Type}(R:A→B→Prop): List A→List B→Prop where
 | nil:F2 R [] []
 | cons {a:A} {b:B} {l:List A} {l':List B} (h:R a b) (k:F2 R l l'):F2 R (a :: l) (b :: l')
def PR(α:AM)(x y:List (Nat×Value)): Prop:=F2 (fun a b=>a.1=b.1∧VR α a.2 b.2) x y
theorem fill_foldl{cs cs':Array Value}(off:Nat): ∀(l l':List (Value×Nat)) {x x':Array Value},VRs α x x'→F2 (fun a b=>a.2=b.2∧VR α a.1 b.1) l l'→
  VRs α (l.foldl (fun cs (c,j)=>cs.setIfInBounds (off+j) c) x) (l'.foldl (fun cs (c,j)=>cs.setIfInBounds (off+j) c) x')
 | [],_,_,_,hx,h=>by cases h;exact hx
 | (c,j) :: l,_,x,x',hx,h=>by
  cases h with
  | cons h1 h2=>
   rename_i b l2;obtain⟨c',j'⟩:=b;obtain⟨rfl,hv⟩:=h1;exact fill_foldl (cs:=cs) (cs':=cs') off l l2 (hx.set hv _) h2
theorem zip_rel{x x':Array Value}(h:VRs α x x'): F2 (fun a b=>a.2=b.2∧VR α a.1 b.1) x.zipIdx.toList x'.zipIdx.toList:=by
 have:∀(l l':List Value) (k:Nat),l.length=l'.length→(∀(i:Nat) (h:i<l.length) (h':i<l'.length),VR α l[i] l'[i])→
   F2 (fun (a b:Value×Nat)=>a.2=b.2∧VR α a.1 b.1) (l.zipIdx k) (l'.zipIdx k):=by
  intro l;induction l with
  | nil=>intro l' k hl _;cases l' with
   | nil=>exact .nil
   | cons _ _=>simp at hl
  | cons a l ih=>
   intro l' k hl hv;cases l' with
   | nil=>simp at hl
   | cons b l'=>exact .cons ⟨rfl,hv 0 (by simp) (by simp)⟩ (ih l' (k+1) (by simpa using hl) fun i h1 h2=>hv (i+1) (by simpa using h1) (by simpa using h2))
 have:=this x.toList x'.toList 0 (by simpa using h.1) fun i h1 h2=>by simpa using h.2 i (by simpa using h1) (by simpa using h2)
 simpa [Array.toList_zipIdx]using this
theorem fill_rel(place:Nat→Option (Nat×Nat)): ∀(l l':List (Nat×Value)) {x x':Array Value},VRs α x x'→PR α l l'→
  (Instr.fill place x l=none∧Instr.fill place x' l'=none)∨∃y y',Instr.fill place x l=some y∧Instr.fill place x' l'=some y'∧VRs α y y'
 | [],_,x,x',hx,h=>by cases h;exact .inr ⟨x,x',rfl,rfl,hx⟩
 | (i,v) :: l,_,x,x',hx,h=>by
  cases h with
  | cons h1 h2=>
   rename_i b l2;obtain⟨i',v'⟩:=b;obtain⟨rfl,hv⟩:=h1;simp only [Instr.fill];cases place i with
   | none=>exact .inl ⟨rfl,rfl⟩
   | some p=>
    obtain⟨off,size⟩:=p;have hc:=VR.cells hv;have e1:(v'.cells.size≠size || off+v'.cells.size > x'.size:Bool)=(v.cells.size≠size || off+v.cells.size > x.size:Bool):=(by rw [←hc.1,←hx.1]);simp only [];by_cases e:(v.cells.size≠size || off+v.cells.size > x.size:Bool)=true
    ·rw [if_pos e,if_pos (by rw [e1];exact e)];exact .inl ⟨rfl,rfl⟩
    rw [if_neg e,if_neg (by rw [e1];exact e)];refine fill_rel place l l2 ?_ h2;rw [←Array.foldl_toList,←Array.foldl_toList];exact fill_foldl (cs:=x) (cs':=x') off _ _ hx (zip_rel hc)
theorem sim_mapM{A B C:Type}{R:AM→B→C→Prop}(hm:∀{α β:AM} {b c},Le α β→R α b c→R β b c)(f:A→Sem B)(f':A→Sem C):
  ∀(l:List A) {α:AM},(∀a∈l,∀β,Le α β→Sim P R β (f a) (f' a))→Sim P (fun γ x y=>F2 (R γ) x y) α (l.mapM f) (l.mapM f')
 | [],_,_=>sim_pure .nil
 | a :: l,α,h=>by rw [List.mapM_cons,List.mapM_cons];refine sim_bind (h a (by simp) α (.refl _)) ?_;intro β b c hle hbc;refine sim_bind (sim_mapM (R:=R) hm f f' l fun x hx γ hγ=>h x (by simp [hx]) γ (hle.trans hγ)) ?_;intro γ y z hle' hyz;exact sim_pure (.cons (hm hle' hbc) hyz)
theorem F2.eq{A:Type}: ∀{x y:List A},F2 (fun a b=>a=b) x y→x=y
 | _,_,.nil=>rfl
 | _,_,.cons h k=>by rw [h,F2.eq k]
theorem sim_mapM_arr{A B:Type}(f:A→Sem B)(l:Array A)(h:∀a∈l.toList,∀β,Le α β→Sim P (fun _ x y=>x=y) β (f a) (f a)):
  Sim P (fun _ x y=>x=y) α (l.mapM f) (l.mapM f):=by
 obtain⟨l⟩:=l;rw [List.mapM_toArray,map_eq_pure_bind];refine sim_bind (sim_mapM (R:=fun _ x y=>x=y) (fun _ h=>h) f f l h) ?_;intro β x y _ hxy;exact sim_pure (by rw [hxy.eq])
theorem VRs.refl{v:Value}(h:ground v=true): VRs α v.cells v.cells:=(VR.refl h).cells
theorem sim_build(hz:ZeroOK P){t:TypeId}(ht:t<P.types.size){x y:Array (Nat×Value)}(h:PR α x.toList y.toList): Sim P VR α (Instr.build t x) (Instr.build t y):=by
 unfold Instr.build;refine sim_bind (sim_zeroValue hz ht) ?_;rintro β z z' hle ⟨rfl,hg⟩;have hm:∀{γ:AM} (_:Le α γ) {l l':List (Nat×Value)},PR α l l'→PR γ l l':=by
  intro γ hγ l l' hl;induction hl with
  | nil=>exact .nil
  | cons h _ ih=>exact .cons ⟨h.1,h.2.mono hγ⟩ ih
 refine sim_bind (sim_underlying t) ?_;rintro γ d d' hle2 ⟨rfl,-⟩;have hl:=hle.trans hle2;cases d with
 | struct fields=>
  refine sim_bind (sim_mapM_arr _ fields fun f _ β _=>?_) ?_
  ·refine sim_bind (sim_sizeOf f.type) ?_;rintro _ n n' - ⟨rfl,-⟩;exact sim_pure rfl
  rintro δ p p' hle3 rfl;rcases fill_rel (α:=δ) (p[·]?) x.toList y.toList (VRs.refl hg) (hm (hl.trans hle3) h)with ⟨e,e'⟩ | ⟨u,u',e,e',hu⟩
  ·rw [e,e'];exact sim_stuck
  rw [e,e'];exact sim_pure (.agg hu.1 hu.2)
 | array len elem=>
  refine sim_bind (sim_sizeOf elem) ?_;rintro δ n n' hle3 ⟨rfl,-⟩;rcases fill_rel (α:=δ) (fun i=>some (i*n,n)) x.toList y.toList (VRs.refl hg) (hm (hl.trans hle3) h)with ⟨e,e'⟩ | ⟨u,u',e,e',hu⟩
  ·rw [e,e'];exact sim_stuck
  rw [e,e'];exact sim_pure (.agg hu.1 hu.2)
 | _=>exact sim_stuck
theorem sim_buildSlice(hz:ZeroOK P){t:TypeId}(ht:t<P.types.size)(len:Nat)(hG:len<G){x y:Array (Nat×Value)}(h:PR α x.toList y.toList): Sim P VR α (Instr.buildSlice t len x) (Instr.buildSlice t len y):=by
 unfold Instr.buildSlice;have hm:∀{γ:AM} (_:Le α γ) {l l':List (Nat×Value)},PR α l l'→PR γ l l':=by
  intro γ hγ l l' hl;induction hl with
  | nil=>exact .nil
  | cons h _ ih=>exact .cons ⟨h.1,h.2.mono hγ⟩ ih
 refine sim_bind (sim_underlying t) ?_;rintro β d d' hle ⟨rfl,hd⟩;cases d with
 | slice elem=>
  refine sim_bind (sim_sizeOf elem) ?_;rintro γ n n' hle2 ⟨rfl,-⟩;by_cases hb:len*n > 2 ^ 24
  ·simp only [hb,if_true];exact sim_unsupported_bind
  simp only [hb,if_false];have key:∀{δ:AM} (z:Array Value),Le γ δ→VRs δ z z→Sim P VR δ
    (do
     let some cells:=Instr.fill (fun i=>some (i*n,n)) ((Array.range (len*n)).map (z[· % z.size]!)) x.toList | stuck "buildSlice: a part of the wrong size"
     pure (.slice (some (←newRow elem cells)) len len))
    (do
     let some cells:=Instr.fill (fun i=>some (i*n,n)) ((Array.range (len*n)).map (z[· % z.size]!)) y.toList | stuck "buildSlice: a part of the wrong size"
     pure (.slice (some (←newRow elem cells)) len len)):=by
   intro δ z hle3 hz';have hr:VRs δ ((Array.range (len*n)).map (fun i=>z[i % z.size]!)) ((Array.range (len*n)).map (fun i=>z[i % z.size]!)):=by
    refine⟨rfl,fun i h1 h2=>?_⟩;simp only [Array.getElem_map,Array.getElem_range];by_cases e:i % z.size<z.size
    ·rw [getElem!_pos z _ e];exact hz'.2 _ e e
    rw [getElem!_neg z _ e];exact .bool false
   rcases fill_rel (α:=δ) (fun i=>some (i*n,n)) x.toList y.toList hr (hm ((hle.trans hle2).trans hle3) h)with ⟨e,e'⟩ | ⟨u,u',e,e',hu⟩
   ·rw [e,e'];exact sim_stuck
   rw [e,e'];refine sim_bind (sim_newRow elem elem hu) ?_;rintro ε a a' _ ⟨b,L,rfl,h2,h3,_,rfl⟩;have hv:=VR.sliceX (α:=ε) (off:=0) (len:=len) (cap:=len) h2 hG;rw [h3]at hv;exact sim_pure hv
  split
  ·exact key #[] (.refl _) .nil
  refine sim_bind (sim_zeroValue hz (hz.sl _ _ ht hd)) ?_;rintro β' a b hle3 ⟨rfl,hg⟩;exact key a.cells hle3 (VRs.refl hg)
 | _=>exact sim_stuck
theorem wrap64_lt(n:Int): (IntKind.i64.wrap n).toNat<G:=by unfold IntKind.wrap G;simp only [IntKind.bits,IntKind.signed,Bool.true_and];split <;> rename_i h <;> simp at h <;> omega
theorem sim_makeSlice (hz : ZeroOK P) {t : TypeId} (ht : t < P.types.size) {v v' u u' : Value} (hv : VR α v v') (hu : VR α u u') : Sim P VR α (Instr.makeSlice t v u) (Instr.makeSlice t v' u') := by
  unfold Instr.makeSlice
  refine sim_bind (sim_underlying t) ?_
  rintro β d d' hle ⟨rfl, hd⟩
  cases d with
  | slice elem =>
    refine sim_bind (sim_asInt (hv.mono hle)) ?_
    rintro γ len len' hle1 rfl
    refine sim_bind (sim_asInt (hu.mono (hle.trans hle1))) ?_
    rintro δ cap cap' hle2 rfl
    refine sim_bind (sim_typeInfo elem) ?_
    rintro ε i i' hle3 ⟨rfl, -⟩
    have key : ∀ {δ : AM} (n : Nat) (z : Array Value), Le ε δ → VRs δ z z → Sim P VR δ
        (do let a ← newRow elem ((Array.range n).map (z[· % z.size]!)); pure (.slice (some a) (IntKind.i64.wrap len).toNat (IntKind.i64.wrap cap).toNat))
        (do let a ← newRow elem ((Array.range n).map (z[· % z.size]!)); pure (.slice (some a) (IntKind.i64.wrap len).toNat (IntKind.i64.wrap cap).toNat)) := by
      intro δ n z hle3 hz'
      have hr : VRs δ ((Array.range n).map (fun i => z[i % z.size]!)) ((Array.range n).map (fun i => z[i % z.size]!)) := by
        refine ⟨rfl, fun i h1 h2 => ?_⟩
        simp only [Array.getElem_map, Array.getElem_range]
        by_cases e : i % z.size < z.size
        · rw [getElem!_pos z _ e]; exact hz'.2 _ e e
        · rw [getElem!_neg z _ e]; exact .bool false
      refine sim_bind (sim_newRow elem elem hr) ?_
      rintro ε a a' _ ⟨b, L, rfl, h2, h3, _, rfl⟩
      have hv := VR.sliceX (α := ε) (off := 0) (len := (IntKind.i64.wrap len).toNat) (cap := (IntKind.i64.wrap cap).toNat) h2 (wrap64_lt cap)
      rw [h3] at hv
      exact sim_pure hv
    have fin : Sim P VR ε
        (do
          askRoom ((IntKind.i64.wrap cap).toNat * i.bytes)
          let n := (IntKind.i64.wrap cap).toNat * (← sizeOf elem)
          let zero ← if n = 0 then pure #[] else do pure (← zeroValue elem).cells
          let a ← newRow elem ((Array.range n).map (zero[· % zero.size]!))
          pure (.slice (some a) (IntKind.i64.wrap len).toNat (IntKind.i64.wrap cap).toNat))
        (do
          askRoom ((IntKind.i64.wrap cap).toNat * i.bytes)
          let n := (IntKind.i64.wrap cap).toNat * (← sizeOf elem)
          let zero ← if n = 0 then pure #[] else do pure (← zeroValue elem).cells
          let a ← newRow elem ((Array.range n).map (zero[· % zero.size]!))
          pure (.slice (some a) (IntKind.i64.wrap len).toNat (IntKind.i64.wrap cap).toNat)) := by
      have hroom : Sim P (fun _ _ _ => True) ε (askRoom ((IntKind.i64.wrap cap).toNat * i.bytes)) (askRoom ((IntKind.i64.wrap cap).toNat * i.bytes)) := by
        unfold askRoom
        split
        · exact .mark (.pure trivial)
        · exact sim_pure trivial
      refine sim_bind hroom ?_
      rintro ζ - - hle4 -
      refine sim_bind (sim_sizeOf elem) ?_
      rintro η n n' hle5 ⟨rfl, -⟩
      dsimp only
      split
      · exact key _ #[] (hle4.trans hle5) .nil
      · refine sim_bind (sim_zeroValue hz (hz.sl _ _ ht hd)) ?_
        rintro θ a b hle6 ⟨rfl, hg⟩
        exact key _ a.cells ((hle4.trans hle5).trans hle6) (VRs.refl hg)
    simp only
    split
    · refine .dead fun m => ?_
      split
      · exact dead_bindl _ _ (fun m => runtimePanic_dead _ m) m
      · split
        · exact dead_bindl _ _ (fun m => runtimePanic_dead _ m) m
        · rfl
    · exact fin
  | _ => exact sim_stuck
theorem sim_fieldAt(s:TypeId){v v':Value}(h:VR α v v')(f:Nat): Sim P VR α (Instr.fieldAt s v f) (Instr.fieldAt s v' f):=by
 unfold Instr.fieldAt;refine sim_bind (sim_underlying s) ?_;rintro β d d' hle ⟨rfl,-⟩;cases d with
 | struct fields=>
  cases hf:fields[f]? with
  | none=>simp only [hf];exact sim_stuck
  | some fl=>
   simp only [hf];refine sim_bind (sim_sureAddr (h.mono hle)) ?_;intro γ a a' _ ha;unfold fieldPlace;refine sim_bind (R:=AR) ?_ fun _ _ _ _ hb=>sim_pure hb.ptr;refine sim_bind (sim_sizeOf fl.type) ?_;rintro δ n n' hle3 ⟨rfl,-⟩;by_cases hn:n=0
   ·simp only [hn,if_true];obtain⟨b,off,L,rfl,h2,rfl⟩:=ha;exact .dead fun m=>rfl
   simp only [hn,if_false];exact sim_pure ((ha.mono hle3).add _)
 | _=>exact sim_stuck
theorem sim_tiny{A B:Type}{R:AM→A→B→Prop}{c:Prop}[Decidable c]{u:Unsupported}{k:IntKind}{x y:Int}{z:BoundsCode}{s:Sem B}: Sim P R α (if c then (unsupported u:Sem A) else boundsPanic k x y z) s:=by
 split
 ·exact sim_unsupported
 exact sim_boundsPanic
theorem sim_indexAt(t:TypeId){v v' i i':Value}(h:VR α v v')(hi:VR α i i'): Sim P VR α (Instr.indexAt t v i) (Instr.indexAt t v' i'):=by
 unfold Instr.indexAt;refine sim_bind (sim_asIntOf hi) ?_;rintro β ⟨k,n⟩ _ hle rfl;dsimp only;refine sim_bind (sim_underlying t) ?_;rintro γ d d' hle2 ⟨rfl,-⟩;have h2:=h.mono (hle.trans hle2);cases d with
 | array len elem=>
  dsimp only;refine sim_bind (sim_sureAddr h2) ?_;intro δ a a' hle3 ha;simp only [pure_bind];refine sim_bind (sim_underlying t) ?_;rintro ε d2 d2' hle4 ⟨rfl,-⟩;by_cases hc:0≤n∧n<(len:Int)
  ·simp only [hc,and_self,if_true];refine sim_bind (sim_sizeOf elem) ?_;rintro ζ s s' hle5 ⟨rfl,-⟩;exact sim_pure ((ha.mono (hle4.trans hle5)).add _).ptr
  simp only [hc,if_false];exact sim_tiny
 | slice elem=>
  cases h2 with
  | sliceN l c=>
   simp only [pure_bind];refine sim_bind (sim_underlying t) ?_;rintro ε d2 d2' hle4 ⟨rfl,-⟩;exact sim_boundsPanic
  | @sliceX b off len cap L hb hc0=>
   have ha:AR γ ⟨b,off,none⟩ ⟨L.blk,L.sh+off,none⟩:=⟨_,_,_,rfl,hb,rfl⟩;simp only [pure_bind];refine sim_bind (sim_underlying t) ?_;rintro ε d2 d2' hle4 ⟨rfl,-⟩;by_cases hc:0≤n∧n<(len:Int)
   ·simp only [hc,and_self,if_true];refine sim_bind (sim_sizeOf elem) ?_;rintro ζ s s' hle5 ⟨rfl,-⟩;exact sim_pure ((ha.mono (hle4.trans hle5)).add _).ptr
   simp only [hc,if_false];exact sim_tiny
  | @sliceG b off len cap es L hb hl ht=>
   have ha:AR γ ⟨b,off,none⟩ ⟨L.blk,L.sh+off,none⟩:=⟨_,_,_,rfl,hb,rfl⟩;simp only [pure_bind];refine sim_bind (sim_underlying t) ?_;rintro ε d2 d2' hle4 ⟨rfl,-⟩;by_cases hc:0≤n∧n<(len:Int)
   ·simp only [hc,and_self,if_true];refine sim_bind (sim_sizeOf elem) ?_;rintro ζ s s' hle5 ⟨rfl,-⟩;exact sim_pure ((ha.mono (hle4.trans hle5)).add _).ptr
   simp only [hc,if_false];exact sim_tiny
  | sliceE h=>
   simp only [pure_bind];refine sim_bind (sim_underlying t) ?_;rintro ε d2 d2' hle4 ⟨rfl,-⟩;have hc:¬(0≤n∧n<((0:Nat):Int)):=(by omega);simp only [hc,if_false];exact sim_tiny
  | _=>exact sim_stuck
 | _=>exact sim_stuck
theorem sim_field(t:TypeId){v v':Value}(h:VR α v v')(f:Nat): Sim P VR α (Instr.field t v f) (Instr.field t v' f):=by
 unfold Instr.field;refine sim_bind (sim_underlying t) ?_;rintro β d d' hle ⟨rfl,-⟩;cases d with
 | struct fields=>
  cases hf:fields[f]? with
  | none=>simp only [hf];exact sim_stuck
  | some fl=>
   simp only [hf];refine sim_bind (R:=VRs) ?_ fun γ a a' _ ha=>sim_part _ ha _;cases h with
   | agg hx hr=>exact sim_pure (VRs.mono hle ⟨hx,hr⟩)
   | _=>exact sim_stuck
 | _=>exact sim_stuck
theorem sim_index(t:TypeId){v v' i i':Value}(h:VR α v v')(hi:VR α i i'): Sim P VR α (Instr.index t v i) (Instr.index t v' i'):=by
 unfold Instr.index;refine sim_bind (sim_asIntOf hi) ?_;rintro β ⟨k,n⟩ _ hle rfl;dsimp only;refine sim_bind (sim_underlying t) ?_;rintro γ d d' hle2 ⟨rfl,-⟩;have h2:=h.mono (hle.trans hle2);cases d with
 | array len elem=>
  cases h2 with
  | agg hx hr=>
   by_cases hc:0≤n∧n<(len:Int)
   ·simp only [hc,and_self,if_true];refine sim_bind (sim_sizeOf elem) ?_;rintro ζ s s' hle5 ⟨rfl,-⟩;exact sim_part _ (VRs.mono hle5 ⟨hx,hr⟩) _
   simp only [hc,if_false];exact sim_boundsPanic
  | _=>exact sim_stuck
 | string=>
  cases h2 with
  | string s=>
   dsimp only;split
   ·exact sim_pure (.int _ _)
   exact sim_boundsPanic
  | _=>exact sim_stuck
 | _=>exact sim_stuck
theorem sim_makeMap(t:TypeId): Sim P VR α (Instr.makeMap t none) (Instr.makeMap t none):=by unfold Instr.makeMap;exact Sim.newObj (.map ⟨rfl,fun i h=>absurd h (Nat.not_lt_zero _)⟩ 0) fun β b L _ h _=>.pure (.map h)
theorem sim_makeInterface(t:TypeId){v v':Value}(h:VR α v v'): Sim P VR α (Instr.makeInterface t v) (Instr.makeInterface t v'):=by
 unfold Instr.makeInterface;refine sim_bind (sim_underlying t) ?_;rintro γ d d' hle ⟨rfl,-⟩;cases d with
 | interface _=>exact sim_stuck
 | _=>exact sim_pure (.iface t (h.mono hle))
theorem sim_extract{v v':Value}(h:VR α v v')(i:Nat): Sim P VR α (Instr.extract v i) (Instr.extract v' i):=by
 unfold Instr.extract;cases h with
 | tuple hx hr=>
  dsimp only;rcases VRs.get? (α:=α) ⟨hx,hr⟩ i with ⟨e,e'⟩ | ⟨u,u',e,e',hu⟩
  ·rw [e,e'];exact sim_stuck
  rw [e,e'];exact sim_pure hu
 | _=>exact sim_stuck
def scalar:Value→Bool
 | .bool _ | .int _ _ | .string _=>true
 | _=>false
theorem sim_checkKey(e e':Bool)(n:Nat)(t:TypeId){v:Value}(h:scalar v=true): Sim P (fun _ _ _=>True) α (Instr.checkKey e (n+1) t v) (Instr.checkKey e' (n+1) t v):=by unfold Instr.checkKey;refine sim_bind (sim_underlying t) ?_;rintro γ d d' hle ⟨rfl,-⟩;cases v <;> first | (simp [scalar]at h;done) | (cases d <;> first | exact sim_stuck | exact sim_pure trivial)
theorem sim_equal_scalar(t:TypeId){k:Value}(key:Value)(h:scalar k=true): Sim P (fun _ a b=>a=b) α (Op.equal t k key) (Op.equal t k key):=by
 unfold Op.equal Op.maxDepth;show Sim P _ α (Op.equalIn (9999+1) t k key) (Op.equalIn (9999+1) t k key);unfold Op.equalIn;refine sim_bind (sim_underlying t) ?_;rintro γ d d' hle ⟨rfl,-⟩;cases k with
 | bool x=>cases key <;> cases d <;> first | exact sim_pure rfl | exact sim_stuck | exact sim_unsupported
 | string x=>cases key <;> cases d <;> first | exact sim_pure rfl | exact sim_stuck | exact sim_unsupported
 | int kd x=>
  cases key with
  | int k' y=>
   cases d with
   | int _=>
    by_cases e:kd=k'
    ·simp only [e,if_true];exact sim_pure rfl
    simp only [e,if_false];exact sim_stuck
   | _=>exact sim_stuck
  | pointer p=>
   cases d with
   | int _=>
    split <;> first | exact sim_pure rfl | exact sim_unsupported | exact sim_stuck | contradiction | simp_all
   | _=>first | exact sim_stuck | exact sim_unsupported
  | _=>cases d <;> first | exact sim_stuck | exact sim_unsupported
 | _=>simp [scalar]at h
def FR(α:AM)(a b:Option (Nat×Value)): Prop:=(a=none∧b=none)∨∃i v v',a=some (i,v)∧b=some (i,v')∧VR α v v'
theorem FR.mono{β:AM}(h:Le α β){a b:Option (Nat×Value)}(k:FR α a b): FR β a b:=by
 rcases k with k | ⟨i,v,v',h1,h2,h3⟩
 ·exact .inl k
 exact .inr ⟨i,v,v',h1,h2,h3.mono h⟩
theorem findNow_rel(kd:TypeDesc)(k:Value): ∀(l l':List MapEntry) (i:Nat),F2 (EntR α) l l'→(Instr.findNow kd k l i=none∧Instr.findNow kd k l' i=none)∨
  ∃a b,Instr.findNow kd k l i=some a∧Instr.findNow kd k l' i=some b∧FR α a b
 | _,_,_,.nil=>.inr ⟨none,none,rfl,rfl,.inl ⟨rfl,rfl⟩⟩
 | _,_,i,@F2.cons _ _ _ e e' l l' h k'=>by
  simp only [Instr.findNow,←h.1];cases Instr.sameNow kd k e.key with
  | none=>exact .inl ⟨rfl,rfl⟩
  | some b=>cases b with
   | true=>exact .inr ⟨_,_,rfl,rfl,.inr ⟨i,_,_,rfl,rfl,h.2.2⟩⟩
   | false=>exact findNow_rel kd k l l' (i+1) k'
theorem F2.mono'{A B:Type}{R S:A→B→Prop}(h:∀a b,R a b→S a b): ∀{l l'},F2 R l l'→F2 S l l'
 | _,_,.nil=>.nil
 | _,_,.cons a b=>.cons (h _ _ a) (F2.mono' h b)
theorem EntR.mono{β:AM}(h:Le α β){a b:MapEntry}(k:EntR α a b): EntR β a b:=⟨k.1,k.2.1,k.2.2.mono h⟩
theorem sim_findAsking(t:TypeId){k:Value}(hk:scalar k=true): ∀(l l':List MapEntry) (i:Nat) {α:AM},F2 (EntR α) l l'→Sim P FR α (Instr.findAsking t k l i) (Instr.findAsking t k l' i)
 | _,_,_,_,.nil=>sim_pure (.inl ⟨rfl,rfl⟩)
 | _,_,i,α,@F2.cons _ _ _ e e' l l' h k'=>by
  unfold Instr.findAsking;rw [←h.1];refine sim_bind (sim_equal_scalar t e.key hk) ?_;rintro β b _ hle rfl;cases b
  ·exact sim_findAsking t hk l l' (i+1) (k'.mono' fun _ _=>EntR.mono hle)
  exact sim_pure (.inr ⟨i,_,_,rfl,rfl,h.2.2.mono hle⟩)
theorem EntsR.f2{x x':Array MapEntry}(h:EntsR α x x'): F2 (EntR α) x.toList x'.toList:=by
 have:∀(l l':List MapEntry),l.length=l'.length→(∀(i:Nat) (h:i<l.length) (h':i<l'.length),EntR α l[i] l'[i])→F2 (EntR α) l l':=by
  intro l;induction l with
  | nil=>intro l' hl _;cases l' with
   | nil=>exact .nil
   | cons _ _=>simp at hl
  | cons a l ih=>
   intro l' hl hv;cases l' with
   | nil=>simp at hl
   | cons b l'=>exact .cons (hv 0 (by simp) (by simp)) (ih l' (by simpa using hl) fun i h1 h2=>hv (i+1) (by simpa using h1) (by simpa using h2))
 exact this _ _ (by simpa using h.1) fun i h1 h2=>by simpa using h.2 i (by simpa using h1) (by simpa using h2)
theorem sim_findKey(t:TypeId){k:Value}(hk:scalar k=true){l l':List MapEntry}(h:F2 (EntR α) l l'): Sim P FR α (Instr.findKey t k l) (Instr.findKey t k l'):=by
 unfold Instr.findKey;refine sim_bind (sim_underlying t) ?_;rintro β d d' hle ⟨rfl,-⟩;rcases findNow_rel d k l l' 0 (h.mono' fun _ _=>EntR.mono hle)with ⟨e,e'⟩ | ⟨a,b,e,e',hab⟩
 ·rw [e,e'];exact sim_findAsking t hk _ _ 0 (h.mono' fun _ _=>EntR.mono hle)
 rw [e,e'];exact sim_pure hab
end
end
section
noncomputable section
variable {P:Program} {α:AM}
theorem VR.scalar_eq{v v':Value}(h:VR α v v')(hs:scalar v=true): v'=v:=by cases h <;> first | rfl | (simp [scalar]at hs)
theorem EntsR.nil:EntsR α #[] #[]:=⟨rfl,fun _ h=>absurd h (Nat.not_lt_zero _)⟩
theorem EntsR.get?{x x':Array MapEntry}(h:EntsR α x x')(i:Nat): (x[i]?=none∧x'[i]?=none)∨∃v v',x[i]?=some v∧x'[i]?=some v'∧EntR α v v':=by
 by_cases e:i<x.size
 ·have e':i<x'.size:=by rw [←h.1];exact e
  exact .inr ⟨x[i],x'[i],Array.getElem?_eq_getElem e,Array.getElem?_eq_getElem e',h.2 i e e'⟩
 exact .inl ⟨Array.getElem?_eq_none (by omega),Array.getElem?_eq_none (by rw [←h.1];omega)⟩
theorem EntsR.push{x x':Array MapEntry}(h:EntsR α x x'){v v':MapEntry}(hv:EntR α v v'): EntsR α (x.push v) (x'.push v'):=by
 refine⟨by simp [h.1],fun i h1 h2=>?_⟩;by_cases e:i<x.size
 ·rw [Array.getElem_push_lt e,Array.getElem_push_lt (by rw [←h.1];exact e)];exact h.2 i _ _
 have:i=x.size:=by simp at h1;omega
 subst this;have e2:x.size=x'.size:=h.1;simp only [Array.getElem_push_eq];have:(x'.push v')[x.size]'h2=v':=by simp [e2]
 rw [this];exact hv
theorem EntsR.modify{x x':Array MapEntry}(h:EntsR α x x')(i:Nat){f f':MapEntry→MapEntry}(hf:∀a b,EntR α a b→EntR α (f a) (f' b)): EntsR α (x.modify i f) (x'.modify i f'):=by
 refine⟨by simp [h.1],fun j h1 h2=>?_⟩;rw [Array.getElem_modify,Array.getElem_modify];split
 ·exact hf _ _ (h.2 _ _ _)
 exact h.2 _ _ _
theorem EntsR.isEmpty{x x':Array MapEntry}(h:EntsR α x x'): x.isEmpty=x'.isEmpty:=by simp [Array.isEmpty,h.1]
theorem sim_lookup(hz:ZeroOK P){t:TypeId}(ht:t<P.types.size){m m' k:Value}(h:VR α m m')(hk:scalar k=true)(ok:Bool): Sim P VR α (Instr.lookup t m k ok) (Instr.lookup t m' k ok):=by
 unfold Instr.lookup;refine sim_bind (sim_underlying t) ?_;rintro β d d' hle ⟨rfl,hd⟩;cases d with
 | map kt elem=>
  have key:∀{γ:AM} {es es':Array MapEntry},EntsR γ es es'→Sim P VR γ
    (do
     Instr.checkKey es.isEmpty 10000 kt k
     let (v,ok') ←match ←Instr.findKey kt k es.toList with
      | some (_,v)=>pure (v,true)
      | none=>pure (←zeroValue elem,false)
     pure (if ok then .tuple #[v,.bool ok'] else v))
    (do
     Instr.checkKey es'.isEmpty 10000 kt k
     let (v,ok') ←match ←Instr.findKey kt k es'.toList with
      | some (_,v)=>pure (v,true)
      | none=>pure (←zeroValue elem,false)
     pure (if ok then .tuple #[v,.bool ok'] else v)):=by
   intro γ es es' he;refine sim_bind (sim_checkKey _ _ 9999 kt hk) ?_;intro δ _ _ hle2 _;refine sim_bind (sim_findKey kt hk (EntsR.f2 (he.mono hle2))) ?_;intro ε a b hle3 hab;rcases hab with ⟨rfl,rfl⟩ | ⟨i,v,v',rfl,rfl,hv⟩
   ·dsimp only;refine sim_bind (sim_zeroValue hz (hz.mp _ _ _ ht hd)) ?_;rintro ζ z _ - ⟨rfl,hg⟩;cases ok
    ·exact sim_pure (VR.refl hg)
    refine sim_pure (.tuple rfl ?_);intro i h1 h2;match i,h1 with
    | 0,_=>exact VR.refl hg
    | 1,_=>exact .bool _
   dsimp only;cases ok
   ·exact sim_pure hv
   refine sim_pure (.tuple rfl ?_);intro i h1 h2;match i,h1 with
   | 0,_=>exact hv
   | 1,_=>exact .bool _
  have hm:=h.mono hle;cases hm with
  | mapN=>exact key .nil
  | map hb=>
   refine Sim.getObj hb fun _ _ he=>?_;cases he with
   | map he cl=>exact key he
   | siter x p=>exact sim_stuck
  | _=>exact sim_stuck
 | _=>exact sim_stuck
theorem sim_keyThatStays(a b:Value): Sim P (fun _ x y=>x=y) α (Instr.keyThatStays a b) (Instr.keyThatStays a b):=by
 unfold Instr.keyThatStays;split
 ·exact sim_pure rfl
 exact .dead fun _=>rfl
theorem sim_getObj{r:Nat}{L:Loc}(h:α r=some L): Sim P ObjR α (getObj r) (getObj L.blk):=
 Sim.getObj h fun _ _ he=>.pure he
theorem sim_setObj{r:Nat}{L:Loc}(h:α r=some L){es es':Array MapEntry}(he:EntsR α es es')(cl:Nat): Sim P (fun _ _ _=>True) α (setObj r (.map es cl)) (setObj L.blk (.map es' cl)):=
 Sim.setObj h (.map he cl) (.pure trivial)
theorem sim_mapUpdate(t:TypeId){m m' k v v':Value}(h:VR α m m')(hk:scalar k=true)(hv:VR α v v'): Sim P (fun _ _ _=>True) α (Instr.mapUpdate t m k v) (Instr.mapUpdate t m' k v'):=by
 unfold Instr.mapUpdate;refine sim_bind (sim_underlying t) ?_;rintro β d d' hle ⟨rfl,-⟩;cases d with
 | map kt elem=>
  have hm:=h.mono hle;cases hm with
  | mapN=>exact sim_runtimePanic
  | map hb=>
   refine sim_bind (sim_getObj hb) ?_;intro β0 _ _ hle0 he;cases he with
   | siter x p=>exact sim_stuck
   | @map es es' he cl=>
   dsimp only;refine sim_bind (sim_checkKey _ _ 9999 kt hk) ?_;intro δ _ _ hle2 _;refine sim_bind (sim_findKey kt hk (EntsR.f2 (he.mono hle2))) ?_;intro ε a b hle3 hab;have he2:=he.mono (hle2.trans hle3);have hb2:=hle3 _ _ (hle2 _ _ (hle0 _ _ hb));have hv2:=hv.mono (hle.trans (hle0.trans (hle2.trans hle3)));rcases hab with ⟨rfl,rfl⟩ | ⟨i,u,u',rfl,rfl,hu⟩
   ·dsimp only;exact sim_setObj hb2 (he2.push (v:={ key:=k,val:=v,born:=cl }) (v':={ key:=k,val:=v',born:=cl }) ⟨rfl,rfl,hv2⟩) _
   dsimp only;have e:(((es'[i]?).map (·.key)).getD k)=(((es[i]?).map (·.key)).getD k):=by
    rcases he2.get? i with ⟨a,b⟩ | ⟨x,y,a,b,c⟩
    ·rw [a,b]
    rw [a,b];simp [c.1]
   rw [e];refine sim_bind (sim_keyThatStays _ _) ?_;rintro ζ q _ hle4 rfl;exact sim_setObj (hle4 _ _ hb2) ((he2.mono hle4).modify i (f:=fun e=>{ e with key:=q,val:=v }) (f':=fun e=>{ e with key:=q,val:=v' }) fun a b hab=>⟨rfl,hab.2.1,hv2.mono hle4⟩) _
  | _=>exact sim_stuck
 | _=>exact sim_stuck
theorem sim_mapEntry(hz:ZeroOK P){t:TypeId}(ht:t<P.types.size){m m' k:Value}(h:VR α m m')(hk:scalar k=true): Sim P VR α (Instr.mapEntry t m k) (Instr.mapEntry t m' k):=by
 unfold Instr.mapEntry;refine sim_bind (sim_underlying t) ?_;rintro β d d' hle ⟨rfl,hd⟩;cases d with
 | map kt elem=>
  have hm:=h.mono hle;cases hm with
  | mapN=>exact sim_runtimePanic
  | map hb=>
   refine sim_bind (sim_getObj hb) ?_;intro β0 _ _ hle0 he;cases he with
   | siter x p=>exact sim_stuck
   | @map es es' he cl=>
   dsimp only;refine sim_bind (sim_checkKey _ _ 9999 kt hk) ?_;intro δ _ _ hle2 _;refine sim_bind (sim_findKey kt hk (EntsR.f2 (he.mono hle2))) ?_;intro ε a b hle3 hab;have he2:=he.mono (hle2.trans hle3);have hb2:=hle3 _ _ (hle2 _ _ (hle0 _ _ hb));rcases hab with ⟨rfl,rfl⟩ | ⟨i,u,u',rfl,rfl,hu⟩
   ·dsimp only;refine sim_bind (sim_zeroValue hz (hz.mp _ _ _ ht hd)) ?_;rintro ζ z _ hle4 ⟨rfl,hg⟩;refine sim_bind (sim_setObj (hle4 _ _ hb2) ((he2.mono hle4).push ⟨rfl,rfl,VR.refl hg⟩) _) ?_;intro η _ _ _ _;refine sim_pure (.tuple rfl ?_);intro i h1 h2;match i,h1 with
    | 0,_=>exact VR.refl hg
    | 1,_=>exact .int _ _
   dsimp only;have e:(((es'[i]?).map (·.key)).getD k)=(((es[i]?).map (·.key)).getD k)∧(((es'[i]?).map fun x=>(x.born:Int)).getD 0)=(((es[i]?).map fun x=>(x.born:Int)).getD 0):=by
    rcases he2.get? i with ⟨a,b⟩ | ⟨x,y,a,b,c⟩
    ·rw [a,b];exact⟨rfl,rfl⟩
    rw [a,b];simp [c.1,c.2.1]
   rw [e.1,e.2];refine sim_bind (sim_keyThatStays _ _) ?_;rintro ζ q _ hle4 rfl;refine sim_bind (sim_setObj (hle4 _ _ hb2) ((he2.mono hle4).modify i (f:=fun e=>{ e with key:=q }) (f':=fun e=>{ e with key:=q }) fun a b hab=>⟨rfl,hab.2.1,hab.2.2⟩) _) ?_;intro η _ _ hle5 _;refine sim_pure (.tuple rfl ?_);intro i h1 h2;match i,h1 with
   | 0,_=>exact hu.mono (hle4.trans hle5)
   | 1,_=>exact .int _ _
  | _=>exact sim_stuck
 | _=>exact sim_stuck
theorem findIdx_rel(p:MapEntry→Bool)(hp:∀a b:MapEntry,a.born=b.born→p a=p b){x x':Array MapEntry}(h:EntsR α x x'): x'.findIdx? p=x.findIdx? p:=by
 have:∀(l l':List MapEntry),F2 (EntR α) l l'→l'.findIdx? p=l.findIdx? p:=by
  intro l l' k;induction k with
  | nil=>rfl
  | cons h _ ih=>simp only [List.findIdx?_cons,hp _ _ h.2.1,ih]
 have:=this _ _ h.f2;obtain⟨l⟩:=x;obtain⟨l'⟩:=x';simpa using this
theorem sim_entryStore(t:TypeId){m m' s s' v v':Value}(h:VR α m m')(hs:VR α s s')(hv:VR α v v'): Sim P (fun _ _ _=>True) α (Instr.entryStore t m s v) (Instr.entryStore t m' s' v'):=by
 unfold Instr.entryStore;cases h with
 | map hb=>
  refine sim_bind (sim_getObj hb) ?_;intro β0 _ _ hle0 he;cases he with
  | siter x p=>exact sim_stuck
  | @map es es' he cl=>
  dsimp only;refine sim_bind (sim_asInt (hs.mono hle0)) ?_;rintro β n _ hle rfl;have he2:=he.mono hle;rw [findIdx_rel (fun e=>(e.born:Int) == n) (fun a b e=>by simp [e]) he2];cases es.findIdx? (fun e=>(e.born:Int) == n)with
  | none=>exact sim_unsupported
  | some i=>exact sim_setObj (hle _ _ (hle0 _ _ hb)) (he2.modify i (f:=fun e=>{ e with val:=v }) (f':=fun e=>{ e with val:=v' }) fun a b hab=>⟨hab.1,hab.2.1,hv.mono (hle0.trans hle)⟩) _
 | _=>exact sim_stuck
theorem EntsR.erase{x x':Array MapEntry}(h:EntsR α x x')(i:Nat): EntsR α (x.eraseIdxIfInBounds i) (x'.eraseIdxIfInBounds i):=by
 have e1:∀y:Array MapEntry,(y.eraseIdxIfInBounds i).toList=y.toList.eraseIdx i:=by
  intro y;unfold Array.eraseIdxIfInBounds;split
  ·simp
  rw [List.eraseIdx_of_length_le];simpa using (by omega)
 have hl:(x.toList.eraseIdx i).length=(x'.toList.eraseIdx i).length:=by simp [List.length_eraseIdx,h.1]
 have h1:∀y:Array MapEntry,(y.eraseIdxIfInBounds i).size=(y.toList.eraseIdx i).length:=fun y=>by rw [←e1,Array.length_toList]
 refine⟨by rw [h1,h1,hl],fun j a b=>?_⟩;have g:∀(y:Array MapEntry) (hj:j<(y.eraseIdxIfInBounds i).size),(y.eraseIdxIfInBounds i)[j]=(y.toList.eraseIdx i)[j]'(by rw [←h1];exact hj):=by intro y hj;simp only [←Array.getElem_toList,e1]
 rw [g,g,List.getElem_eraseIdx,List.getElem_eraseIdx];split
 ·simpa using h.2 j (by have:=h1 x;rw [List.length_eraseIdx]at this;simp at this;split at this <;> omega) (by have:=h1 x';rw [List.length_eraseIdx]at this;simp at this;split at this <;> omega)
 simpa using h.2 (j+1) (by have:=h1 x;rw [List.length_eraseIdx]at this;simp at this;split at this <;> omega) (by have:=h1 x';rw [List.length_eraseIdx]at this;simp at this;split at this <;> omega)
end
end
end Go.Den
